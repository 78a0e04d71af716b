/- Several texts in one (merge.py): PFRDigits, PFRQuoted, PFRPrint, PFRPlace, PFRSaid, PFRParse; no conditions beyond those in each theorem's head. -/
import Derived.Test.YteehcopkljiikaaDoorPAx0
import Derived.Test.YteehcopkljiikaaDoorPAxI
import Derived.Test.YteehcopkljiikaaDoorMD
import Derived.Test.YteehcopkljiikaaDoorMB
import Derived.Test.YteehcopkljiikaaDoorPAx1
section
namespace Go.Proofs.YteehcopkljiikaaDoor.PA
open Go.RowKit Go.Proofs.YteehcopkljiikaaDoorW.PrintWords Go.Proofs.YteehcopkljiikaaDoorW.PrintLast Go.Proofs.YteehcopkljiikaaDoorW.PrintMore Go.Proofs.YteehcopkljiikaaDoorX
attribute [local go_sem] max2_int min2_int max_two min_two max_three min_three max_four min_four   -- for this text's walks alone
set_option linter.unusedVariables false
set_option linter.unusedSimpArgs false
/-! ### unisonref01_Digits: function 57 -/
mutual
def unisonref01_Digits.j0 : Nat → Int → Int → Int → Option (ByteArray)
 | 0, _, _, _ => none
 | k + 1, x0, x3, x4 => if 0 ≤ x4 then (if x4 ≤ (wrap64 (x4 + 1)) then (if (wrap64 (x4 + 1)) ≤ 10 then (unisonref01_Digits.l0 k x0 x3 ((⟨#[48, 49, 50, 51, 52, 53, 54, 55, 56, 57]⟩ : ByteArray).extract (x4 : Int).toNat ((wrap64 (x4 + 1)) : Int).toNat)) else (none)) else (none)) else (none)
def unisonref01_Digits.l0 : Nat → Int → Int → ByteArray → Option (ByteArray)
 | 0, _, _, _ => none
 | k + 1, x0, x3, x5 => if x3 = 0 then (if x0 < 0 then (if 1 + x5.size ≤ 9223372036854775807 then (some ((⟨#[45]⟩ : ByteArray) ++ x5)) else (none)) else (some x5)) else (if (Int.tmod x3 10) < 0 then (if 0 ≤ (wrap64 (-(Int.tmod x3 10))) then (if (wrap64 (-(Int.tmod x3 10))) ≤ (wrap64 ((wrap64 (-(Int.tmod x3 10))) + 1)) then (if (wrap64 ((wrap64 (-(Int.tmod x3 10))) + 1)) ≤ 10 then (if ((⟨#[48, 49, 50, 51, 52, 53, 54, 55, 56, 57]⟩ : ByteArray).extract ((wrap64 (-(Int.tmod x3 10))) : Int).toNat ((wrap64 ((wrap64 (-(Int.tmod x3 10))) + 1)) : Int).toNat).size + x5.size ≤ 9223372036854775807 then (unisonref01_Digits.l0 k x0 (wrap64 (Int.tdiv x3 10)) (((⟨#[48, 49, 50, 51, 52, 53, 54, 55, 56, 57]⟩ : ByteArray).extract ((wrap64 (-(Int.tmod x3 10))) : Int).toNat ((wrap64 ((wrap64 (-(Int.tmod x3 10))) + 1)) : Int).toNat) ++ x5)) else (none)) else (none)) else (none)) else (none)) else (if 0 ≤ (Int.tmod x3 10) then (if (Int.tmod x3 10) ≤ (wrap64 ((Int.tmod x3 10) + 1)) then (if (wrap64 ((Int.tmod x3 10) + 1)) ≤ 10 then (if ((⟨#[48, 49, 50, 51, 52, 53, 54, 55, 56, 57]⟩ : ByteArray).extract ((Int.tmod x3 10) : Int).toNat ((wrap64 ((Int.tmod x3 10) + 1)) : Int).toNat).size + x5.size ≤ 9223372036854775807 then (unisonref01_Digits.l0 k x0 (wrap64 (Int.tdiv x3 10)) (((⟨#[48, 49, 50, 51, 52, 53, 54, 55, 56, 57]⟩ : ByteArray).extract ((Int.tmod x3 10) : Int).toNat ((wrap64 ((Int.tmod x3 10) + 1)) : Int).toNat) ++ x5)) else (none)) else (none)) else (none)) else (none)))
end
def unisonref01_Digits.f (k : Nat) (a0 : Int) : Option (ByteArray) := if (Int.tmod a0 10) < 0 then (unisonref01_Digits.j0 k a0 (wrap64 (Int.tdiv a0 10)) (wrap64 (-(Int.tmod a0 10)))) else (unisonref01_Digits.j0 k a0 (wrap64 (Int.tdiv a0 10)) (Int.tmod a0 10))
theorem unisonref01_Digits.mono_l : ∀ k, (∀ y0 y1 y2, LeO (unisonref01_Digits.j0 k y0 y1 y2) (unisonref01_Digits.j0 (k + 1) y0 y1 y2)) ∧ (∀ y0 y1 y2, LeO (unisonref01_Digits.l0 k y0 y1 y2) (unisonref01_Digits.l0 (k + 1) y0 y1 y2))
 | 0 => ⟨fun _ _ _ r h => by simp [unisonref01_Digits.j0] at h, fun _ _ _ r h => by simp [unisonref01_Digits.l0] at h⟩
 | k + 1 => by
  obtain ⟨ih0, ih1⟩ := unisonref01_Digits.mono_l k
  refine ⟨?_, ?_⟩
  ·
   intro y0 y1 y2
   unfold unisonref01_Digits.j0
   repeat' first
   | (with_reducible exact ih0 _ _ _)
   | (with_reducible exact ih1 _ _ _)
   | (with_reducible exact LeO.refl _)
   | (with_reducible exact LeO.none _)
   | (with_reducible refine LeO.ite ?_ ?_)
   | (with_reducible refine LeO.bind ?_ (fun _ => ?_))
   | exact ih0 _ _ _
   | exact ih1 _ _ _
   | exact LeO.none _
   | refine LeO.ite ?_ ?_
   | refine LeO.bind ?_ (fun _ => ?_)
  ·
   intro y0 y1 y2
   unfold unisonref01_Digits.l0
   repeat' first
   | (with_reducible exact ih0 _ _ _)
   | (with_reducible exact ih1 _ _ _)
   | (with_reducible exact LeO.refl _)
   | (with_reducible exact LeO.none _)
   | (with_reducible refine LeO.ite ?_ ?_)
   | (with_reducible refine LeO.bind ?_ (fun _ => ?_))
   | exact ih0 _ _ _
   | exact ih1 _ _ _
   | exact LeO.none _
   | refine LeO.ite ?_ ?_
   | refine LeO.bind ?_ (fun _ => ?_)
theorem unisonref01_Digits.mono : ∀ a0 k, LeO (unisonref01_Digits.f k a0) (unisonref01_Digits.f (k + 1) a0) := by
 intro a0 k
 obtain ⟨ih0, ih1⟩ := unisonref01_Digits.mono_l k
 unfold unisonref01_Digits.f
 repeat' first
   | (with_reducible exact ih0 _ _ _)
   | (with_reducible exact ih1 _ _ _)
   | (with_reducible exact LeO.refl _)
   | (with_reducible exact LeO.none _)
   | (with_reducible refine LeO.ite ?_ ?_)
   | (with_reducible refine LeO.bind ?_ (fun _ => ?_))
   | exact ih0 _ _ _
   | exact ih1 _ _ _
   | exact LeO.none _
   | refine LeO.ite ?_ ?_
   | refine LeO.bind ?_ (fun _ => ?_)
set_option maxHeartbeats 8000000 in
set_option maxRecDepth 100000 in
theorem unisonref01_Digits.calls (k : Nat) (a0 : Int) (r : ByteArray) (w : World) (h : unisonref01_Digits.f k a0 = some r) :
  Calls Tryd.prog 57 #[.int .i64 a0] w fun e w' => e = .returned (.string r) ∧ Drawn0 w w' := by
 have H : (if (Int.tmod a0 10) < 0 then (unisonref01_Digits.j0 k a0 (wrap64 (Int.tdiv a0 10)) (wrap64 (-(Int.tmod a0 10)))) else (unisonref01_Digits.j0 k a0 (wrap64 (Int.tdiv a0 10)) (Int.tmod a0 10))) = some r := h; clear h; have HC2 := Aside0.mk H; clear H
 go_enter Tryd.func57, Tryd.ntmps57
 go_upto_if 11 with (fail)
 go_cut [4] (fun v4 wc => ∃ (kq : Nat) (x4_1 : Int), v4 = .int .i64 x4_1 ∧ Aside0 (unisonref01_Digits.j0 kq a0 (wrap64 (Int.tdiv a0 10)) x4_1 = some r) ∧ Aside0 (kq ≤ k) ∧ Drawn0 w wc)
 case first =>
  have H := HC2.out; clear HC2
  by_cases c3 : (Int.tmod a0 10) < 0
  ·
   rw [if_pos c3] at H
   have c3b0 : decide ((Int.tmod a0 10) < 0) = true := decide_eq_true c3; clear c3
   (first | rw [c3b0] | (simp only [i64_w, i32_w, u8_w, u32_w]; rw [c3b0]) | rw [c3b1] | skip)
   have H' := Aside0.mk H
   clear H
   go_wp2
   go_meet
   case rel => exact ⟨_, (wrap64 (-(Int.tmod a0 10))), (by first | rfl | (simp; done) | (simp [*]; done)), H', ⟨by first | omega | exact Nat.le_refl _⟩, by repeat (first | exact Drawn0.refl _ | apply Drawn0.step)⟩
  ·
   rw [if_neg c3] at H
   have c3b0 : decide ((Int.tmod a0 10) < 0) = false := decide_eq_false c3; clear c3
   (first | rw [c3b0] | (simp only [i64_w, i32_w, u8_w, u32_w]; rw [c3b0]) | rw [c3b1] | skip)
   have H' := Aside0.mk H
   clear H
   go_wp2
   go_meet
   case rel => exact ⟨_, (Int.tmod a0 10), (by first | rfl | (simp; done) | (simp [*]; done)), H', ⟨by first | omega | exact Nat.le_refl _⟩, by repeat (first | exact Drawn0.refl _ | apply Drawn0.step)⟩
 case rest =>
  clear HC2; (try clear p2); (try clear c3); (try clear c3b0); (try clear c3b1)
  obtain ⟨kq, x4_1, rfl, HA, HJ1, ⟨mc1, rfl⟩⟩ := hcut
  cases kq with
  | zero => exact absurd HA.out (by simp [unisonref01_Digits.j0])
  | succ kj1 =>
   have H := HA.out; clear HA
   simp only [unisonref01_Digits.j0] at H
   by_cases c4 : 0 ≤ x4_1
   ·
    rw [if_pos c4] at H
    have c4b0 := eq_true c4; have c4b1 : decide (0 ≤ x4_1) = true := decide_eq_true c4; clear c4
    by_cases c5 : x4_1 ≤ (wrap64 (x4_1 + 1))
    ·
     rw [if_pos c5] at H
     have c5b0 := eq_true c5; have c5b1 : decide (x4_1 ≤ (wrap64 (x4_1 + 1))) = true := decide_eq_true c5
     by_cases c6 : (wrap64 (x4_1 + 1)) ≤ 10
     ·
      rw [if_pos c6] at H
      have c6b0 := eq_true c6; have c6b1 : decide ((wrap64 (x4_1 + 1)) ≤ 10) = true := decide_eq_true c6
      have H' := Aside0.mk H
      clear H
      go_wp2
      go_loopg [3, 5] kj1 (fun kq v3 v5 w' => ∃ (x3_2 : Int) (x5_2 : ByteArray), v3 = .int .i64 x3_2 ∧ v5 = .string x5_2 ∧ Aside0 (unisonref01_Digits.l0 kq a0 x3_2 x5_2 = some r) ∧ Aside0 (kq ≤ kj1) ∧ Drawn0 w w')
      case atStart => exact ⟨((wrap64 (Int.tdiv a0 10))), ((⟨#[48, 49, 50, 51, 52, 53, 54, 55, 56, 57]⟩ : ByteArray).extract (x4_1 : Int).toNat ((wrap64 (x4_1 + 1)) : Int).toNat), (by first | rfl | (simp; done) | (simp [*]; done)), (by first | rfl | (simp; done) | (simp [*]; done)), H', ⟨Nat.le_refl _⟩, by repeat (first | exact Drawn0.refl _ | apply Drawn0.step)⟩
      case round =>
       clear H'
       (try clear c1); (try clear p2); (try clear c3); (try clear c3b0); (try clear c3b1); (try clear c4); (try clear c4b0); (try clear c4b1); (try clear c5); (try clear c5b0); (try clear c5b1); (try clear c6); (try clear c6b0); (try clear c6b1); (try clear p6); (try clear p2)
       obtain ⟨x3_2, x5_2, rfl, rfl, HA, HK2, ⟨m2, rfl⟩⟩ := hrel
       cases gk with
       | zero => exact absurd HA.out (by simp [unisonref01_Digits.l0])
       | succ k2 =>
        have H := HA.out; clear HA
        simp only [unisonref01_Digits.l0] at H
        by_cases c7 : x3_2 = 0
        ·
         rw [if_pos c7] at H
         have c7b0 : (x3_2 == 0) = true := beq_iff_eq.mpr c7; have c7b1 : (x3_2 != 0) = false := bne_eq_false_iff_eq.mpr c7; clear c7
         by_cases c8 : a0 < 0
         ·
          rw [if_pos c8] at H
          have c8b0 : decide (a0 < 0) = true := decide_eq_true c8; clear c8
          by_cases c9 : 1 + x5_2.size ≤ 9223372036854775807
          ·
           rw [if_pos c9] at H
           have c9b0 := eq_true c9; have c9b1 : decide (1 + x5_2.size ≤ 9223372036854775807) = true := decide_eq_true c9
           try have c9b2 : (9223372036854775807 < 1 + x5_2.size) = False := eq_false (Nat.not_lt.2 c9)
           obtain rfl := Option.some.inj H
           go_wp2
           go_ret
           exact ⟨by first | rfl | (simp; done) | (simp [*]; done), by repeat (first | exact Drawn0.refl _ | apply Drawn0.step)⟩
          ·
           rw [if_neg c9] at H
           exact absurd H (by simp)
         ·
          rw [if_neg c8] at H
          have c8b0 : decide (a0 < 0) = false := decide_eq_false c8; clear c8
          obtain rfl := Option.some.inj H
          go_wp2
          go_ret
          exact ⟨by first | rfl | (simp; done) | (simp [*]; done), by repeat (first | exact Drawn0.refl _ | apply Drawn0.step)⟩
        ·
         rw [if_neg c7] at H
         have c7b0 : (x3_2 == 0) = false := beq_eq_false_iff_ne.mpr c7; have c7b1 : (x3_2 != 0) = true := bne_iff_ne.mpr c7
         by_cases c10 : (Int.tmod x3_2 10) < 0
         ·
          rw [if_pos c10] at H
          have c10b0 : decide ((Int.tmod x3_2 10) < 0) = true := decide_eq_true c10; clear c10
          obtain ⟨ji11, hji11⟩ : ∃ j_ : Int, (wrap64 (-(Int.tmod x3_2 10))) = j_ := ⟨_, rfl⟩
          replace H : (if 0 ≤ (ji11) then (if (ji11) ≤ (wrap64 ((ji11) + 1)) then (if (wrap64 ((ji11) + 1)) ≤ 10 then (if ((⟨#[48, 49, 50, 51, 52, 53, 54, 55, 56, 57]⟩ : ByteArray).extract ((ji11) : Int).toNat ((wrap64 ((ji11) + 1)) : Int).toNat).size + x5_2.size ≤ 9223372036854775807 then (unisonref01_Digits.l0 k2 a0 (wrap64 (Int.tdiv x3_2 10)) (((⟨#[48, 49, 50, 51, 52, 53, 54, 55, 56, 57]⟩ : ByteArray).extract ((ji11) : Int).toNat ((wrap64 ((ji11) + 1)) : Int).toNat) ++ x5_2)) else (none)) else (none)) else (none)) else (none)) = some r := by first | (rw [hji11] at H; exact H) | (simp only [hji11] at H ⊢; exact H)
          have hji11w : (IntKind.i64.wrap (-(Int.tmod x3_2 10))) = ji11 := (i64_w _).trans hji11
          by_cases c12 : 0 ≤ (ji11)
          ·
           rw [if_pos c12] at H
           have c12b0 := eq_true c12; have c12b1 : decide (0 ≤ (ji11)) = true := decide_eq_true c12; clear c12
           by_cases c13 : (ji11) ≤ (wrap64 ((ji11) + 1))
           ·
            rw [if_pos c13] at H
            have c13b0 := eq_true c13; have c13b1 : decide ((ji11) ≤ (wrap64 ((ji11) + 1))) = true := decide_eq_true c13
            by_cases c14 : (wrap64 ((ji11) + 1)) ≤ 10
            ·
             rw [if_pos c14] at H
             have c14b0 := eq_true c14; have c14b1 : decide ((wrap64 ((ji11) + 1)) ≤ 10) = true := decide_eq_true c14
             by_cases c15 : ((⟨#[48, 49, 50, 51, 52, 53, 54, 55, 56, 57]⟩ : ByteArray).extract ((ji11) : Int).toNat ((wrap64 ((ji11) + 1)) : Int).toNat).size + x5_2.size ≤ 9223372036854775807
             ·
              rw [if_pos c15] at H
              have c15b0 := eq_true c15; have c15b1 : decide (((⟨#[48, 49, 50, 51, 52, 53, 54, 55, 56, 57]⟩ : ByteArray).extract ((ji11) : Int).toNat ((wrap64 ((ji11) + 1)) : Int).toNat).size + x5_2.size ≤ 9223372036854775807) = true := decide_eq_true c15
              try have c15b2 : (9223372036854775807 < ((⟨#[48, 49, 50, 51, 52, 53, 54, 55, 56, 57]⟩ : ByteArray).extract ((ji11) : Int).toNat ((wrap64 ((ji11) + 1)) : Int).toNat).size + x5_2.size) = False := eq_false (Nat.not_lt.2 c15)
              have H' := Aside0.mk H
              clear H
              go_wp2
              go_roundg k2
              case measure => have := HJ1.out; have := HK2.out; omega
              case rel => exact ⟨(wrap64 (Int.tdiv x3_2 10)), (((⟨#[48, 49, 50, 51, 52, 53, 54, 55, 56, 57]⟩ : ByteArray).extract ((ji11) : Int).toNat ((wrap64 ((ji11) + 1)) : Int).toNat) ++ x5_2), (by first | rfl | (simp; done) | (simp [*]; done)), (by first | rfl | (simp; done) | (simp only [← hji11] <;> (first | rfl | simp)) | (simp [*]; done)), H', ⟨by have := HJ1.out; have := HK2.out; omega⟩, by repeat (first | exact Drawn0.refl _ | apply Drawn0.step)⟩
             ·
              rw [if_neg c15] at H
              exact absurd H (by simp)
            ·
             rw [if_neg c14] at H
             exact absurd H (by simp)
           ·
            rw [if_neg c13] at H
            exact absurd H (by simp)
          ·
           rw [if_neg c12] at H
           exact absurd H (by simp)
         ·
          rw [if_neg c10] at H
          have c10b0 : decide ((Int.tmod x3_2 10) < 0) = false := decide_eq_false c10; clear c10
          obtain ⟨ji16, hji16⟩ : ∃ j_ : Int, (Int.tmod x3_2 10) = j_ := ⟨_, rfl⟩
          replace H : (if 0 ≤ (ji16) then (if (ji16) ≤ (wrap64 ((ji16) + 1)) then (if (wrap64 ((ji16) + 1)) ≤ 10 then (if ((⟨#[48, 49, 50, 51, 52, 53, 54, 55, 56, 57]⟩ : ByteArray).extract ((ji16) : Int).toNat ((wrap64 ((ji16) + 1)) : Int).toNat).size + x5_2.size ≤ 9223372036854775807 then (unisonref01_Digits.l0 k2 a0 (wrap64 (Int.tdiv x3_2 10)) (((⟨#[48, 49, 50, 51, 52, 53, 54, 55, 56, 57]⟩ : ByteArray).extract ((ji16) : Int).toNat ((wrap64 ((ji16) + 1)) : Int).toNat) ++ x5_2)) else (none)) else (none)) else (none)) else (none)) = some r := by first | (rw [hji16] at H; exact H) | (simp only [hji16] at H ⊢; exact H)
          (try rw [hji16] at c10b0)
          by_cases c17 : 0 ≤ (ji16)
          ·
           rw [if_pos c17] at H
           have c17b0 := eq_true c17; have c17b1 : decide (0 ≤ (ji16)) = true := decide_eq_true c17; clear c17
           by_cases c18 : (ji16) ≤ (wrap64 ((ji16) + 1))
           ·
            rw [if_pos c18] at H
            have c18b0 := eq_true c18; have c18b1 : decide ((ji16) ≤ (wrap64 ((ji16) + 1))) = true := decide_eq_true c18
            by_cases c19 : (wrap64 ((ji16) + 1)) ≤ 10
            ·
             rw [if_pos c19] at H
             have c19b0 := eq_true c19; have c19b1 : decide ((wrap64 ((ji16) + 1)) ≤ 10) = true := decide_eq_true c19
             by_cases c20 : ((⟨#[48, 49, 50, 51, 52, 53, 54, 55, 56, 57]⟩ : ByteArray).extract ((ji16) : Int).toNat ((wrap64 ((ji16) + 1)) : Int).toNat).size + x5_2.size ≤ 9223372036854775807
             ·
              rw [if_pos c20] at H
              have c20b0 := eq_true c20; have c20b1 : decide (((⟨#[48, 49, 50, 51, 52, 53, 54, 55, 56, 57]⟩ : ByteArray).extract ((ji16) : Int).toNat ((wrap64 ((ji16) + 1)) : Int).toNat).size + x5_2.size ≤ 9223372036854775807) = true := decide_eq_true c20
              try have c20b2 : (9223372036854775807 < ((⟨#[48, 49, 50, 51, 52, 53, 54, 55, 56, 57]⟩ : ByteArray).extract ((ji16) : Int).toNat ((wrap64 ((ji16) + 1)) : Int).toNat).size + x5_2.size) = False := eq_false (Nat.not_lt.2 c20)
              have H' := Aside0.mk H
              clear H
              go_wp2
              go_roundg k2
              case measure => have := HJ1.out; have := HK2.out; omega
              case rel => exact ⟨(wrap64 (Int.tdiv x3_2 10)), (((⟨#[48, 49, 50, 51, 52, 53, 54, 55, 56, 57]⟩ : ByteArray).extract ((ji16) : Int).toNat ((wrap64 ((ji16) + 1)) : Int).toNat) ++ x5_2), (by first | rfl | (simp; done) | (simp [*]; done)), (by first | rfl | (simp; done) | (simp only [← hji16] <;> (first | rfl | simp)) | (simp [*]; done)), H', ⟨by have := HJ1.out; have := HK2.out; omega⟩, by repeat (first | exact Drawn0.refl _ | apply Drawn0.step)⟩
             ·
              rw [if_neg c20] at H
              exact absurd H (by simp)
            ·
             rw [if_neg c19] at H
             exact absurd H (by simp)
           ·
            rw [if_neg c18] at H
            exact absurd H (by simp)
          ·
           rw [if_neg c17] at H
           exact absurd H (by simp)
     ·
      rw [if_neg c6] at H
      exact absurd H (by simp)
    ·
     rw [if_neg c5] at H
     exact absurd H (by simp)
   ·
    rw [if_neg c4] at H
    exact absurd H (by simp)
end Go.Proofs.YteehcopkljiikaaDoor.PA
end
section
namespace Go.Proofs.YteehcopkljiikaaDoor.PA
open Go.RowKit Go.Proofs.YteehcopkljiikaaDoorW.PrintWords Go.Proofs.YteehcopkljiikaaDoorW.PrintLast Go.Proofs.YteehcopkljiikaaDoorW.PrintMore Go.Proofs.YteehcopkljiikaaDoorX
attribute [local go_sem] max2_int min2_int max_two min_two max_three min_three max_four min_four   -- for this text's walks alone
set_option linter.unusedVariables false
set_option linter.unusedSimpArgs false

/-! ### unisonref01_quoted: function 58 -/
def unisonref01_quoted.l0 : Nat → ByteArray → List Int → Int → Option (ByteArray)
 | 0, _, _, _ => none
 | k + 1, x0, x3, x4 => if x4 < (x0.size : Int) then (if 0 ≤ x4 then (if (bt x0 x4) = 39 then ((some (([39, 39] : List Int) : List Int)).bind fun y284 => (if x3.length + y284.length < 140737488355328 then (unisonref01_quoted.l0 k x0 (x3 ++ y284) (wrap64 (x4 + 1))) else (none))) else (if (bt x0 x4) < 32 then (if 0 ≤ ((Int.tdiv (bt x0 x4) 16) % 256) then (if ((Int.tdiv (bt x0 x4) 16) % 256) < 16 then (if 0 ≤ (Int.tmod (bt x0 x4) 16) then (if (Int.tmod (bt x0 x4) 16) < 16 then ((some (([92, bt (⟨#[48, 49, 50, 51, 52, 53, 54, 55, 56, 57, 97, 98, 99, 100, 101, 102]⟩ : ByteArray) ((Int.tdiv (bt x0 x4) 16) % 256), bt (⟨#[48, 49, 50, 51, 52, 53, 54, 55, 56, 57, 97, 98, 99, 100, 101, 102]⟩ : ByteArray) (Int.tmod (bt x0 x4) 16)] : List Int) : List Int)).bind fun y290 => (if x3.length + y290.length < 140737488355328 then (unisonref01_quoted.l0 k x0 (x3 ++ y290) (wrap64 (x4 + 1))) else (none))) else (none)) else (none)) else (none)) else (none)) else (if (bt x0 x4) > 126 then (if 0 ≤ ((Int.tdiv (bt x0 x4) 16) % 256) then (if ((Int.tdiv (bt x0 x4) 16) % 256) < 16 then (if 0 ≤ (Int.tmod (bt x0 x4) 16) then (if (Int.tmod (bt x0 x4) 16) < 16 then ((some (([92, bt (⟨#[48, 49, 50, 51, 52, 53, 54, 55, 56, 57, 97, 98, 99, 100, 101, 102]⟩ : ByteArray) ((Int.tdiv (bt x0 x4) 16) % 256), bt (⟨#[48, 49, 50, 51, 52, 53, 54, 55, 56, 57, 97, 98, 99, 100, 101, 102]⟩ : ByteArray) (Int.tmod (bt x0 x4) 16)] : List Int) : List Int)).bind fun y296 => (if x3.length + y296.length < 140737488355328 then (unisonref01_quoted.l0 k x0 (x3 ++ y296) (wrap64 (x4 + 1))) else (none))) else (none)) else (none)) else (none)) else (none)) else (if (bt x0 x4) = 92 then (if 0 ≤ ((Int.tdiv (bt x0 x4) 16) % 256) then (if ((Int.tdiv (bt x0 x4) 16) % 256) < 16 then (if 0 ≤ (Int.tmod (bt x0 x4) 16) then (if (Int.tmod (bt x0 x4) 16) < 16 then ((some (([92, bt (⟨#[48, 49, 50, 51, 52, 53, 54, 55, 56, 57, 97, 98, 99, 100, 101, 102]⟩ : ByteArray) ((Int.tdiv (bt x0 x4) 16) % 256), bt (⟨#[48, 49, 50, 51, 52, 53, 54, 55, 56, 57, 97, 98, 99, 100, 101, 102]⟩ : ByteArray) (Int.tmod (bt x0 x4) 16)] : List Int) : List Int)).bind fun y302 => (if x3.length + y302.length < 140737488355328 then (unisonref01_quoted.l0 k x0 (x3 ++ y302) (wrap64 (x4 + 1))) else (none))) else (none)) else (none)) else (none)) else (none)) else (if x3.length < 140737488355328 then (unisonref01_quoted.l0 k x0 (x3 ++ [bt x0 x4]) (wrap64 (x4 + 1))) else (none)))))) else (none)) else (if x3.length < 140737488355328 then (some (strOfNums (x3 ++ [39]))) else (none))
def unisonref01_quoted.f (k : Nat) (a0 : ByteArray) : Option (ByteArray) := unisonref01_quoted.l0 k a0 (([39] : List Int)) 0
theorem unisonref01_quoted.mono_l : ∀ k, (∀ y0 y1 y2, LeO (unisonref01_quoted.l0 k y0 y1 y2) (unisonref01_quoted.l0 (k + 1) y0 y1 y2))
 | 0 => fun _ _ _ r h => by simp [unisonref01_quoted.l0] at h
 | k + 1 => by
  have ih0 := unisonref01_quoted.mono_l k
  ·
   intro y0 y1 y2
   unfold unisonref01_quoted.l0
   repeat' first
   | (with_reducible exact ih0 _ _ _)
   | (with_reducible exact LeO.refl _)
   | (with_reducible exact LeO.none _)
   | (with_reducible refine LeO.ite ?_ ?_)
   | (with_reducible refine LeO.bind ?_ (fun _ => ?_))
   | exact ih0 _ _ _
   | exact LeO.none _
   | refine LeO.ite ?_ ?_
   | refine LeO.bind ?_ (fun _ => ?_)
theorem unisonref01_quoted.mono : ∀ a0 k, LeO (unisonref01_quoted.f k a0) (unisonref01_quoted.f (k + 1) a0) := by
 intro a0 k
 have ih0 := unisonref01_quoted.mono_l k
 unfold unisonref01_quoted.f
 repeat' first
   | (with_reducible exact ih0 _ _ _)
   | (with_reducible exact LeO.refl _)
   | (with_reducible exact LeO.none _)
   | (with_reducible refine LeO.ite ?_ ?_)
   | (with_reducible refine LeO.bind ?_ (fun _ => ?_))
   | exact ih0 _ _ _
   | exact LeO.none _
   | refine LeO.ite ?_ ?_
   | refine LeO.bind ?_ (fun _ => ?_)
def unisonref01_quoted.T10 : Bool × List (List Nat × List Nat) := (true, [([], []), ([], []), ([1], [1]), ([2], [2]), ([], []), ([4], [4]), ([5], [5]), ([3, 6], [3, 6]), ([0, 7], [0, 7]), ([8, 8, 0, 1, 2, 3, 4, 5, 6, 7, 8], [0, 8])])
def unisonref01_quoted.B10 : List Nat := [0, 0, 2, 6, 0, 16, 48, 126, 255, 511]
theorem unisonref01_quoted.tab10 : rtab .any (opsOf Tryd.f58 10) = unisonref01_quoted.T10 := by kernel_rfl
theorem unisonref01_quoted.bits10 : waitsOk unisonref01_quoted.T10.2 unisonref01_quoted.B10 = true := by kernel_rfl
set_option maxHeartbeats 8000000 in
set_option maxRecDepth 100000 in
theorem unisonref01_quoted.calls (k : Nat) (a0 : ByteArray) (r : ByteArray) (w : World) (h : unisonref01_quoted.f k a0 = some r) :
  Calls Tryd.prog 58 #[.string a0] w fun e w' => e = .returned (.string r) ∧ Below w.heap.size w w' := by
 have HB := Aside0.mk (Below.refl w.heap.size w); have H : (unisonref01_quoted.l0 k a0 (([39] : List Int)) 0) = some r := h; clear h
 obtain ⟨y278, hy278⟩ : ∃ y_ : List Int, y_ = (([39] : List Int)) := ⟨_, rfl⟩
 replace H : (unisonref01_quoted.l0 k a0 y278 0) = some r := by first | (rw [hy278]; with_reducible exact H) | (have H2_ := (Option.bind_some _ _).symm.trans H; rw [hy278]; with_reducible exact H2_) | (have H2_ := (Option.bind_some _ _).symm.trans H; with_reducible exact H2_) | with_reducible exact H | (rw [hy278]; exact H) | exact H
 have Ny278 := Aside0.mk hy278; clear hy278
 have H' := Aside0.mk H
 clear H
 go_enter Tryd.func58, Tryd.ntmps58
 go_wp2_with (first | ((with_reducible refine gate_dst (N := 6) rfl ?_); refine Kd.R_lit (Kd.int .u8) _ 5 ?hg (N := 6) ?hd (xs := ([39] : List Int)) (inner := [.int .u8 39]) (ok := fun _ => True) (okp := fun _ => True) ?hr ?hp (fun _ hk => hk) trivial (Below.refl _ _) (Nat.le_refl _) (by simp) ?_; (case hd => rfl); (case hg => rfl); (case hr => first | (go_simp; done) | (go_simp; rfl)); (case hp => exact (Reps.one (show Kd.M (Kd.int .u8) _ _ _ 39 [.int .u8 39] from rfl) (Reps.none _ _))); intro v279 w2 ho3 hb hg_ hnew_; clear hg_ hnew_; (first | rw [← Ny278.out] at ho3 | (simp only [Int.reduceToNat] at ho3; rw [← Ny278.out] at ho3)); have HO280 := Aside0.mk (Kd.R_lower ho3 (below_size bel)); replace HB := bs hb; clear hb ho3))
 go_loopg [3, 4] k (fun kq v3 v4 w' => ∃ (x3_1 : List Int) (x4_1 : Int), v4 = .int .i64 x4_1 ∧ Aside0 (unisonref01_quoted.l0 kq a0 x3_1 x4_1 = some r) ∧ Aside0 (kq ≤ k) ∧ Aside0 (Kd.R (Kd.int .u8) 5 w' w.heap.size (fun _ => True) v3 x3_1) ∧ Aside0 (Below w.heap.size w w'))
 case atStart => exact ⟨(y278), (0), (by first | rfl | (simp; done) | (simp [*]; done)), H', ⟨Nat.le_refl _⟩, ⟨by (with_reducible repeat (first | apply Kd.R_alloc | apply Kd.R_drewN | apply Kd.R_drew)); exact HO280.out⟩, ⟨by repeat (first | (with_reducible first | exact HB.out | apply below_alloc | apply pw_below_drewN | apply below_drew1) | exact HB.out)⟩⟩
 case round =>
  clear H'
  (try clear p2)
  obtain ⟨x3_1, x4_1, rfl, HA, HK1, HO_3, HB⟩ := hrel
  cases gk with
  | zero => exact absurd HA.out (by simp [unisonref01_quoted.l0])
  | succ k1 =>
   have H := HA.out; clear HA
   simp only [unisonref01_quoted.l0] at H
   by_cases c4 : x4_1 < (a0.size : Int)
   ·
    rw [if_pos c4] at H
    have c4b0 : decide (x4_1 < (a0.size : Int)) = true := decide_eq_true c4; clear c4
    by_cases c5 : 0 ≤ x4_1
    ·
     rw [if_pos c5] at H
     have c5b0 : decide (0 ≤ x4_1) = true := decide_eq_true c5; clear c5
     by_cases c7 : (bt a0 x4_1) = 39
     ·
      rw [if_pos c7] at H
      have c7b0 : ((bt a0 x4_1) == 39) = true := beq_iff_eq.mpr c7; have c7b1 : ((bt a0 x4_1) != 39) = false := bne_eq_false_iff_eq.mpr c7; clear c7
      obtain ⟨y284, hy284⟩ : ∃ y_ : List Int, y_ = (([39, 39] : List Int)) := ⟨_, rfl⟩
      replace H : (if x3_1.length + y284.length < 140737488355328 then (unisonref01_quoted.l0 k1 a0 (x3_1 ++ y284) (wrap64 (x4_1 + 1))) else (none)) = some r := by first | (rw [hy284]; with_reducible exact H) | (have H2_ := (Option.bind_some _ _).symm.trans H; rw [hy284]; with_reducible exact H2_) | (have H2_ := (Option.bind_some _ _).symm.trans H; with_reducible exact H2_) | with_reducible exact H | (rw [hy284]; exact H) | exact H
      have Ny284 := Aside0.mk hy284; clear hy284
      by_cases c8 : x3_1.length + y284.length < 140737488355328
      ·
       rw [if_pos c8] at H
       have LMc8 := Aside0.mk c8; clear c8
       obtain ⟨y287, hy287⟩ : ∃ y_ : List Int, y_ = (x3_1 ++ y284) := ⟨_, rfl⟩
       replace H : (unisonref01_quoted.l0 k1 a0 y287 (wrap64 (x4_1 + 1))) = some r := by first | (rw [hy287]; with_reducible exact H) | (have H2_ := (Option.bind_some _ _).symm.trans H; rw [hy287]; with_reducible exact H2_) | (have H2_ := (Option.bind_some _ _).symm.trans H; with_reducible exact H2_) | with_reducible exact H | (rw [hy287]; exact H) | exact H
       have Ny287 := Aside0.mk hy287; clear hy287
       have H' := Aside0.mk H
       clear H; have p6 : 0 ≤ (x4_1 : Int) := of_decide_eq_true (by first | (with_reducible assumption) | assumption); have q6 : x4_1 < (a0.size : Int) := of_decide_eq_true (by first | (with_reducible assumption) | assumption); have hx6 := bt_at a0 x4_1; replace p6 := eq_true p6; replace q6 := eq_true q6
       go_wp2_with (first | ((with_reducible refine gate_dst (N := 24) rfl ?_); refine Kd.R_lit (Kd.int .u8) _ 5 ?hg (N := 24) ?hd (xs := ([39, 39] : List Int)) (inner := [.int .u8 39, .int .u8 39]) (ok := fun _ => True) (okp := fun _ => True) ?hr ?hp (fun _ hk => hk) trivial (Below.refl _ _) (Nat.le_refl _) (by simp) ?_; (case hd => rfl); (case hg => rfl); (case hr => first | (go_simp; done) | (go_simp; rfl)); (case hp => exact (Reps.one (show Kd.M (Kd.int .u8) _ _ _ 39 [.int .u8 39] from rfl) (Reps.one (show Kd.M (Kd.int .u8) _ _ _ 39 [.int .u8 39] from rfl) (Reps.none _ _)))); intro v285 w9 ho10 hb hg_ hnew_; clear hg_ hnew_; (first | rw [← Ny284.out] at ho10 | (simp only [Int.reduceToNat] at ho10; rw [← Ny284.out] at ho10)); have HO286 := Aside0.mk (Kd.R_lower (Kd.R_new' ho10 (Kd.R_lt (by (with_reducible repeat (first | apply Kd.R_alloc | apply Kd.R_drewN | apply Kd.R_drew)); exact HO_3.out))) (below_size bel)); replace HO_3 := Aside0.mk (Kd.R_elder' (by (with_reducible repeat (first | apply Kd.R_alloc | apply Kd.R_drewN | apply Kd.R_drew)); exact HO_3.out) (Kd.R_base ho10) hb); replace HB := bs hb; clear hb ho10; obtain ⟨Ao12, co12, eo12⟩ := Kd.R_slice HO286.out; subst eo12) | ((with_reducible refine gate_builtin (b := .append) (xs := #[.tmp 23, .tmp 24]) rfl ?_); at_builtin; refine Kd.R_append_rows (Kd.int .u8) (w0 := w) w.heap.size rfl (.tmp 23) (.tmp 24) 64 5 (.int .u8 0) 1 rfl Tryd.underlying64 info5 rfl (by decide) (by omega) u3 x3_1 y284 _ _ _ (fun k_ => some k_ ≠ (.slice Ao12 y284.length co12 : Value).ownBlock) (fun _ => False) rfl rfl ?aO ?aR (fun _ _ h => h) (fun _ h => h.elim) ?aF ?aB ?aS ?aL ?_; (case aR => repeat (first | exact (Kd.R_reads' HO286.out).2.2 | (with_reducible refine Kd.C_alloc ?_ _) | (with_reducible refine Kd.C_drewN ?_ _) | (with_reducible refine Kd.C_drew ?_))); (case aB => exact bel); (case aF => exact (fun k_ hk => Kd.fresh' (Kd.R_lt (by (with_reducible repeat (first | apply Kd.R_alloc | apply Kd.R_drewN | apply Kd.R_drew)); exact HO286.out)) k_ hk)); (case aO => exact (by (with_reducible repeat (first | apply Kd.R_alloc | apply Kd.R_drewN | apply Kd.R_drew)); exact Kd.R_mono HO_3.out (fun _ hk => hk.2))); (case aS => exact (below_size bel)); (case aL => have := LMc8.out; omega); intro v288 w11 ho hb hg hat; rw [← Ny287.out] at ho; have n0_ := Aside0.mk (Kd.R_after (ok := (fun _ => True)) (by (with_reducible repeat (first | apply Kd.R_alloc | apply Kd.R_drewN | apply Kd.R_drew)); exact HO286.out) hg hat); have n1_ := Aside0.mk (hb); have n2_ := Aside0.mk (ho); clear HO286; clear HB; clear HO_3; have HO286 := n0_; have HB := n1_; have HO289 := n2_; clear n0_ n1_ n2_; clear ho hb hg hat))
       go_roundg k1
       case measure => have := HK1.out; omega
       case rel => exact ⟨(y287), (wrap64 (x4_1 + 1)), (by first | rfl | (simp; done) | (simp [*]; done)), H', ⟨by have := HK1.out; omega⟩, ⟨by (with_reducible repeat (first | apply Kd.R_alloc | apply Kd.R_drewN | apply Kd.R_drew)); exact Kd.R_mono HO289.out (fun _ hk => trivial)⟩, ⟨by repeat (first | (with_reducible first | exact HB.out | apply below_alloc | apply pw_below_drewN | apply below_drew1) | exact HB.out)⟩⟩
      ·
       rw [if_neg c8] at H
       exact absurd H (by simp)
     ·
      rw [if_neg c7] at H
      have c7b0 : ((bt a0 x4_1) == 39) = false := beq_eq_false_iff_ne.mpr c7; have c7b1 : ((bt a0 x4_1) != 39) = true := bne_iff_ne.mpr c7
      by_cases c13 : (bt a0 x4_1) < 32
      ·
       rw [if_pos c13] at H
       have c13b0 : decide ((bt a0 x4_1) < 32) = true := decide_eq_true c13; clear c13
       obtain ⟨ji14, hji14⟩ : ∃ j_ : Int, ((Int.tdiv (bt a0 x4_1) 16) % 256) = j_ := ⟨_, rfl⟩
       replace H : (if 0 ≤ (ji14) then (if (ji14) < 16 then (if 0 ≤ (Int.tmod (bt a0 x4_1) 16) then (if (Int.tmod (bt a0 x4_1) 16) < 16 then ((some (([92, bt (⟨#[48, 49, 50, 51, 52, 53, 54, 55, 56, 57, 97, 98, 99, 100, 101, 102]⟩ : ByteArray) (ji14), bt (⟨#[48, 49, 50, 51, 52, 53, 54, 55, 56, 57, 97, 98, 99, 100, 101, 102]⟩ : ByteArray) (Int.tmod (bt a0 x4_1) 16)] : List Int) : List Int)).bind fun y290 => (if x3_1.length + y290.length < 140737488355328 then (unisonref01_quoted.l0 k1 a0 (x3_1 ++ y290) (wrap64 (x4_1 + 1))) else (none))) else (none)) else (none)) else (none)) else (none)) = some r := by first | (rw [hji14] at H; exact H) | (simp only [hji14] at H ⊢; exact H)
       by_cases c15 : 0 ≤ (ji14)
       ·
        rw [if_pos c15] at H
        have c15b0 : decide (0 ≤ (ji14)) = true := decide_eq_true c15; clear c15
        by_cases c16 : (ji14) < 16
        ·
         rw [if_pos c16] at H
         have c16b0 : decide ((ji14) < 16) = true := decide_eq_true c16; clear c16
         obtain ⟨ji18, hji18⟩ : ∃ j_ : Int, (Int.tmod (bt a0 x4_1) 16) = j_ := ⟨_, rfl⟩
         replace H : (if 0 ≤ (ji18) then (if (ji18) < 16 then ((some (([92, bt (⟨#[48, 49, 50, 51, 52, 53, 54, 55, 56, 57, 97, 98, 99, 100, 101, 102]⟩ : ByteArray) (ji14), bt (⟨#[48, 49, 50, 51, 52, 53, 54, 55, 56, 57, 97, 98, 99, 100, 101, 102]⟩ : ByteArray) (ji18)] : List Int) : List Int)).bind fun y290 => (if x3_1.length + y290.length < 140737488355328 then (unisonref01_quoted.l0 k1 a0 (x3_1 ++ y290) (wrap64 (x4_1 + 1))) else (none))) else (none)) else (none)) = some r := by first | (rw [hji18] at H; exact H) | (simp only [hji18] at H ⊢; exact H)
         by_cases c19 : 0 ≤ (ji18)
         ·
          rw [if_pos c19] at H
          have c19b0 : decide (0 ≤ (ji18)) = true := decide_eq_true c19; clear c19
          by_cases c20 : (ji18) < 16
          ·
           rw [if_pos c20] at H
           have c20b0 : decide ((ji18) < 16) = true := decide_eq_true c20; clear c20
           obtain ⟨y290, hy290⟩ : ∃ y_ : List Int, y_ = (([92, bt (⟨#[48, 49, 50, 51, 52, 53, 54, 55, 56, 57, 97, 98, 99, 100, 101, 102]⟩ : ByteArray) (ji14), bt (⟨#[48, 49, 50, 51, 52, 53, 54, 55, 56, 57, 97, 98, 99, 100, 101, 102]⟩ : ByteArray) (ji18)] : List Int)) := ⟨_, rfl⟩
           replace H : (if x3_1.length + y290.length < 140737488355328 then (unisonref01_quoted.l0 k1 a0 (x3_1 ++ y290) (wrap64 (x4_1 + 1))) else (none)) = some r := by first | (rw [hy290]; with_reducible exact H) | (have H2_ := (Option.bind_some _ _).symm.trans H; rw [hy290]; with_reducible exact H2_) | (have H2_ := (Option.bind_some _ _).symm.trans H; with_reducible exact H2_) | with_reducible exact H | (rw [hy290]; exact H) | exact H
           have Ny290 := Aside0.mk hy290; clear hy290
           by_cases c22 : x3_1.length + y290.length < 140737488355328
           ·
            rw [if_pos c22] at H
            have LMc22 := Aside0.mk c22; clear c22
            obtain ⟨y293, hy293⟩ : ∃ y_ : List Int, y_ = (x3_1 ++ y290) := ⟨_, rfl⟩
            replace H : (unisonref01_quoted.l0 k1 a0 y293 (wrap64 (x4_1 + 1))) = some r := by first | (rw [hy293]; with_reducible exact H) | (have H2_ := (Option.bind_some _ _).symm.trans H; rw [hy293]; with_reducible exact H2_) | (have H2_ := (Option.bind_some _ _).symm.trans H; with_reducible exact H2_) | with_reducible exact H | (rw [hy293]; exact H) | exact H
            have Ny293 := Aside0.mk hy293; clear hy293
            have H' := Aside0.mk H
            clear H; have p6 : 0 ≤ (x4_1 : Int) := of_decide_eq_true (by first | (with_reducible assumption) | assumption); have q6 : x4_1 < (a0.size : Int) := of_decide_eq_true (by first | (with_reducible assumption) | assumption); have hx6 := bt_at a0 x4_1; replace p6 := eq_true p6; replace q6 := eq_true q6
            try go_wp2
            replace HO_3 := Aside0.mk (Kd.R_drew HO_3.out); replace HB := Aside0.mk (below_drew1 HB.out); have p17 : 0 ≤ ((ji14) : Int) := of_decide_eq_true (by first | (with_reducible assumption) | assumption); have q17 : (ji14) < (16 : Int) := of_decide_eq_true (by first | (with_reducible assumption) | assumption); have hx17 := bt_at (⟨#[48, 49, 50, 51, 52, 53, 54, 55, 56, 57, 97, 98, 99, 100, 101, 102]⟩ : ByteArray) (ji14); replace p17 := eq_true p17; replace q17 := eq_true q17; have p21 : 0 ≤ ((ji18) : Int) := of_decide_eq_true (by first | (with_reducible assumption) | assumption); have q21 : (ji18) < (16 : Int) := of_decide_eq_true (by first | (with_reducible assumption) | assumption); have hx21 := bt_at (⟨#[48, 49, 50, 51, 52, 53, 54, 55, 56, 57, 97, 98, 99, 100, 101, 102]⟩ : ByteArray) (ji18); replace p21 := eq_true p21; replace q21 := eq_true q21
            refine start_ (n := 10) (S := fun w' => True) (ds := []) #[false, false, false, false, false, false, false, false, false, false] (by kernel_rfl) rfl rfl trivial (fun hHeld => ?_); refine with_tabW unisonref01_quoted.tab10 unisonref01_quoted.bits10 (fun HT_ HW_ => ?_)
            generalize wr.drew = w23 at HO_3 HB hHeld ⊢
            refine pure_ (i := 0) (N := some 37) (v := ?_) (a' := ?_) #[true, false, false, false, false, false, false, false, false, false] rfl rfl (any_of HT_.out (by kernel_rfl)) (fun _ _ _ h => h) (Or.inl ⟨by rfl, ?_⟩) ?_ ?_
            rotate_left; focus (intro w'; go_simp; with_reducible rfl; done)
            rotate_left; focus (simp only [Act.put, List.setIfInBounds_toArray, List.set_cons_zero, List.set_cons_succ, i64_w, i32_w, u8_w, u32_w]; rfl; done)
            refine pure_ (i := 1) (N := some 38) (v := ?_) (a' := ?_) #[true, true, false, false, false, false, false, false, false, false] rfl rfl (any_of HT_.out (by kernel_rfl)) (fun _ _ _ h => h) (Or.inl ⟨by rfl, ?_⟩) ?_ ?_
            rotate_left; focus (intro w'; go_simp; with_reducible rfl; done)
            rotate_left; focus (simp only [Act.put, List.setIfInBounds_toArray, List.set_cons_zero, List.set_cons_succ, i64_w, i32_w, u8_w, u32_w]; rfl; done)
            refine pure_ (i := 2) (N := some 39) (v := ?_) (a' := ?_) #[true, true, true, false, false, false, false, false, false, false] rfl rfl (any_of HT_.out (by kernel_rfl)) (fun _ _ _ h => h) (Or.inl ⟨by rfl, ?_⟩) ?_ ?_
            rotate_left; focus (intro w'; go_simp; with_reducible rfl; done)
            rotate_left; focus (simp only [Act.put, List.setIfInBounds_toArray, List.set_cons_zero, List.set_cons_succ, i64_w, i32_w, u8_w, u32_w]; rfl; done)
            refine pure_ (i := 4) (N := some 41) (v := ?_) (a' := ?_) #[true, true, true, false, true, false, false, false, false, false] rfl rfl (any_of HT_.out (by kernel_rfl)) (fun _ _ _ h => h) (Or.inl ⟨by rfl, ?_⟩) ?_ ?_
            rotate_left; focus (intro w'; go_simp; with_reducible rfl; done)
            rotate_left; focus (simp only [Act.put, List.setIfInBounds_toArray, List.set_cons_zero, List.set_cons_succ, i64_w, i32_w, u8_w, u32_w]; rfl; done)
            refine pure_ (i := 5) (N := some 42) (v := ?_) (a' := ?_) #[true, true, true, false, true, true, false, false, false, false] rfl rfl (any_of HT_.out (by kernel_rfl)) (fun _ _ _ h => h) (Or.inl ⟨by rfl, ?_⟩) ?_ ?_
            rotate_left; focus (intro w'; go_simp; with_reducible rfl; done)
            rotate_left; focus (simp only [Act.put, List.setIfInBounds_toArray, List.set_cons_zero, List.set_cons_succ, i64_w, i32_w, u8_w, u32_w]; rfl; done)
            refine take_ (i := 3) (N := some 40) (v := ?_) (a' := ?_) #[true, true, true, true, true, true, false, false, false, false] rfl rfl (take_ofW HT_.out HW_.out (by kernel_rfl)) (fun _ _ _ h => h) (Or.inl ⟨by rfl, ?_⟩) hHeld ?_ ?_
            rotate_left; focus (intro w' _; go_simp; with_reducible rfl; done)
            rotate_left; focus (simp only [Act.put, List.setIfInBounds_toArray, List.set_cons_zero, List.set_cons_succ, i64_w, i32_w, u8_w, u32_w]; rfl; done)
            refine take_ (i := 6) (N := some 43) (v := ?_) (a' := ?_) #[true, true, true, true, true, true, true, false, false, false] rfl rfl (take_ofW HT_.out HW_.out (by kernel_rfl)) (fun _ _ _ h => h) (Or.inl ⟨by rfl, ?_⟩) hHeld ?_ ?_
            rotate_left; focus (intro w' _; go_simp; with_reducible rfl; done)
            rotate_left; focus (simp only [Act.put, List.setIfInBounds_toArray, List.set_cons_zero, List.set_cons_succ, i64_w, i32_w, u8_w, u32_w]; rfl; done)
            refine one_ (i := 7) (N := some 44) #[true, true, true, true, true, true, true, true, false, false] rfl rfl (one_of HT_.out (by kernel_rfl)) (by decide) (fun K hK => ?_)
            refine Kd.R_lit_step (Kd.int .u8) _ 5 ?hg (N := 44) ?hd (xs := ([92, bt (⟨#[48, 49, 50, 51, 52, 53, 54, 55, 56, 57, 97, 98, 99, 100, 101, 102]⟩ : ByteArray) (ji14), bt (⟨#[48, 49, 50, 51, 52, 53, 54, 55, 56, 57, 97, 98, 99, 100, 101, 102]⟩ : ByteArray) (ji18)] : List Int)) (inner := [.int .u8 92, .int .u8 (bt (⟨#[48, 49, 50, 51, 52, 53, 54, 55, 56, 57, 97, 98, 99, 100, 101, 102]⟩ : ByteArray) (ji14)), .int .u8 (bt (⟨#[48, 49, 50, 51, 52, 53, 54, 55, 56, 57, 97, 98, 99, 100, 101, 102]⟩ : ByteArray) (ji18))]) (ok := fun _ => True) (okp := fun _ => True) ?hr ?hp (fun _ hk => hk) trivial (Below.refl _ _) (Nat.le_refl _) (by simp) ?_; (case hd => rfl); (case hg => rfl); (case hr => first | (go_simp; done) | (go_simp; rfl)); (case hp => exact (Reps.one (show Kd.M (Kd.int .u8) _ _ _ 92 [.int .u8 92] from rfl) (Reps.one (show Kd.M (Kd.int .u8) _ _ _ (bt (⟨#[48, 49, 50, 51, 52, 53, 54, 55, 56, 57, 97, 98, 99, 100, 101, 102]⟩ : ByteArray) (ji14)) [.int .u8 (bt (⟨#[48, 49, 50, 51, 52, 53, 54, 55, 56, 57, 97, 98, 99, 100, 101, 102]⟩ : ByteArray) (ji14))] from rfl) (Reps.one (show Kd.M (Kd.int .u8) _ _ _ (bt (⟨#[48, 49, 50, 51, 52, 53, 54, 55, 56, 57, 97, 98, 99, 100, 101, 102]⟩ : ByteArray) (ji18)) [.int .u8 (bt (⟨#[48, 49, 50, 51, 52, 53, 54, 55, 56, 57, 97, 98, 99, 100, 101, 102]⟩ : ByteArray) (ji18))] from rfl) (Reps.none _ _)))))
            intro v291 w24 ho25 hb hg_ hnew_
            clear hg_ hnew_
            (first | rw [← Ny290.out] at ho25 | (simp only [Int.reduceToNat] at ho25; rw [← Ny290.out] at ho25))
            have HO292 := Aside0.mk (Kd.R_lower (Kd.R_new' ho25 (Kd.R_lt (by (with_reducible repeat (first | apply Kd.R_alloc | apply Kd.R_drewN | apply Kd.R_drew)); exact HO_3.out))) (below_size bel)); replace HO_3 := Aside0.mk (Kd.R_elder' (by (with_reducible repeat (first | apply Kd.R_alloc | apply Kd.R_drewN | apply Kd.R_drew)); exact HO_3.out) (Kd.R_base ho25) hb); replace HB := bs hb; clear hb ho25
            obtain ⟨Ao27, co27, eo27⟩ := Kd.R_slice HO292.out
            (first | subst eo27 | (injection eo27 with f1_ f2_ f3_; have f4_ := f1_.symm; have f5_ := f3_.symm; clear f1_ f2_ f3_; subst f4_; subst f5_))
            refine hK.out _ _ trivial (fun hHeld => ?_)
            clear hK K
            refine norm_ (a' := ?_) ?_ ?_
            rotate_left; focus (show Act.put _ (some 44) _ = _; simp only [Act.put, List.setIfInBounds_toArray, List.set_cons_zero, List.set_cons_succ, i64_w, i32_w, u8_w, u32_w]; rfl; done)
            refine one_ (i := 8) (N := some 45) #[true, true, true, true, true, true, true, true, true, false] rfl rfl (one_of HT_.out (by kernel_rfl)) (by decide) (fun K hK => ?_)
            refine Kd.R_append_rows_step (Kd.int .u8) (w0 := w) w.heap.size (by rfl) (.tmp 37) (.tmp 44) 64 5 (.int .u8 0) 1 rfl Tryd.underlying64 info5 rfl (by decide) (by omega) u3 x3_1 y290 _ _ _ (fun k_ => some k_ ≠ (.slice Ao27 y290.length co27 : Value).ownBlock) (fun _ => False) rfl rfl ?aO ?aR (fun _ _ h => h) (fun _ h => h.elim) ?aF ?aB ?aS ?aL ?_
            (case aR => repeat (first | exact (Kd.R_reads' HO292.out).2.2 | (with_reducible refine Kd.C_alloc ?_ _) | (with_reducible refine Kd.C_drewN ?_ _) | (with_reducible refine Kd.C_drew ?_)))
            (case aB => exact bel)
            (case aF => exact (fun k_ hk => Kd.fresh' (Kd.R_lt (by (with_reducible repeat (first | apply Kd.R_alloc | apply Kd.R_drewN | apply Kd.R_drew)); exact HO292.out)) k_ hk))
            (case aO => exact (by (with_reducible repeat (first | apply Kd.R_alloc | apply Kd.R_drewN | apply Kd.R_drew)); exact Kd.R_mono HO_3.out (fun _ hk => hk.2)))
            (case aS => exact (below_size bel))
            (case aL => have := LMc22.out; omega)
            intro v294 w26 ho hb hg hat
            rw [← Ny293.out] at ho
            have n0_ := Aside0.mk (Kd.R_after (ok := (fun _ => True)) (by (with_reducible repeat (first | apply Kd.R_alloc | apply Kd.R_drewN | apply Kd.R_drew)); exact HO292.out) hg hat); have n1_ := Aside0.mk (hb); have n2_ := Aside0.mk (ho); clear HO292; clear HB; clear HO_3; have HO292 := n0_; have HB := n1_; have HO295 := n2_; clear n0_ n1_ n2_; clear ho hb hg hat
            refine hK.out _ _ trivial (fun hHeld => ?_)
            clear hK K
            refine norm_ (a' := ?_) ?_ ?_
            rotate_left; focus (show Act.put _ (some 45) _ = _; simp only [Act.put, List.setIfInBounds_toArray, List.set_cons_zero, List.set_cons_succ, i64_w, i32_w, u8_w, u32_w]; rfl; done)
            refine pure_ (i := 9) (N := some 3) (v := ?_) (a' := ?_) #[true, true, true, true, true, true, true, true, true, true] rfl rfl (any_of HT_.out (by kernel_rfl)) (fun _ _ _ h => h) (Or.inl ⟨by rfl, ?_⟩) ?_ ?_
            rotate_left; focus (intro w'; go_simp; with_reducible rfl; done)
            rotate_left; focus (simp only [Act.put, List.setIfInBounds_toArray, List.set_cons_zero, List.set_cons_succ, i64_w, i32_w, u8_w, u32_w]; rfl; done)
            refine done_ (done_of HT_.out (by kernel_rfl)) ?_
            try go_wp2
            go_roundg k1
            case measure => have := HK1.out; omega
            case rel => exact ⟨(y293), (wrap64 (x4_1 + 1)), (by first | rfl | (simp; done) | (simp [*]; done)), H', ⟨by have := HK1.out; omega⟩, ⟨by (with_reducible repeat (first | apply Kd.R_alloc | apply Kd.R_drewN | apply Kd.R_drew)); exact Kd.R_mono HO295.out (fun _ hk => trivial)⟩, ⟨by repeat (first | (with_reducible first | exact HB.out | apply below_alloc | apply pw_below_drewN | apply below_drew1) | exact HB.out)⟩⟩
           ·
            rw [if_neg c22] at H
            exact absurd H (by simp)
          ·
           rw [if_neg c20] at H
           exact absurd H (by simp)
         ·
          rw [if_neg c19] at H
          exact absurd H (by simp)
        ·
         rw [if_neg c16] at H
         exact absurd H (by simp)
       ·
        rw [if_neg c15] at H
        exact absurd H (by simp)
      ·
       rw [if_neg c13] at H
       have c13b0 : decide ((bt a0 x4_1) < 32) = false := decide_eq_false c13; clear c13
       by_cases c28 : (bt a0 x4_1) > 126
       ·
        rw [if_pos c28] at H
        have c28b0 : decide (126 < (bt a0 x4_1)) = true := decide_eq_true c28; clear c28
        obtain ⟨ji29, hji29⟩ : ∃ j_ : Int, ((Int.tdiv (bt a0 x4_1) 16) % 256) = j_ := ⟨_, rfl⟩
        replace H : (if 0 ≤ (ji29) then (if (ji29) < 16 then (if 0 ≤ (Int.tmod (bt a0 x4_1) 16) then (if (Int.tmod (bt a0 x4_1) 16) < 16 then ((some (([92, bt (⟨#[48, 49, 50, 51, 52, 53, 54, 55, 56, 57, 97, 98, 99, 100, 101, 102]⟩ : ByteArray) (ji29), bt (⟨#[48, 49, 50, 51, 52, 53, 54, 55, 56, 57, 97, 98, 99, 100, 101, 102]⟩ : ByteArray) (Int.tmod (bt a0 x4_1) 16)] : List Int) : List Int)).bind fun y296 => (if x3_1.length + y296.length < 140737488355328 then (unisonref01_quoted.l0 k1 a0 (x3_1 ++ y296) (wrap64 (x4_1 + 1))) else (none))) else (none)) else (none)) else (none)) else (none)) = some r := by first | (rw [hji29] at H; exact H) | (simp only [hji29] at H ⊢; exact H)
        by_cases c30 : 0 ≤ (ji29)
        ·
         rw [if_pos c30] at H
         have c30b0 : decide (0 ≤ (ji29)) = true := decide_eq_true c30; clear c30
         by_cases c31 : (ji29) < 16
         ·
          rw [if_pos c31] at H
          have c31b0 : decide ((ji29) < 16) = true := decide_eq_true c31; clear c31
          obtain ⟨ji33, hji33⟩ : ∃ j_ : Int, (Int.tmod (bt a0 x4_1) 16) = j_ := ⟨_, rfl⟩
          replace H : (if 0 ≤ (ji33) then (if (ji33) < 16 then ((some (([92, bt (⟨#[48, 49, 50, 51, 52, 53, 54, 55, 56, 57, 97, 98, 99, 100, 101, 102]⟩ : ByteArray) (ji29), bt (⟨#[48, 49, 50, 51, 52, 53, 54, 55, 56, 57, 97, 98, 99, 100, 101, 102]⟩ : ByteArray) (ji33)] : List Int) : List Int)).bind fun y296 => (if x3_1.length + y296.length < 140737488355328 then (unisonref01_quoted.l0 k1 a0 (x3_1 ++ y296) (wrap64 (x4_1 + 1))) else (none))) else (none)) else (none)) = some r := by first | (rw [hji33] at H; exact H) | (simp only [hji33] at H ⊢; exact H)
          by_cases c34 : 0 ≤ (ji33)
          ·
           rw [if_pos c34] at H
           have c34b0 : decide (0 ≤ (ji33)) = true := decide_eq_true c34; clear c34
           by_cases c35 : (ji33) < 16
           ·
            rw [if_pos c35] at H
            have c35b0 : decide ((ji33) < 16) = true := decide_eq_true c35; clear c35
            obtain ⟨y296, hy296⟩ : ∃ y_ : List Int, y_ = (([92, bt (⟨#[48, 49, 50, 51, 52, 53, 54, 55, 56, 57, 97, 98, 99, 100, 101, 102]⟩ : ByteArray) (ji29), bt (⟨#[48, 49, 50, 51, 52, 53, 54, 55, 56, 57, 97, 98, 99, 100, 101, 102]⟩ : ByteArray) (ji33)] : List Int)) := ⟨_, rfl⟩
            replace H : (if x3_1.length + y296.length < 140737488355328 then (unisonref01_quoted.l0 k1 a0 (x3_1 ++ y296) (wrap64 (x4_1 + 1))) else (none)) = some r := by first | (rw [hy296]; with_reducible exact H) | (have H2_ := (Option.bind_some _ _).symm.trans H; rw [hy296]; with_reducible exact H2_) | (have H2_ := (Option.bind_some _ _).symm.trans H; with_reducible exact H2_) | with_reducible exact H | (rw [hy296]; exact H) | exact H
            have Ny296 := Aside0.mk hy296; clear hy296
            by_cases c37 : x3_1.length + y296.length < 140737488355328
            ·
             rw [if_pos c37] at H
             have LMc37 := Aside0.mk c37; clear c37
             obtain ⟨y299, hy299⟩ : ∃ y_ : List Int, y_ = (x3_1 ++ y296) := ⟨_, rfl⟩
             replace H : (unisonref01_quoted.l0 k1 a0 y299 (wrap64 (x4_1 + 1))) = some r := by first | (rw [hy299]; with_reducible exact H) | (have H2_ := (Option.bind_some _ _).symm.trans H; rw [hy299]; with_reducible exact H2_) | (have H2_ := (Option.bind_some _ _).symm.trans H; with_reducible exact H2_) | with_reducible exact H | (rw [hy299]; exact H) | exact H
             have Ny299 := Aside0.mk hy299; clear hy299
             have H' := Aside0.mk H
             clear H; have p6 : 0 ≤ (x4_1 : Int) := of_decide_eq_true (by first | (with_reducible assumption) | assumption); have q6 : x4_1 < (a0.size : Int) := of_decide_eq_true (by first | (with_reducible assumption) | assumption); have hx6 := bt_at a0 x4_1; replace p6 := eq_true p6; replace q6 := eq_true q6
             try go_wp2
             replace HO_3 := Aside0.mk (Kd.R_drew HO_3.out); replace HB := Aside0.mk (below_drew1 HB.out); have p32 : 0 ≤ ((ji29) : Int) := of_decide_eq_true (by first | (with_reducible assumption) | assumption); have q32 : (ji29) < (16 : Int) := of_decide_eq_true (by first | (with_reducible assumption) | assumption); have hx32 := bt_at (⟨#[48, 49, 50, 51, 52, 53, 54, 55, 56, 57, 97, 98, 99, 100, 101, 102]⟩ : ByteArray) (ji29); replace p32 := eq_true p32; replace q32 := eq_true q32; have p36 : 0 ≤ ((ji33) : Int) := of_decide_eq_true (by first | (with_reducible assumption) | assumption); have q36 : (ji33) < (16 : Int) := of_decide_eq_true (by first | (with_reducible assumption) | assumption); have hx36 := bt_at (⟨#[48, 49, 50, 51, 52, 53, 54, 55, 56, 57, 97, 98, 99, 100, 101, 102]⟩ : ByteArray) (ji33); replace p36 := eq_true p36; replace q36 := eq_true q36
             refine start_ (n := 10) (S := fun w' => True) (ds := []) #[false, false, false, false, false, false, false, false, false, false] (by kernel_rfl) rfl rfl trivial (fun hHeld => ?_); refine with_tabW unisonref01_quoted.tab10 unisonref01_quoted.bits10 (fun HT_ HW_ => ?_)
             generalize wr.drew = w38 at HO_3 HB hHeld ⊢
             refine pure_ (i := 0) (N := some 37) (v := ?_) (a' := ?_) #[true, false, false, false, false, false, false, false, false, false] rfl rfl (any_of HT_.out (by kernel_rfl)) (fun _ _ _ h => h) (Or.inl ⟨by rfl, ?_⟩) ?_ ?_
             rotate_left; focus (intro w'; go_simp; with_reducible rfl; done)
             rotate_left; focus (simp only [Act.put, List.setIfInBounds_toArray, List.set_cons_zero, List.set_cons_succ, i64_w, i32_w, u8_w, u32_w]; rfl; done)
             refine pure_ (i := 1) (N := some 38) (v := ?_) (a' := ?_) #[true, true, false, false, false, false, false, false, false, false] rfl rfl (any_of HT_.out (by kernel_rfl)) (fun _ _ _ h => h) (Or.inl ⟨by rfl, ?_⟩) ?_ ?_
             rotate_left; focus (intro w'; go_simp; with_reducible rfl; done)
             rotate_left; focus (simp only [Act.put, List.setIfInBounds_toArray, List.set_cons_zero, List.set_cons_succ, i64_w, i32_w, u8_w, u32_w]; rfl; done)
             refine pure_ (i := 2) (N := some 39) (v := ?_) (a' := ?_) #[true, true, true, false, false, false, false, false, false, false] rfl rfl (any_of HT_.out (by kernel_rfl)) (fun _ _ _ h => h) (Or.inl ⟨by rfl, ?_⟩) ?_ ?_
             rotate_left; focus (intro w'; go_simp; with_reducible rfl; done)
             rotate_left; focus (simp only [Act.put, List.setIfInBounds_toArray, List.set_cons_zero, List.set_cons_succ, i64_w, i32_w, u8_w, u32_w]; rfl; done)
             refine pure_ (i := 4) (N := some 41) (v := ?_) (a' := ?_) #[true, true, true, false, true, false, false, false, false, false] rfl rfl (any_of HT_.out (by kernel_rfl)) (fun _ _ _ h => h) (Or.inl ⟨by rfl, ?_⟩) ?_ ?_
             rotate_left; focus (intro w'; go_simp; with_reducible rfl; done)
             rotate_left; focus (simp only [Act.put, List.setIfInBounds_toArray, List.set_cons_zero, List.set_cons_succ, i64_w, i32_w, u8_w, u32_w]; rfl; done)
             refine pure_ (i := 5) (N := some 42) (v := ?_) (a' := ?_) #[true, true, true, false, true, true, false, false, false, false] rfl rfl (any_of HT_.out (by kernel_rfl)) (fun _ _ _ h => h) (Or.inl ⟨by rfl, ?_⟩) ?_ ?_
             rotate_left; focus (intro w'; go_simp; with_reducible rfl; done)
             rotate_left; focus (simp only [Act.put, List.setIfInBounds_toArray, List.set_cons_zero, List.set_cons_succ, i64_w, i32_w, u8_w, u32_w]; rfl; done)
             refine take_ (i := 3) (N := some 40) (v := ?_) (a' := ?_) #[true, true, true, true, true, true, false, false, false, false] rfl rfl (take_ofW HT_.out HW_.out (by kernel_rfl)) (fun _ _ _ h => h) (Or.inl ⟨by rfl, ?_⟩) hHeld ?_ ?_
             rotate_left; focus (intro w' _; go_simp; with_reducible rfl; done)
             rotate_left; focus (simp only [Act.put, List.setIfInBounds_toArray, List.set_cons_zero, List.set_cons_succ, i64_w, i32_w, u8_w, u32_w]; rfl; done)
             refine take_ (i := 6) (N := some 43) (v := ?_) (a' := ?_) #[true, true, true, true, true, true, true, false, false, false] rfl rfl (take_ofW HT_.out HW_.out (by kernel_rfl)) (fun _ _ _ h => h) (Or.inl ⟨by rfl, ?_⟩) hHeld ?_ ?_
             rotate_left; focus (intro w' _; go_simp; with_reducible rfl; done)
             rotate_left; focus (simp only [Act.put, List.setIfInBounds_toArray, List.set_cons_zero, List.set_cons_succ, i64_w, i32_w, u8_w, u32_w]; rfl; done)
             refine one_ (i := 7) (N := some 44) #[true, true, true, true, true, true, true, true, false, false] rfl rfl (one_of HT_.out (by kernel_rfl)) (by decide) (fun K hK => ?_)
             refine Kd.R_lit_step (Kd.int .u8) _ 5 ?hg (N := 44) ?hd (xs := ([92, bt (⟨#[48, 49, 50, 51, 52, 53, 54, 55, 56, 57, 97, 98, 99, 100, 101, 102]⟩ : ByteArray) (ji29), bt (⟨#[48, 49, 50, 51, 52, 53, 54, 55, 56, 57, 97, 98, 99, 100, 101, 102]⟩ : ByteArray) (ji33)] : List Int)) (inner := [.int .u8 92, .int .u8 (bt (⟨#[48, 49, 50, 51, 52, 53, 54, 55, 56, 57, 97, 98, 99, 100, 101, 102]⟩ : ByteArray) (ji29)), .int .u8 (bt (⟨#[48, 49, 50, 51, 52, 53, 54, 55, 56, 57, 97, 98, 99, 100, 101, 102]⟩ : ByteArray) (ji33))]) (ok := fun _ => True) (okp := fun _ => True) ?hr ?hp (fun _ hk => hk) trivial (Below.refl _ _) (Nat.le_refl _) (by simp) ?_; (case hd => rfl); (case hg => rfl); (case hr => first | (go_simp; done) | (go_simp; rfl)); (case hp => exact (Reps.one (show Kd.M (Kd.int .u8) _ _ _ 92 [.int .u8 92] from rfl) (Reps.one (show Kd.M (Kd.int .u8) _ _ _ (bt (⟨#[48, 49, 50, 51, 52, 53, 54, 55, 56, 57, 97, 98, 99, 100, 101, 102]⟩ : ByteArray) (ji29)) [.int .u8 (bt (⟨#[48, 49, 50, 51, 52, 53, 54, 55, 56, 57, 97, 98, 99, 100, 101, 102]⟩ : ByteArray) (ji29))] from rfl) (Reps.one (show Kd.M (Kd.int .u8) _ _ _ (bt (⟨#[48, 49, 50, 51, 52, 53, 54, 55, 56, 57, 97, 98, 99, 100, 101, 102]⟩ : ByteArray) (ji33)) [.int .u8 (bt (⟨#[48, 49, 50, 51, 52, 53, 54, 55, 56, 57, 97, 98, 99, 100, 101, 102]⟩ : ByteArray) (ji33))] from rfl) (Reps.none _ _)))))
             intro v297 w39 ho40 hb hg_ hnew_
             clear hg_ hnew_
             (first | rw [← Ny296.out] at ho40 | (simp only [Int.reduceToNat] at ho40; rw [← Ny296.out] at ho40))
             have HO298 := Aside0.mk (Kd.R_lower (Kd.R_new' ho40 (Kd.R_lt (by (with_reducible repeat (first | apply Kd.R_alloc | apply Kd.R_drewN | apply Kd.R_drew)); exact HO_3.out))) (below_size bel)); replace HO_3 := Aside0.mk (Kd.R_elder' (by (with_reducible repeat (first | apply Kd.R_alloc | apply Kd.R_drewN | apply Kd.R_drew)); exact HO_3.out) (Kd.R_base ho40) hb); replace HB := bs hb; clear hb ho40
             obtain ⟨Ao42, co42, eo42⟩ := Kd.R_slice HO298.out
             (first | subst eo42 | (injection eo42 with f1_ f2_ f3_; have f4_ := f1_.symm; have f5_ := f3_.symm; clear f1_ f2_ f3_; subst f4_; subst f5_))
             refine hK.out _ _ trivial (fun hHeld => ?_)
             clear hK K
             refine norm_ (a' := ?_) ?_ ?_
             rotate_left; focus (show Act.put _ (some 44) _ = _; simp only [Act.put, List.setIfInBounds_toArray, List.set_cons_zero, List.set_cons_succ, i64_w, i32_w, u8_w, u32_w]; rfl; done)
             refine one_ (i := 8) (N := some 45) #[true, true, true, true, true, true, true, true, true, false] rfl rfl (one_of HT_.out (by kernel_rfl)) (by decide) (fun K hK => ?_)
             refine Kd.R_append_rows_step (Kd.int .u8) (w0 := w) w.heap.size (by rfl) (.tmp 37) (.tmp 44) 64 5 (.int .u8 0) 1 rfl Tryd.underlying64 info5 rfl (by decide) (by omega) u3 x3_1 y296 _ _ _ (fun k_ => some k_ ≠ (.slice Ao42 y296.length co42 : Value).ownBlock) (fun _ => False) rfl rfl ?aO ?aR (fun _ _ h => h) (fun _ h => h.elim) ?aF ?aB ?aS ?aL ?_
             (case aR => repeat (first | exact (Kd.R_reads' HO298.out).2.2 | (with_reducible refine Kd.C_alloc ?_ _) | (with_reducible refine Kd.C_drewN ?_ _) | (with_reducible refine Kd.C_drew ?_)))
             (case aB => exact bel)
             (case aF => exact (fun k_ hk => Kd.fresh' (Kd.R_lt (by (with_reducible repeat (first | apply Kd.R_alloc | apply Kd.R_drewN | apply Kd.R_drew)); exact HO298.out)) k_ hk))
             (case aO => exact (by (with_reducible repeat (first | apply Kd.R_alloc | apply Kd.R_drewN | apply Kd.R_drew)); exact Kd.R_mono HO_3.out (fun _ hk => hk.2)))
             (case aS => exact (below_size bel))
             (case aL => have := LMc37.out; omega)
             intro v300 w41 ho hb hg hat
             rw [← Ny299.out] at ho
             have n0_ := Aside0.mk (Kd.R_after (ok := (fun _ => True)) (by (with_reducible repeat (first | apply Kd.R_alloc | apply Kd.R_drewN | apply Kd.R_drew)); exact HO298.out) hg hat); have n1_ := Aside0.mk (hb); have n2_ := Aside0.mk (ho); clear HO298; clear HB; clear HO_3; have HO298 := n0_; have HB := n1_; have HO301 := n2_; clear n0_ n1_ n2_; clear ho hb hg hat
             refine hK.out _ _ trivial (fun hHeld => ?_)
             clear hK K
             refine norm_ (a' := ?_) ?_ ?_
             rotate_left; focus (show Act.put _ (some 45) _ = _; simp only [Act.put, List.setIfInBounds_toArray, List.set_cons_zero, List.set_cons_succ, i64_w, i32_w, u8_w, u32_w]; rfl; done)
             refine pure_ (i := 9) (N := some 3) (v := ?_) (a' := ?_) #[true, true, true, true, true, true, true, true, true, true] rfl rfl (any_of HT_.out (by kernel_rfl)) (fun _ _ _ h => h) (Or.inl ⟨by rfl, ?_⟩) ?_ ?_
             rotate_left; focus (intro w'; go_simp; with_reducible rfl; done)
             rotate_left; focus (simp only [Act.put, List.setIfInBounds_toArray, List.set_cons_zero, List.set_cons_succ, i64_w, i32_w, u8_w, u32_w]; rfl; done)
             refine done_ (done_of HT_.out (by kernel_rfl)) ?_
             try go_wp2
             go_roundg k1
             case measure => have := HK1.out; omega
             case rel => exact ⟨(y299), (wrap64 (x4_1 + 1)), (by first | rfl | (simp; done) | (simp [*]; done)), H', ⟨by have := HK1.out; omega⟩, ⟨by (with_reducible repeat (first | apply Kd.R_alloc | apply Kd.R_drewN | apply Kd.R_drew)); exact Kd.R_mono HO301.out (fun _ hk => trivial)⟩, ⟨by repeat (first | (with_reducible first | exact HB.out | apply below_alloc | apply pw_below_drewN | apply below_drew1) | exact HB.out)⟩⟩
            ·
             rw [if_neg c37] at H
             exact absurd H (by simp)
           ·
            rw [if_neg c35] at H
            exact absurd H (by simp)
          ·
           rw [if_neg c34] at H
           exact absurd H (by simp)
         ·
          rw [if_neg c31] at H
          exact absurd H (by simp)
        ·
         rw [if_neg c30] at H
         exact absurd H (by simp)
       ·
        rw [if_neg c28] at H
        have c28b0 : decide (126 < (bt a0 x4_1)) = false := decide_eq_false c28; clear c28
        by_cases c43 : (bt a0 x4_1) = 92
        ·
         rw [if_pos c43] at H
         have c43b0 : ((bt a0 x4_1) == 92) = true := beq_iff_eq.mpr c43; have c43b1 : ((bt a0 x4_1) != 92) = false := bne_eq_false_iff_eq.mpr c43; clear c43
         obtain ⟨ji44, hji44⟩ : ∃ j_ : Int, ((Int.tdiv (bt a0 x4_1) 16) % 256) = j_ := ⟨_, rfl⟩
         replace H : (if 0 ≤ (ji44) then (if (ji44) < 16 then (if 0 ≤ (Int.tmod (bt a0 x4_1) 16) then (if (Int.tmod (bt a0 x4_1) 16) < 16 then ((some (([92, bt (⟨#[48, 49, 50, 51, 52, 53, 54, 55, 56, 57, 97, 98, 99, 100, 101, 102]⟩ : ByteArray) (ji44), bt (⟨#[48, 49, 50, 51, 52, 53, 54, 55, 56, 57, 97, 98, 99, 100, 101, 102]⟩ : ByteArray) (Int.tmod (bt a0 x4_1) 16)] : List Int) : List Int)).bind fun y302 => (if x3_1.length + y302.length < 140737488355328 then (unisonref01_quoted.l0 k1 a0 (x3_1 ++ y302) (wrap64 (x4_1 + 1))) else (none))) else (none)) else (none)) else (none)) else (none)) = some r := by first | (rw [hji44] at H; exact H) | (simp only [hji44] at H ⊢; exact H)
         by_cases c45 : 0 ≤ (ji44)
         ·
          rw [if_pos c45] at H
          have c45b0 : decide (0 ≤ (ji44)) = true := decide_eq_true c45; clear c45
          by_cases c46 : (ji44) < 16
          ·
           rw [if_pos c46] at H
           have c46b0 : decide ((ji44) < 16) = true := decide_eq_true c46; clear c46
           obtain ⟨ji48, hji48⟩ : ∃ j_ : Int, (Int.tmod (bt a0 x4_1) 16) = j_ := ⟨_, rfl⟩
           replace H : (if 0 ≤ (ji48) then (if (ji48) < 16 then ((some (([92, bt (⟨#[48, 49, 50, 51, 52, 53, 54, 55, 56, 57, 97, 98, 99, 100, 101, 102]⟩ : ByteArray) (ji44), bt (⟨#[48, 49, 50, 51, 52, 53, 54, 55, 56, 57, 97, 98, 99, 100, 101, 102]⟩ : ByteArray) (ji48)] : List Int) : List Int)).bind fun y302 => (if x3_1.length + y302.length < 140737488355328 then (unisonref01_quoted.l0 k1 a0 (x3_1 ++ y302) (wrap64 (x4_1 + 1))) else (none))) else (none)) else (none)) = some r := by first | (rw [hji48] at H; exact H) | (simp only [hji48] at H ⊢; exact H)
           by_cases c49 : 0 ≤ (ji48)
           ·
            rw [if_pos c49] at H
            have c49b0 : decide (0 ≤ (ji48)) = true := decide_eq_true c49; clear c49
            by_cases c50 : (ji48) < 16
            ·
             rw [if_pos c50] at H
             have c50b0 : decide ((ji48) < 16) = true := decide_eq_true c50; clear c50
             obtain ⟨y302, hy302⟩ : ∃ y_ : List Int, y_ = (([92, bt (⟨#[48, 49, 50, 51, 52, 53, 54, 55, 56, 57, 97, 98, 99, 100, 101, 102]⟩ : ByteArray) (ji44), bt (⟨#[48, 49, 50, 51, 52, 53, 54, 55, 56, 57, 97, 98, 99, 100, 101, 102]⟩ : ByteArray) (ji48)] : List Int)) := ⟨_, rfl⟩
             replace H : (if x3_1.length + y302.length < 140737488355328 then (unisonref01_quoted.l0 k1 a0 (x3_1 ++ y302) (wrap64 (x4_1 + 1))) else (none)) = some r := by first | (rw [hy302]; with_reducible exact H) | (have H2_ := (Option.bind_some _ _).symm.trans H; rw [hy302]; with_reducible exact H2_) | (have H2_ := (Option.bind_some _ _).symm.trans H; with_reducible exact H2_) | with_reducible exact H | (rw [hy302]; exact H) | exact H
             have Ny302 := Aside0.mk hy302; clear hy302
             by_cases c52 : x3_1.length + y302.length < 140737488355328
             ·
              rw [if_pos c52] at H
              have LMc52 := Aside0.mk c52; clear c52
              obtain ⟨y305, hy305⟩ : ∃ y_ : List Int, y_ = (x3_1 ++ y302) := ⟨_, rfl⟩
              replace H : (unisonref01_quoted.l0 k1 a0 y305 (wrap64 (x4_1 + 1))) = some r := by first | (rw [hy305]; with_reducible exact H) | (have H2_ := (Option.bind_some _ _).symm.trans H; rw [hy305]; with_reducible exact H2_) | (have H2_ := (Option.bind_some _ _).symm.trans H; with_reducible exact H2_) | with_reducible exact H | (rw [hy305]; exact H) | exact H
              have Ny305 := Aside0.mk hy305; clear hy305
              have H' := Aside0.mk H
              clear H; have p6 : 0 ≤ (x4_1 : Int) := of_decide_eq_true (by first | (with_reducible assumption) | assumption); have q6 : x4_1 < (a0.size : Int) := of_decide_eq_true (by first | (with_reducible assumption) | assumption); have hx6 := bt_at a0 x4_1; replace p6 := eq_true p6; replace q6 := eq_true q6
              try go_wp2
              replace HO_3 := Aside0.mk (Kd.R_drew HO_3.out); replace HB := Aside0.mk (below_drew1 HB.out); have p47 : 0 ≤ ((ji44) : Int) := of_decide_eq_true (by first | (with_reducible assumption) | assumption); have q47 : (ji44) < (16 : Int) := of_decide_eq_true (by first | (with_reducible assumption) | assumption); have hx47 := bt_at (⟨#[48, 49, 50, 51, 52, 53, 54, 55, 56, 57, 97, 98, 99, 100, 101, 102]⟩ : ByteArray) (ji44); replace p47 := eq_true p47; replace q47 := eq_true q47; have p51 : 0 ≤ ((ji48) : Int) := of_decide_eq_true (by first | (with_reducible assumption) | assumption); have q51 : (ji48) < (16 : Int) := of_decide_eq_true (by first | (with_reducible assumption) | assumption); have hx51 := bt_at (⟨#[48, 49, 50, 51, 52, 53, 54, 55, 56, 57, 97, 98, 99, 100, 101, 102]⟩ : ByteArray) (ji48); replace p51 := eq_true p51; replace q51 := eq_true q51
              refine start_ (n := 10) (S := fun w' => True) (ds := []) #[false, false, false, false, false, false, false, false, false, false] (by kernel_rfl) rfl rfl trivial (fun hHeld => ?_); refine with_tabW unisonref01_quoted.tab10 unisonref01_quoted.bits10 (fun HT_ HW_ => ?_)
              generalize wr.drew = w53 at HO_3 HB hHeld ⊢
              refine pure_ (i := 0) (N := some 37) (v := ?_) (a' := ?_) #[true, false, false, false, false, false, false, false, false, false] rfl rfl (any_of HT_.out (by kernel_rfl)) (fun _ _ _ h => h) (Or.inl ⟨by rfl, ?_⟩) ?_ ?_
              rotate_left; focus (intro w'; go_simp; with_reducible rfl; done)
              rotate_left; focus (simp only [Act.put, List.setIfInBounds_toArray, List.set_cons_zero, List.set_cons_succ, i64_w, i32_w, u8_w, u32_w]; rfl; done)
              refine pure_ (i := 1) (N := some 38) (v := ?_) (a' := ?_) #[true, true, false, false, false, false, false, false, false, false] rfl rfl (any_of HT_.out (by kernel_rfl)) (fun _ _ _ h => h) (Or.inl ⟨by rfl, ?_⟩) ?_ ?_
              rotate_left; focus (intro w'; go_simp; with_reducible rfl; done)
              rotate_left; focus (simp only [Act.put, List.setIfInBounds_toArray, List.set_cons_zero, List.set_cons_succ, i64_w, i32_w, u8_w, u32_w]; rfl; done)
              refine pure_ (i := 2) (N := some 39) (v := ?_) (a' := ?_) #[true, true, true, false, false, false, false, false, false, false] rfl rfl (any_of HT_.out (by kernel_rfl)) (fun _ _ _ h => h) (Or.inl ⟨by rfl, ?_⟩) ?_ ?_
              rotate_left; focus (intro w'; go_simp; with_reducible rfl; done)
              rotate_left; focus (simp only [Act.put, List.setIfInBounds_toArray, List.set_cons_zero, List.set_cons_succ, i64_w, i32_w, u8_w, u32_w]; rfl; done)
              refine pure_ (i := 4) (N := some 41) (v := ?_) (a' := ?_) #[true, true, true, false, true, false, false, false, false, false] rfl rfl (any_of HT_.out (by kernel_rfl)) (fun _ _ _ h => h) (Or.inl ⟨by rfl, ?_⟩) ?_ ?_
              rotate_left; focus (intro w'; go_simp; with_reducible rfl; done)
              rotate_left; focus (simp only [Act.put, List.setIfInBounds_toArray, List.set_cons_zero, List.set_cons_succ, i64_w, i32_w, u8_w, u32_w]; rfl; done)
              refine pure_ (i := 5) (N := some 42) (v := ?_) (a' := ?_) #[true, true, true, false, true, true, false, false, false, false] rfl rfl (any_of HT_.out (by kernel_rfl)) (fun _ _ _ h => h) (Or.inl ⟨by rfl, ?_⟩) ?_ ?_
              rotate_left; focus (intro w'; go_simp; with_reducible rfl; done)
              rotate_left; focus (simp only [Act.put, List.setIfInBounds_toArray, List.set_cons_zero, List.set_cons_succ, i64_w, i32_w, u8_w, u32_w]; rfl; done)
              refine take_ (i := 3) (N := some 40) (v := ?_) (a' := ?_) #[true, true, true, true, true, true, false, false, false, false] rfl rfl (take_ofW HT_.out HW_.out (by kernel_rfl)) (fun _ _ _ h => h) (Or.inl ⟨by rfl, ?_⟩) hHeld ?_ ?_
              rotate_left; focus (intro w' _; go_simp; with_reducible rfl; done)
              rotate_left; focus (simp only [Act.put, List.setIfInBounds_toArray, List.set_cons_zero, List.set_cons_succ, i64_w, i32_w, u8_w, u32_w]; rfl; done)
              refine take_ (i := 6) (N := some 43) (v := ?_) (a' := ?_) #[true, true, true, true, true, true, true, false, false, false] rfl rfl (take_ofW HT_.out HW_.out (by kernel_rfl)) (fun _ _ _ h => h) (Or.inl ⟨by rfl, ?_⟩) hHeld ?_ ?_
              rotate_left; focus (intro w' _; go_simp; with_reducible rfl; done)
              rotate_left; focus (simp only [Act.put, List.setIfInBounds_toArray, List.set_cons_zero, List.set_cons_succ, i64_w, i32_w, u8_w, u32_w]; rfl; done)
              refine one_ (i := 7) (N := some 44) #[true, true, true, true, true, true, true, true, false, false] rfl rfl (one_of HT_.out (by kernel_rfl)) (by decide) (fun K hK => ?_)
              refine Kd.R_lit_step (Kd.int .u8) _ 5 ?hg (N := 44) ?hd (xs := ([92, bt (⟨#[48, 49, 50, 51, 52, 53, 54, 55, 56, 57, 97, 98, 99, 100, 101, 102]⟩ : ByteArray) (ji44), bt (⟨#[48, 49, 50, 51, 52, 53, 54, 55, 56, 57, 97, 98, 99, 100, 101, 102]⟩ : ByteArray) (ji48)] : List Int)) (inner := [.int .u8 92, .int .u8 (bt (⟨#[48, 49, 50, 51, 52, 53, 54, 55, 56, 57, 97, 98, 99, 100, 101, 102]⟩ : ByteArray) (ji44)), .int .u8 (bt (⟨#[48, 49, 50, 51, 52, 53, 54, 55, 56, 57, 97, 98, 99, 100, 101, 102]⟩ : ByteArray) (ji48))]) (ok := fun _ => True) (okp := fun _ => True) ?hr ?hp (fun _ hk => hk) trivial (Below.refl _ _) (Nat.le_refl _) (by simp) ?_; (case hd => rfl); (case hg => rfl); (case hr => first | (go_simp; done) | (go_simp; rfl)); (case hp => exact (Reps.one (show Kd.M (Kd.int .u8) _ _ _ 92 [.int .u8 92] from rfl) (Reps.one (show Kd.M (Kd.int .u8) _ _ _ (bt (⟨#[48, 49, 50, 51, 52, 53, 54, 55, 56, 57, 97, 98, 99, 100, 101, 102]⟩ : ByteArray) (ji44)) [.int .u8 (bt (⟨#[48, 49, 50, 51, 52, 53, 54, 55, 56, 57, 97, 98, 99, 100, 101, 102]⟩ : ByteArray) (ji44))] from rfl) (Reps.one (show Kd.M (Kd.int .u8) _ _ _ (bt (⟨#[48, 49, 50, 51, 52, 53, 54, 55, 56, 57, 97, 98, 99, 100, 101, 102]⟩ : ByteArray) (ji48)) [.int .u8 (bt (⟨#[48, 49, 50, 51, 52, 53, 54, 55, 56, 57, 97, 98, 99, 100, 101, 102]⟩ : ByteArray) (ji48))] from rfl) (Reps.none _ _)))))
              intro v303 w54 ho55 hb hg_ hnew_
              clear hg_ hnew_
              (first | rw [← Ny302.out] at ho55 | (simp only [Int.reduceToNat] at ho55; rw [← Ny302.out] at ho55))
              have HO304 := Aside0.mk (Kd.R_lower (Kd.R_new' ho55 (Kd.R_lt (by (with_reducible repeat (first | apply Kd.R_alloc | apply Kd.R_drewN | apply Kd.R_drew)); exact HO_3.out))) (below_size bel)); replace HO_3 := Aside0.mk (Kd.R_elder' (by (with_reducible repeat (first | apply Kd.R_alloc | apply Kd.R_drewN | apply Kd.R_drew)); exact HO_3.out) (Kd.R_base ho55) hb); replace HB := bs hb; clear hb ho55
              obtain ⟨Ao57, co57, eo57⟩ := Kd.R_slice HO304.out
              (first | subst eo57 | (injection eo57 with f1_ f2_ f3_; have f4_ := f1_.symm; have f5_ := f3_.symm; clear f1_ f2_ f3_; subst f4_; subst f5_))
              refine hK.out _ _ trivial (fun hHeld => ?_)
              clear hK K
              refine norm_ (a' := ?_) ?_ ?_
              rotate_left; focus (show Act.put _ (some 44) _ = _; simp only [Act.put, List.setIfInBounds_toArray, List.set_cons_zero, List.set_cons_succ, i64_w, i32_w, u8_w, u32_w]; rfl; done)
              refine one_ (i := 8) (N := some 45) #[true, true, true, true, true, true, true, true, true, false] rfl rfl (one_of HT_.out (by kernel_rfl)) (by decide) (fun K hK => ?_)
              refine Kd.R_append_rows_step (Kd.int .u8) (w0 := w) w.heap.size (by rfl) (.tmp 37) (.tmp 44) 64 5 (.int .u8 0) 1 rfl Tryd.underlying64 info5 rfl (by decide) (by omega) u3 x3_1 y302 _ _ _ (fun k_ => some k_ ≠ (.slice Ao57 y302.length co57 : Value).ownBlock) (fun _ => False) rfl rfl ?aO ?aR (fun _ _ h => h) (fun _ h => h.elim) ?aF ?aB ?aS ?aL ?_
              (case aR => repeat (first | exact (Kd.R_reads' HO304.out).2.2 | (with_reducible refine Kd.C_alloc ?_ _) | (with_reducible refine Kd.C_drewN ?_ _) | (with_reducible refine Kd.C_drew ?_)))
              (case aB => exact bel)
              (case aF => exact (fun k_ hk => Kd.fresh' (Kd.R_lt (by (with_reducible repeat (first | apply Kd.R_alloc | apply Kd.R_drewN | apply Kd.R_drew)); exact HO304.out)) k_ hk))
              (case aO => exact (by (with_reducible repeat (first | apply Kd.R_alloc | apply Kd.R_drewN | apply Kd.R_drew)); exact Kd.R_mono HO_3.out (fun _ hk => hk.2)))
              (case aS => exact (below_size bel))
              (case aL => have := LMc52.out; omega)
              intro v306 w56 ho hb hg hat
              rw [← Ny305.out] at ho
              have n0_ := Aside0.mk (Kd.R_after (ok := (fun _ => True)) (by (with_reducible repeat (first | apply Kd.R_alloc | apply Kd.R_drewN | apply Kd.R_drew)); exact HO304.out) hg hat); have n1_ := Aside0.mk (hb); have n2_ := Aside0.mk (ho); clear HO304; clear HB; clear HO_3; have HO304 := n0_; have HB := n1_; have HO307 := n2_; clear n0_ n1_ n2_; clear ho hb hg hat
              refine hK.out _ _ trivial (fun hHeld => ?_)
              clear hK K
              refine norm_ (a' := ?_) ?_ ?_
              rotate_left; focus (show Act.put _ (some 45) _ = _; simp only [Act.put, List.setIfInBounds_toArray, List.set_cons_zero, List.set_cons_succ, i64_w, i32_w, u8_w, u32_w]; rfl; done)
              refine pure_ (i := 9) (N := some 3) (v := ?_) (a' := ?_) #[true, true, true, true, true, true, true, true, true, true] rfl rfl (any_of HT_.out (by kernel_rfl)) (fun _ _ _ h => h) (Or.inl ⟨by rfl, ?_⟩) ?_ ?_
              rotate_left; focus (intro w'; go_simp; with_reducible rfl; done)
              rotate_left; focus (simp only [Act.put, List.setIfInBounds_toArray, List.set_cons_zero, List.set_cons_succ, i64_w, i32_w, u8_w, u32_w]; rfl; done)
              refine done_ (done_of HT_.out (by kernel_rfl)) ?_
              try go_wp2
              go_roundg k1
              case measure => have := HK1.out; omega
              case rel => exact ⟨(y305), (wrap64 (x4_1 + 1)), (by first | rfl | (simp; done) | (simp [*]; done)), H', ⟨by have := HK1.out; omega⟩, ⟨by (with_reducible repeat (first | apply Kd.R_alloc | apply Kd.R_drewN | apply Kd.R_drew)); exact Kd.R_mono HO307.out (fun _ hk => trivial)⟩, ⟨by repeat (first | (with_reducible first | exact HB.out | apply below_alloc | apply pw_below_drewN | apply below_drew1) | exact HB.out)⟩⟩
             ·
              rw [if_neg c52] at H
              exact absurd H (by simp)
            ·
             rw [if_neg c50] at H
             exact absurd H (by simp)
           ·
            rw [if_neg c49] at H
            exact absurd H (by simp)
          ·
           rw [if_neg c46] at H
           exact absurd H (by simp)
         ·
          rw [if_neg c45] at H
          exact absurd H (by simp)
        ·
         rw [if_neg c43] at H
         have c43b0 : ((bt a0 x4_1) == 92) = false := beq_eq_false_iff_ne.mpr c43; have c43b1 : ((bt a0 x4_1) != 92) = true := bne_iff_ne.mpr c43
         by_cases c58 : x3_1.length < 140737488355328
         ·
          rw [if_pos c58] at H
          have LMc58 := Aside0.mk c58; clear c58
          obtain ⟨y308, hy308⟩ : ∃ y_ : List Int, y_ = (x3_1 ++ [bt a0 x4_1]) := ⟨_, rfl⟩
          replace H : (unisonref01_quoted.l0 k1 a0 y308 (wrap64 (x4_1 + 1))) = some r := by first | (rw [hy308]; with_reducible exact H) | (have H2_ := (Option.bind_some _ _).symm.trans H; rw [hy308]; with_reducible exact H2_) | (have H2_ := (Option.bind_some _ _).symm.trans H; with_reducible exact H2_) | with_reducible exact H | (rw [hy308]; exact H) | exact H
          have Ny308 := Aside0.mk hy308; clear hy308
          have H' := Aside0.mk H
          clear H; have p6 : 0 ≤ (x4_1 : Int) := of_decide_eq_true (by first | (with_reducible assumption) | assumption); have q6 : x4_1 < (a0.size : Int) := of_decide_eq_true (by first | (with_reducible assumption) | assumption); have hx6 := bt_at a0 x4_1; replace p6 := eq_true p6; replace q6 := eq_true q6
          go_wp2_with (first | ((with_reducible refine gate_builtin (b := .append) (xs := #[.tmp 16, .tmp 18]) rfl ?_); at_builtin; refine Kd.R_append (Kd.int .u8) (w0 := w) w.heap.size rfl (.tmp 16) (.tmp 18) 64 5 (.int .u8 0) 1 rfl Tryd.underlying64 info5 rfl (by decide) (by omega) u3 x3_1 (bt a0 x4_1) [.int .u8 (bt a0 x4_1)] (fun _ => True) (fun _ => False) rfl rfl ?aP (fun _ hk => hk.elim) ?aF ?aO ?aB ?aS ?aL ?_; (case aP => exact rfl); (case aB => exact bel); (case aF => exact (fun _ _ => trivial)); (case aO => exact (by (with_reducible repeat (first | apply Kd.R_alloc | apply Kd.R_drewN | apply Kd.R_drew)); exact HO_3.out)); (case aS => exact (below_size bel)); (case aL => have := LMc58.out; omega); intro v309 w59 ho hb hg hat; rw [← Ny308.out] at ho; have n0_ := Aside0.mk (hb); have n1_ := Aside0.mk (ho); clear HB; clear HO_3; have HB := n0_; have HO310 := n1_; clear n0_ n1_; clear ho hb hg hat))
          go_roundg k1
          case measure => have := HK1.out; omega
          case rel => exact ⟨(y308), (wrap64 (x4_1 + 1)), (by first | rfl | (simp; done) | (simp [*]; done)), H', ⟨by have := HK1.out; omega⟩, ⟨by (with_reducible repeat (first | apply Kd.R_alloc | apply Kd.R_drewN | apply Kd.R_drew)); exact HO310.out⟩, ⟨by repeat (first | (with_reducible first | exact HB.out | apply below_alloc | apply pw_below_drewN | apply below_drew1) | exact HB.out)⟩⟩
         ·
          rw [if_neg c58] at H
          exact absurd H (by simp)
    ·
     rw [if_neg c5] at H
     exact absurd H (by simp)
   ·
    rw [if_neg c4] at H
    have c4b0 : decide (x4_1 < (a0.size : Int)) = false := decide_eq_false c4; clear c4
    by_cases c60 : x3_1.length < 140737488355328
    ·
     rw [if_pos c60] at H
     have LMc60 := Aside0.mk c60; clear c60
     obtain ⟨y281, hy281⟩ : ∃ y_ : List Int, y_ = (x3_1 ++ [39]) := ⟨_, rfl⟩
     replace H : (some (strOfNums y281)) = some r := by first | (rw [hy281]; with_reducible exact H) | (have H2_ := (Option.bind_some _ _).symm.trans H; rw [hy281]; with_reducible exact H2_) | (have H2_ := (Option.bind_some _ _).symm.trans H; with_reducible exact H2_) | with_reducible exact H | (rw [hy281]; exact H) | exact H
     have Ny281 := Aside0.mk hy281; clear hy281
     obtain rfl := Option.some.inj H
     go_wp2_with (first | ((with_reducible refine gate_builtin (b := .append) (xs := #[.tmp 46, .tmp 47]) rfl ?_); at_builtin; refine Kd.R_append (Kd.int .u8) (w0 := w) w.heap.size rfl (.tmp 46) (.tmp 47) 64 5 (.int .u8 0) 1 rfl Tryd.underlying64 info5 rfl (by decide) (by omega) u3 x3_1 39 [.int .u8 39] (fun _ => True) (fun _ => False) rfl rfl ?aP (fun _ hk => hk.elim) ?aF ?aO ?aB ?aS ?aL ?_; (case aP => exact rfl); (case aB => exact bel); (case aF => exact (fun _ _ => trivial)); (case aO => exact (by (with_reducible repeat (first | apply Kd.R_alloc | apply Kd.R_drewN | apply Kd.R_drew)); exact HO_3.out)); (case aS => exact (below_size bel)); (case aL => have := LMc60.out; omega); intro v282 w61 ho hb hg hat; rw [← Ny281.out] at ho; have n0_ := Aside0.mk (hb); have n1_ := Aside0.mk (ho); clear HB; clear HO_3; have HB := n0_; have HO283 := n1_; clear n0_ n1_; clear ho hb hg hat; have hcv62 := own_string (P := Tryd.prog) Tryd.underlying64 Tryd.underlying5 Tryd.underlying9 (Kd.own_of_R HO283.out)))
     go_ret
     exact ⟨by first | (simp only [ByteArray.size_extract, Nat.min_self]; rfl) | rfl | (simp [errW_none, errW_some] <;> rfl) | (simp [*, errW_none, errW_some] <;> rfl), by repeat (first | (with_reducible first | exact HB.out | apply below_alloc | apply pw_below_drewN | apply below_drew1) | exact HB.out)⟩
    ·
     rw [if_neg c60] at H
     exact absurd H (by simp)
end Go.Proofs.YteehcopkljiikaaDoor.PA
end
section
namespace Go.Proofs.YteehcopkljiikaaDoor.PA
open Go.RowKit Go.Proofs.YteehcopkljiikaaDoorW.PrintWords Go.Proofs.YteehcopkljiikaaDoorW.PrintLast Go.Proofs.YteehcopkljiikaaDoorW.PrintMore Go.Proofs.YteehcopkljiikaaDoorX
attribute [local go_sem] max2_int min2_int max_two min_two max_three min_three max_four min_four   -- for this text's walks alone
set_option linter.unusedVariables false
set_option linter.unusedSimpArgs false

/-! ### unisonref01_Print: function 35 -/
def unisonref01_Print.f (k : Nat) (a0_0 : Int) (a0_1 : Int) (a0_2 : ByteArray) : Option (ByteArray × Int) := (unisonref01_Right.f a0_0 a0_1 a0_2).bind fun t312 => (if t312 = true then (if a0_0 = 1 then ((unisonref01_Digits.f k a0_1).bind fun t313 => (some (t313, 0))) else (if a0_0 = 2 then (if a0_1 = 1 then (some ((⟨#[84, 82, 85, 69]⟩ : ByteArray), 0)) else (some ((⟨#[70, 65, 76, 83, 69]⟩ : ByteArray), 0))) else (if a0_0 = 3 then ((unisonref01_quoted.f k a0_2).bind fun t314 => (some (t314, 0))) else (some ((⟨#[78, 85, 76, 76]⟩ : ByteArray), 0))))) else (some ((⟨#[]⟩ : ByteArray), 10)))
theorem unisonref01_Print.mono : ∀ a0 a1 a2 k, LeO (unisonref01_Print.f k a0 a1 a2) (unisonref01_Print.f (k + 1) a0 a1 a2) := by
 intro a0 a1 a2 k
 unfold unisonref01_Print.f
 repeat' first
   | (with_reducible exact unisonref01_Digits.mono _ _)
   | (with_reducible exact unisonref01_quoted.mono _ _)
   | (with_reducible exact LeO.refl _)
   | (with_reducible exact LeO.none _)
   | (with_reducible refine LeO.ite ?_ ?_)
   | (with_reducible refine LeO.bind ?_ (fun _ => ?_))
   | exact unisonref01_Digits.mono _ _
   | exact unisonref01_quoted.mono _ _
   | exact LeO.none _
   | refine LeO.ite ?_ ?_
   | refine LeO.bind ?_ (fun _ => ?_)
set_option maxHeartbeats 8000000 in
set_option maxRecDepth 100000 in
theorem unisonref01_Print.calls (k : Nat) (a0_0 : Int) (a0_1 : Int) (a0_2 : ByteArray) (r1 : ByteArray) (r2 : Int) (w : World) (h : unisonref01_Print.f k a0_0 a0_1 a0_2 = some (r1, r2)) :
  Calls Tryd.prog 35 #[.agg #[.int .i64 a0_0, .int .i64 a0_1, .string a0_2]] w fun e w' => e = .returned (.tuple #[.string r1, .int .i64 r2]) ∧ Below w.heap.size w w' := by
 have hu23 := Tryd.underlying23; have HB := Aside0.mk (Below.refl w.heap.size w); have H : ((unisonref01_Right.f a0_0 a0_1 a0_2).bind fun t312 => (if t312 = true then (if a0_0 = 1 then ((unisonref01_Digits.f k a0_1).bind fun t313 => (some (t313, 0))) else (if a0_0 = 2 then (if a0_1 = 1 then (some ((⟨#[84, 82, 85, 69]⟩ : ByteArray), 0)) else (some ((⟨#[70, 65, 76, 83, 69]⟩ : ByteArray), 0))) else (if a0_0 = 3 then ((unisonref01_quoted.f k a0_2).bind fun t314 => (some (t314, 0))) else (some ((⟨#[78, 85, 76, 76]⟩ : ByteArray), 0))))) else (some ((⟨#[]⟩ : ByteArray), 10)))) = some (r1, r2) := h; clear h; replace H := Option.bind_eq_some_iff.mp H
 obtain ⟨t312, A20, H⟩ := H
 replace H : (if t312 = true then (if a0_0 = 1 then ((unisonref01_Digits.f k a0_1).bind fun t313 => (some (t313, 0))) else (if a0_0 = 2 then (if a0_1 = 1 then (some ((⟨#[84, 82, 85, 69]⟩ : ByteArray), 0)) else (some ((⟨#[70, 65, 76, 83, 69]⟩ : ByteArray), 0))) else (if a0_0 = 3 then ((unisonref01_quoted.f k a0_2).bind fun t314 => (some (t314, 0))) else (some ((⟨#[78, 85, 76, 76]⟩ : ByteArray), 0))))) else (some ((⟨#[]⟩ : ByteArray), 10))) = some (r1, r2) := H; have A2 := Aside0.mk A20; clear A20
 by_cases c3 : t312 = true
 ·
  subst c3
  have H1 : (if a0_0 = 1 then ((unisonref01_Digits.f k a0_1).bind fun t313 => (some (t313, 0))) else (if a0_0 = 2 then (if a0_1 = 1 then (some ((⟨#[84, 82, 85, 69]⟩ : ByteArray), 0)) else (some ((⟨#[70, 65, 76, 83, 69]⟩ : ByteArray), 0))) else (if a0_0 = 3 then ((unisonref01_quoted.f k a0_2).bind fun t314 => (some (t314, 0))) else (some ((⟨#[78, 85, 76, 76]⟩ : ByteArray), 0))))) = some (r1, r2) := by (first | rw [if_pos rfl] at H | rw [if_pos True.intro] at H | skip); exact H
  clear H; have H := H1; clear H1
  by_cases c4 : a0_0 = 1
  ·
   rw [if_pos c4] at H
   have c4b0 : (a0_0 == 1) = true := beq_iff_eq.mpr c4; have c4b1 : (a0_0 != 1) = false := bne_eq_false_iff_eq.mpr c4; clear c4; replace H := Option.bind_eq_some_iff.mp H
   obtain ⟨t313, A50, H⟩ := H
   replace H : (some (t313, 0)) = some (r1, r2) := H; have A5 := Aside0.mk A50; clear A50
   simp only [Option.some.injEq, Prod.mk.injEq] at H
   obtain ⟨rfl, rfl⟩ := H
   go_enter Tryd.func35, Tryd.ntmps35
   go_wp2_with (first | ((with_reducible refine gate_dst (N := 1) rfl ?_); refine box_event ?hg (N := 1) ?hd (cs := #[.int .i64 a0_0, .int .i64 a0_1, .string a0_2]) (t := 23) ?hr ?_; (case hd => rfl); (case hg => rfl); (case hr => first | (go_simp; done) | (go_simp; rfl)); intro gb311 hg w6 hbox hb; have BK311 := Aside0.mk (hbox); have GW311 := bz hg; have GE311 := bz hg; replace HB := bs hb; clear hb hbox hg; have hcz7_0 : w6.cell? ⟨gb311, 0, none⟩ = some (.int .i64 a0_0) := (blk_cell BK311.out 0).trans rfl; have hcz7_1 : w6.cell? ⟨gb311, 1, none⟩ = some (.int .i64 a0_1) := (blk_cell BK311.out 1).trans rfl; have hcz7_2 : w6.cell? ⟨gb311, 2, none⟩ = some (.string a0_2) := (blk_cell BK311.out 2).trans rfl; have hfz7_0 := blk_frozen BK311.out 0; have hfz7_1 := blk_frozen BK311.out 1; have hfz7_2 := blk_frozen BK311.out 2) | ((with_reducible refine gate_callee (f := 14) rfl ?_); refine gL (some 6) Tryd.func14 #[.agg #[.int .i64 a0_0, .int .i64 a0_1, .string a0_2]] ?_; (with_reducible refine (unisonref01_Right.calls a0_0 a0_1 a0_2 true _ A2.out).mono ?_); rintro e w8 ⟨rfl, hb⟩; refine ⟨_, rfl, ?_⟩; replace BK311 := bb BK311 hb; replace HB := bs hb; (try clear hb); (try clear hb2); (try clear hk); (try clear hi); have hcz9_0 : w8.cell? ⟨gb311, 0, none⟩ = some (.int .i64 a0_0) := (blk_cell BK311.out 0).trans rfl; have hcz9_1 : w8.cell? ⟨gb311, 1, none⟩ = some (.int .i64 a0_1) := (blk_cell BK311.out 1).trans rfl; have hcz9_2 : w8.cell? ⟨gb311, 2, none⟩ = some (.string a0_2) := (blk_cell BK311.out 2).trans rfl; have hfz9_0 := blk_frozen BK311.out 0; have hfz9_1 := blk_frozen BK311.out 1; have hfz9_2 := blk_frozen BK311.out 2) | ((with_reducible refine gate_callee (f := 57) rfl ?_); refine gL (some 15) Tryd.func57 #[.int .i64 a0_1] ?_; (with_reducible refine (unisonref01_Digits.calls k a0_1 t313 _ A5.out).mono ?_); rintro e w' ⟨rfl, ⟨nd, rfl⟩⟩; refine ⟨_, rfl, ?_⟩))
   go_ret2
   exact ⟨by first | (simp only [ByteArray.size_extract, Nat.min_self]; rfl) | rfl | (simp [errW_none, errW_some] <;> rfl) | (simp [*, errW_none, errW_some] <;> rfl), by repeat (first | (with_reducible first | exact HB.out | apply below_alloc | apply pw_below_drewN | apply below_drew1 | refine below_set ?_ GE311.out) | exact HB.out)⟩
  ·
   rw [if_neg c4] at H
   have c4b0 : (a0_0 == 1) = false := beq_eq_false_iff_ne.mpr c4; have c4b1 : (a0_0 != 1) = true := bne_iff_ne.mpr c4
   by_cases c10 : a0_0 = 2
   ·
    rw [if_pos c10] at H
    have c10b0 : (a0_0 == 2) = true := beq_iff_eq.mpr c10; have c10b1 : (a0_0 != 2) = false := bne_eq_false_iff_eq.mpr c10; clear c10
    by_cases c11 : a0_1 = 1
    ·
     rw [if_pos c11] at H
     have c11b0 : (a0_1 == 1) = true := beq_iff_eq.mpr c11; have c11b1 : (a0_1 != 1) = false := bne_eq_false_iff_eq.mpr c11; clear c11
     simp only [Option.some.injEq, Prod.mk.injEq] at H
     obtain ⟨rfl, rfl⟩ := H
     go_enter Tryd.func35, Tryd.ntmps35
     go_wp2_with (first | ((with_reducible refine gate_dst (N := 1) rfl ?_); refine box_event ?hg (N := 1) ?hd (cs := #[.int .i64 a0_0, .int .i64 a0_1, .string a0_2]) (t := 23) ?hr ?_; (case hd => rfl); (case hg => rfl); (case hr => first | (go_simp; done) | (go_simp; rfl)); intro gb311 hg w12 hbox hb; have BK311 := Aside0.mk (hbox); have GW311 := bz hg; have GE311 := bz hg; replace HB := bs hb; clear hb hbox hg; have hcz13_0 : w12.cell? ⟨gb311, 0, none⟩ = some (.int .i64 a0_0) := (blk_cell BK311.out 0).trans rfl; have hcz13_1 : w12.cell? ⟨gb311, 1, none⟩ = some (.int .i64 a0_1) := (blk_cell BK311.out 1).trans rfl; have hcz13_2 : w12.cell? ⟨gb311, 2, none⟩ = some (.string a0_2) := (blk_cell BK311.out 2).trans rfl; have hfz13_0 := blk_frozen BK311.out 0; have hfz13_1 := blk_frozen BK311.out 1; have hfz13_2 := blk_frozen BK311.out 2) | ((with_reducible refine gate_callee (f := 14) rfl ?_); refine gL (some 6) Tryd.func14 #[.agg #[.int .i64 a0_0, .int .i64 a0_1, .string a0_2]] ?_; (with_reducible refine (unisonref01_Right.calls a0_0 a0_1 a0_2 true _ A2.out).mono ?_); rintro e w14 ⟨rfl, hb⟩; refine ⟨_, rfl, ?_⟩; replace BK311 := bb BK311 hb; replace HB := bs hb; (try clear hb); (try clear hb2); (try clear hk); (try clear hi); have hcz15_0 : w14.cell? ⟨gb311, 0, none⟩ = some (.int .i64 a0_0) := (blk_cell BK311.out 0).trans rfl; have hcz15_1 : w14.cell? ⟨gb311, 1, none⟩ = some (.int .i64 a0_1) := (blk_cell BK311.out 1).trans rfl; have hcz15_2 : w14.cell? ⟨gb311, 2, none⟩ = some (.string a0_2) := (blk_cell BK311.out 2).trans rfl; have hfz15_0 := blk_frozen BK311.out 0; have hfz15_1 := blk_frozen BK311.out 1; have hfz15_2 := blk_frozen BK311.out 2))
     go_ret2
     exact ⟨by first | (simp only [ByteArray.size_extract, Nat.min_self]; rfl) | rfl | (simp [errW_none, errW_some] <;> rfl) | (simp [*, errW_none, errW_some] <;> rfl), by repeat (first | (with_reducible first | exact HB.out | apply below_alloc | apply pw_below_drewN | apply below_drew1 | refine below_set ?_ GE311.out) | exact HB.out)⟩
    ·
     rw [if_neg c11] at H
     have c11b0 : (a0_1 == 1) = false := beq_eq_false_iff_ne.mpr c11; have c11b1 : (a0_1 != 1) = true := bne_iff_ne.mpr c11
     simp only [Option.some.injEq, Prod.mk.injEq] at H
     obtain ⟨rfl, rfl⟩ := H
     go_enter Tryd.func35, Tryd.ntmps35
     go_wp2_with (first | ((with_reducible refine gate_dst (N := 1) rfl ?_); refine box_event ?hg (N := 1) ?hd (cs := #[.int .i64 a0_0, .int .i64 a0_1, .string a0_2]) (t := 23) ?hr ?_; (case hd => rfl); (case hg => rfl); (case hr => first | (go_simp; done) | (go_simp; rfl)); intro gb311 hg w16 hbox hb; have BK311 := Aside0.mk (hbox); have GW311 := bz hg; have GE311 := bz hg; replace HB := bs hb; clear hb hbox hg; have hcz17_0 : w16.cell? ⟨gb311, 0, none⟩ = some (.int .i64 a0_0) := (blk_cell BK311.out 0).trans rfl; have hcz17_1 : w16.cell? ⟨gb311, 1, none⟩ = some (.int .i64 a0_1) := (blk_cell BK311.out 1).trans rfl; have hcz17_2 : w16.cell? ⟨gb311, 2, none⟩ = some (.string a0_2) := (blk_cell BK311.out 2).trans rfl; have hfz17_0 := blk_frozen BK311.out 0; have hfz17_1 := blk_frozen BK311.out 1; have hfz17_2 := blk_frozen BK311.out 2) | ((with_reducible refine gate_callee (f := 14) rfl ?_); refine gL (some 6) Tryd.func14 #[.agg #[.int .i64 a0_0, .int .i64 a0_1, .string a0_2]] ?_; (with_reducible refine (unisonref01_Right.calls a0_0 a0_1 a0_2 true _ A2.out).mono ?_); rintro e w18 ⟨rfl, hb⟩; refine ⟨_, rfl, ?_⟩; replace BK311 := bb BK311 hb; replace HB := bs hb; (try clear hb); (try clear hb2); (try clear hk); (try clear hi); have hcz19_0 : w18.cell? ⟨gb311, 0, none⟩ = some (.int .i64 a0_0) := (blk_cell BK311.out 0).trans rfl; have hcz19_1 : w18.cell? ⟨gb311, 1, none⟩ = some (.int .i64 a0_1) := (blk_cell BK311.out 1).trans rfl; have hcz19_2 : w18.cell? ⟨gb311, 2, none⟩ = some (.string a0_2) := (blk_cell BK311.out 2).trans rfl; have hfz19_0 := blk_frozen BK311.out 0; have hfz19_1 := blk_frozen BK311.out 1; have hfz19_2 := blk_frozen BK311.out 2))
     go_ret2
     exact ⟨by first | (simp only [ByteArray.size_extract, Nat.min_self]; rfl) | rfl | (simp [errW_none, errW_some] <;> rfl) | (simp [*, errW_none, errW_some] <;> rfl), by repeat (first | (with_reducible first | exact HB.out | apply below_alloc | apply pw_below_drewN | apply below_drew1 | refine below_set ?_ GE311.out) | exact HB.out)⟩
   ·
    rw [if_neg c10] at H
    have c10b0 : (a0_0 == 2) = false := beq_eq_false_iff_ne.mpr c10; have c10b1 : (a0_0 != 2) = true := bne_iff_ne.mpr c10
    by_cases c20 : a0_0 = 3
    ·
     rw [if_pos c20] at H
     have c20b0 : (a0_0 == 3) = true := beq_iff_eq.mpr c20; have c20b1 : (a0_0 != 3) = false := bne_eq_false_iff_eq.mpr c20; clear c20; replace H := Option.bind_eq_some_iff.mp H
     obtain ⟨t314, A210, H⟩ := H
     replace H : (some (t314, 0)) = some (r1, r2) := H; have A21 := Aside0.mk A210; clear A210
     simp only [Option.some.injEq, Prod.mk.injEq] at H
     obtain ⟨rfl, rfl⟩ := H
     go_enter Tryd.func35, Tryd.ntmps35
     go_wp2_with (first | ((with_reducible refine gate_dst (N := 1) rfl ?_); refine box_event ?hg (N := 1) ?hd (cs := #[.int .i64 a0_0, .int .i64 a0_1, .string a0_2]) (t := 23) ?hr ?_; (case hd => rfl); (case hg => rfl); (case hr => first | (go_simp; done) | (go_simp; rfl)); intro gb311 hg w22 hbox hb; have BK311 := Aside0.mk (hbox); have GW311 := bz hg; have GE311 := bz hg; replace HB := bs hb; clear hb hbox hg; have hcz23_0 : w22.cell? ⟨gb311, 0, none⟩ = some (.int .i64 a0_0) := (blk_cell BK311.out 0).trans rfl; have hcz23_1 : w22.cell? ⟨gb311, 1, none⟩ = some (.int .i64 a0_1) := (blk_cell BK311.out 1).trans rfl; have hcz23_2 : w22.cell? ⟨gb311, 2, none⟩ = some (.string a0_2) := (blk_cell BK311.out 2).trans rfl; have hfz23_0 := blk_frozen BK311.out 0; have hfz23_1 := blk_frozen BK311.out 1; have hfz23_2 := blk_frozen BK311.out 2) | ((with_reducible refine gate_callee (f := 14) rfl ?_); refine gL (some 6) Tryd.func14 #[.agg #[.int .i64 a0_0, .int .i64 a0_1, .string a0_2]] ?_; (with_reducible refine (unisonref01_Right.calls a0_0 a0_1 a0_2 true _ A2.out).mono ?_); rintro e w24 ⟨rfl, hb⟩; refine ⟨_, rfl, ?_⟩; replace BK311 := bb BK311 hb; replace HB := bs hb; (try clear hb); (try clear hb2); (try clear hk); (try clear hi); have hcz25_0 : w24.cell? ⟨gb311, 0, none⟩ = some (.int .i64 a0_0) := (blk_cell BK311.out 0).trans rfl; have hcz25_1 : w24.cell? ⟨gb311, 1, none⟩ = some (.int .i64 a0_1) := (blk_cell BK311.out 1).trans rfl; have hcz25_2 : w24.cell? ⟨gb311, 2, none⟩ = some (.string a0_2) := (blk_cell BK311.out 2).trans rfl; have hfz25_0 := blk_frozen BK311.out 0; have hfz25_1 := blk_frozen BK311.out 1; have hfz25_2 := blk_frozen BK311.out 2) | ((with_reducible refine gate_callee (f := 58) rfl ?_); refine gL (some 25) Tryd.func58 #[.string a0_2] ?_; (with_reducible refine (unisonref01_quoted.calls k a0_2 t314 _ A21.out).mono ?_); rintro e w26 ⟨rfl, hb⟩; refine ⟨_, rfl, ?_⟩; replace BK311 := bb BK311 hb; replace HB := bs hb; (try clear hb); (try clear hb2); (try clear hk); (try clear hi)))
     go_ret2
     exact ⟨by first | (simp only [ByteArray.size_extract, Nat.min_self]; rfl) | rfl | (simp [errW_none, errW_some] <;> rfl) | (simp [*, errW_none, errW_some] <;> rfl), by repeat (first | (with_reducible first | exact HB.out | apply below_alloc | apply pw_below_drewN | apply below_drew1 | refine below_set ?_ GE311.out) | exact HB.out)⟩
    ·
     rw [if_neg c20] at H
     have c20b0 : (a0_0 == 3) = false := beq_eq_false_iff_ne.mpr c20; have c20b1 : (a0_0 != 3) = true := bne_iff_ne.mpr c20
     simp only [Option.some.injEq, Prod.mk.injEq] at H
     obtain ⟨rfl, rfl⟩ := H
     go_enter Tryd.func35, Tryd.ntmps35
     go_wp2_with (first | ((with_reducible refine gate_dst (N := 1) rfl ?_); refine box_event ?hg (N := 1) ?hd (cs := #[.int .i64 a0_0, .int .i64 a0_1, .string a0_2]) (t := 23) ?hr ?_; (case hd => rfl); (case hg => rfl); (case hr => first | (go_simp; done) | (go_simp; rfl)); intro gb311 hg w27 hbox hb; have BK311 := Aside0.mk (hbox); have GW311 := bz hg; have GE311 := bz hg; replace HB := bs hb; clear hb hbox hg; have hcz28_0 : w27.cell? ⟨gb311, 0, none⟩ = some (.int .i64 a0_0) := (blk_cell BK311.out 0).trans rfl; have hcz28_1 : w27.cell? ⟨gb311, 1, none⟩ = some (.int .i64 a0_1) := (blk_cell BK311.out 1).trans rfl; have hcz28_2 : w27.cell? ⟨gb311, 2, none⟩ = some (.string a0_2) := (blk_cell BK311.out 2).trans rfl; have hfz28_0 := blk_frozen BK311.out 0; have hfz28_1 := blk_frozen BK311.out 1; have hfz28_2 := blk_frozen BK311.out 2) | ((with_reducible refine gate_callee (f := 14) rfl ?_); refine gL (some 6) Tryd.func14 #[.agg #[.int .i64 a0_0, .int .i64 a0_1, .string a0_2]] ?_; (with_reducible refine (unisonref01_Right.calls a0_0 a0_1 a0_2 true _ A2.out).mono ?_); rintro e w29 ⟨rfl, hb⟩; refine ⟨_, rfl, ?_⟩; replace BK311 := bb BK311 hb; replace HB := bs hb; (try clear hb); (try clear hb2); (try clear hk); (try clear hi); have hcz30_0 : w29.cell? ⟨gb311, 0, none⟩ = some (.int .i64 a0_0) := (blk_cell BK311.out 0).trans rfl; have hcz30_1 : w29.cell? ⟨gb311, 1, none⟩ = some (.int .i64 a0_1) := (blk_cell BK311.out 1).trans rfl; have hcz30_2 : w29.cell? ⟨gb311, 2, none⟩ = some (.string a0_2) := (blk_cell BK311.out 2).trans rfl; have hfz30_0 := blk_frozen BK311.out 0; have hfz30_1 := blk_frozen BK311.out 1; have hfz30_2 := blk_frozen BK311.out 2))
     go_ret2
     exact ⟨by first | (simp only [ByteArray.size_extract, Nat.min_self]; rfl) | rfl | (simp [errW_none, errW_some] <;> rfl) | (simp [*, errW_none, errW_some] <;> rfl), by repeat (first | (with_reducible first | exact HB.out | apply below_alloc | apply pw_below_drewN | apply below_drew1 | refine below_set ?_ GE311.out) | exact HB.out)⟩
 ·
  replace c3 := Bool.eq_false_iff.mpr c3
  subst c3
  have H1 : (some ((⟨#[]⟩ : ByteArray), 10)) = some (r1, r2) := by rw [if_neg (show ¬ (false = true) by decide)] at H; exact H
  clear H; have H := H1; clear H1
  simp only [Option.some.injEq, Prod.mk.injEq] at H
  obtain ⟨rfl, rfl⟩ := H
  go_enter Tryd.func35, Tryd.ntmps35
  go_wp2_with (first | ((with_reducible refine gate_dst (N := 1) rfl ?_); refine box_event ?hg (N := 1) ?hd (cs := #[.int .i64 a0_0, .int .i64 a0_1, .string a0_2]) (t := 23) ?hr ?_; (case hd => rfl); (case hg => rfl); (case hr => first | (go_simp; done) | (go_simp; rfl)); intro gb311 hg w31 hbox hb; have BK311 := Aside0.mk (hbox); have GW311 := bz hg; have GE311 := bz hg; replace HB := bs hb; clear hb hbox hg; have hcz32_0 : w31.cell? ⟨gb311, 0, none⟩ = some (.int .i64 a0_0) := (blk_cell BK311.out 0).trans rfl; have hcz32_1 : w31.cell? ⟨gb311, 1, none⟩ = some (.int .i64 a0_1) := (blk_cell BK311.out 1).trans rfl; have hcz32_2 : w31.cell? ⟨gb311, 2, none⟩ = some (.string a0_2) := (blk_cell BK311.out 2).trans rfl; have hfz32_0 := blk_frozen BK311.out 0; have hfz32_1 := blk_frozen BK311.out 1; have hfz32_2 := blk_frozen BK311.out 2) | ((with_reducible refine gate_callee (f := 14) rfl ?_); refine gL (some 6) Tryd.func14 #[.agg #[.int .i64 a0_0, .int .i64 a0_1, .string a0_2]] ?_; (with_reducible refine (unisonref01_Right.calls a0_0 a0_1 a0_2 false _ A2.out).mono ?_); rintro e w33 ⟨rfl, hb⟩; refine ⟨_, rfl, ?_⟩; replace BK311 := bb BK311 hb; replace HB := bs hb; (try clear hb); (try clear hb2); (try clear hk); (try clear hi)))
  go_ret2
  exact ⟨by first | (simp only [ByteArray.size_extract, Nat.min_self]; rfl) | rfl | (simp [errW_none, errW_some] <;> rfl) | (simp [*, errW_none, errW_some] <;> rfl), by repeat (first | (with_reducible first | exact HB.out | apply below_alloc | apply pw_below_drewN | apply below_drew1 | refine below_set ?_ GE311.out) | exact HB.out)⟩

end Go.Proofs.YteehcopkljiikaaDoor.PA
end
section
namespace Go.Proofs.YteehcopkljiikaaDoor.PA
open Go.RowKit Go.Proofs.YteehcopkljiikaaDoorW.PrintWords Go.Proofs.YteehcopkljiikaaDoorW.PrintLast Go.Proofs.YteehcopkljiikaaDoorW.PrintMore Go.Proofs.YteehcopkljiikaaDoorX
attribute [local go_sem] max2_int min2_int max_two min_two max_three min_three max_four min_four   -- for this text's walks alone
set_option linter.unusedVariables false
set_option linter.unusedSimpArgs false
/-! ### unisonref01_place: function 75 -/
def unisonref01_place.l0 : Nat → Int → Int → Option (Int)
 | 0, _, _ => none
 | k + 1, x0, x3 => if x3 < 16 then (if 0 ≤ x3 then (if (bt (⟨#[48, 49, 50, 51, 52, 53, 54, 55, 56, 57, 97, 98, 99, 100, 101, 102]⟩ : ByteArray) x3) = x0 then (some x3) else (unisonref01_place.l0 k x0 (wrap64 (x3 + 1)))) else (none)) else (some 0)
def unisonref01_place.f (k : Nat) (a0 : Int) : Option (Int) := unisonref01_place.l0 k a0 0
theorem unisonref01_place.mono_l : ∀ k, (∀ y0 y1, LeO (unisonref01_place.l0 k y0 y1) (unisonref01_place.l0 (k + 1) y0 y1))
 | 0 => fun _ _ r h => by simp [unisonref01_place.l0] at h
 | k + 1 => by
  have ih0 := unisonref01_place.mono_l k
  ·
   intro y0 y1
   unfold unisonref01_place.l0
   repeat' first
   | (with_reducible exact ih0 _ _)
   | (with_reducible exact LeO.refl _)
   | (with_reducible exact LeO.none _)
   | (with_reducible refine LeO.ite ?_ ?_)
   | (with_reducible refine LeO.bind ?_ (fun _ => ?_))
   | exact ih0 _ _
   | exact LeO.none _
   | refine LeO.ite ?_ ?_
   | refine LeO.bind ?_ (fun _ => ?_)
theorem unisonref01_place.mono : ∀ a0 k, LeO (unisonref01_place.f k a0) (unisonref01_place.f (k + 1) a0) := by
 intro a0 k
 have ih0 := unisonref01_place.mono_l k
 unfold unisonref01_place.f
 repeat' first
   | (with_reducible exact ih0 _ _)
   | (with_reducible exact LeO.refl _)
   | (with_reducible exact LeO.none _)
   | (with_reducible refine LeO.ite ?_ ?_)
   | (with_reducible refine LeO.bind ?_ (fun _ => ?_))
   | exact ih0 _ _
   | exact LeO.none _
   | refine LeO.ite ?_ ?_
   | refine LeO.bind ?_ (fun _ => ?_)
set_option maxHeartbeats 8000000 in
set_option maxRecDepth 100000 in
theorem unisonref01_place.calls (k : Nat) (a0 : Int) (r : Int) (w : World) (h : unisonref01_place.f k a0 = some r) :
  Calls Tryd.prog 75 #[.int .u8 a0] w fun e w' => e = .returned (.int .i64 r) ∧ Drawn0 w w' := by
 have H : (unisonref01_place.l0 k a0 0) = some r := h; clear h
 have H' := Aside0.mk H
 clear H
 go_enter Tryd.func75, Tryd.ntmps75
 go_wp2
 go_loopg [3] k (fun kq v3 w' => ∃ (x3_1 : Int), v3 = .int .i64 x3_1 ∧ Aside0 (unisonref01_place.l0 kq a0 x3_1 = some r) ∧ Aside0 (kq ≤ k) ∧ Drawn0 w w')
 case atStart => exact ⟨(0), (by first | rfl | (simp; done) | (simp [*]; done)), H', ⟨Nat.le_refl _⟩, by repeat (first | exact Drawn0.refl _ | apply Drawn0.step)⟩
 case round =>
  clear H'
  obtain ⟨x3_1, rfl, HA, HK1, ⟨m1, rfl⟩⟩ := hrel
  cases gk with
  | zero => exact absurd HA.out (by simp [unisonref01_place.l0])
  | succ k1 =>
   have H := HA.out; clear HA
   simp only [unisonref01_place.l0] at H
   by_cases c2 : x3_1 < 16
   ·
    rw [if_pos c2] at H
    have c2b0 : decide (x3_1 < 16) = true := decide_eq_true c2; clear c2
    by_cases c3 : 0 ≤ x3_1
    ·
     rw [if_pos c3] at H
     have c3b0 : decide (0 ≤ x3_1) = true := decide_eq_true c3; clear c3
     by_cases c5 : (bt (⟨#[48, 49, 50, 51, 52, 53, 54, 55, 56, 57, 97, 98, 99, 100, 101, 102]⟩ : ByteArray) x3_1) = a0
     ·
      rw [if_pos c5] at H
      have c5b0 : ((bt (⟨#[48, 49, 50, 51, 52, 53, 54, 55, 56, 57, 97, 98, 99, 100, 101, 102]⟩ : ByteArray) x3_1) == a0) = true := beq_iff_eq.mpr c5; have c5b1 : ((bt (⟨#[48, 49, 50, 51, 52, 53, 54, 55, 56, 57, 97, 98, 99, 100, 101, 102]⟩ : ByteArray) x3_1) != a0) = false := bne_eq_false_iff_eq.mpr c5; clear c5
      obtain rfl := Option.some.inj H
      have p4 : 0 ≤ (x3_1 : Int) := of_decide_eq_true (by first | (with_reducible assumption) | assumption); have q4 : x3_1 < (16 : Int) := of_decide_eq_true (by first | (with_reducible assumption) | assumption); have hx4 := bt_at (⟨#[48, 49, 50, 51, 52, 53, 54, 55, 56, 57, 97, 98, 99, 100, 101, 102]⟩ : ByteArray) x3_1; replace p4 := eq_true p4; replace q4 := eq_true q4
      go_wp2
      go_ret
      exact ⟨by first | rfl | (simp; done) | (simp [*]; done), by repeat (first | exact Drawn0.refl _ | apply Drawn0.step)⟩
     ·
      rw [if_neg c5] at H
      have c5b0 : ((bt (⟨#[48, 49, 50, 51, 52, 53, 54, 55, 56, 57, 97, 98, 99, 100, 101, 102]⟩ : ByteArray) x3_1) == a0) = false := beq_eq_false_iff_ne.mpr c5; have c5b1 : ((bt (⟨#[48, 49, 50, 51, 52, 53, 54, 55, 56, 57, 97, 98, 99, 100, 101, 102]⟩ : ByteArray) x3_1) != a0) = true := bne_iff_ne.mpr c5
      have H' := Aside0.mk H
      clear H; have p4 : 0 ≤ (x3_1 : Int) := of_decide_eq_true (by first | (with_reducible assumption) | assumption); have q4 : x3_1 < (16 : Int) := of_decide_eq_true (by first | (with_reducible assumption) | assumption); have hx4 := bt_at (⟨#[48, 49, 50, 51, 52, 53, 54, 55, 56, 57, 97, 98, 99, 100, 101, 102]⟩ : ByteArray) x3_1; replace p4 := eq_true p4; replace q4 := eq_true q4
      go_wp2
      go_roundg k1
      case measure => have := HK1.out; omega
      case rel => exact ⟨(wrap64 (x3_1 + 1)), (by first | rfl | (simp; done) | (simp [*]; done)), H', ⟨by have := HK1.out; omega⟩, by repeat (first | exact Drawn0.refl _ | apply Drawn0.step)⟩
    ·
     rw [if_neg c3] at H
     exact absurd H (by simp)
   ·
    rw [if_neg c2] at H
    have c2b0 : decide (x3_1 < 16) = false := decide_eq_false c2; clear c2
    obtain rfl := Option.some.inj H
    go_wp2
    go_ret
    exact ⟨by first | rfl | (simp; done) | (simp [*]; done), by repeat (first | exact Drawn0.refl _ | apply Drawn0.step)⟩
end Go.Proofs.YteehcopkljiikaaDoor.PA
end
section
namespace Go.Proofs.YteehcopkljiikaaDoor.PA
open Go.RowKit Go.Proofs.YteehcopkljiikaaDoorW.PrintWords Go.Proofs.YteehcopkljiikaaDoorW.PrintLast Go.Proofs.YteehcopkljiikaaDoorW.PrintMore Go.Proofs.YteehcopkljiikaaDoorX
attribute [local go_sem] max2_int min2_int max_two min_two max_three min_three max_four min_four   -- for this text's walks alone
set_option linter.unusedVariables false
set_option linter.unusedSimpArgs false

/-! ### unisonref01_said: function 61 -/
mutual
def unisonref01_said.j0 : Nat → ByteArray → Bool → Option (Int × Int × ByteArray)
 | 0, _, _ => none
 | k + 1, x0, x12 => if x12 = true then ((unisonref01_Bool.f (x0.toList == ([84, 82, 85, 69] : List UInt8))).bind fun bt318 => (some (bt318.1, bt318.2.1, bt318.2.2))) else (if x0.toList = ([78, 85, 76, 76] : List UInt8) then (unisonref01_said.j1 k x0 true) else (unisonref01_said.j1 k x0 (x0.toList == ([] : List UInt8))))
def unisonref01_said.j1 : Nat → ByteArray → Bool → Option (Int × Int × ByteArray)
 | 0, _, _ => none
 | k + 1, x0, x21 => if x21 = true then (some (0, 0, (⟨#[]⟩ : ByteArray))) else (if 0 < (x0.size : Int) then (if (bt x0 0) = 39 then (unisonref01_said.l1 k x0 ([] : List Int) 1) else (unisonref01_said.l0 k x0 0 0)) else (none))
def unisonref01_said.l1 : Nat → ByteArray → List Int → Int → Option (Int × Int × ByteArray)
 | 0, _, _, _ => none
 | k + 1, x0, x5, x6 => if x6 < (wrap64 ((x0.size : Int) - 1)) then (if 0 ≤ x6 then (if x6 < (x0.size : Int) then (if (bt x0 x6) = 39 then (if x5.length < 140737488355328 then (unisonref01_said.l1 k x0 (x5 ++ [39]) (wrap64 ((wrap64 (x6 + 1)) + 1))) else (none)) else (if (bt x0 x6) = 92 then (unisonref01_said.j5 k x0 x5 x6 (decide ((wrap64 (x6 + 2)) < (x0.size : Int)))) else (unisonref01_said.j5 k x0 x5 x6 false))) else (none)) else (none)) else (some (3, 0, strOfNums x5))
def unisonref01_said.j5 : Nat → ByteArray → List Int → Int → Bool → Option (Int × Int × ByteArray)
 | 0, _, _, _, _ => none
 | k + 1, x0, x5, x6, x78 => if x78 = true then (if 0 ≤ (wrap64 (x6 + 1)) then (if (wrap64 (x6 + 1)) < (x0.size : Int) then ((unisonref01_place.f k (bt x0 (wrap64 (x6 + 1)))).bind fun t330 => (if 0 ≤ (wrap64 (x6 + 2)) then (if (wrap64 (x6 + 2)) < (x0.size : Int) then ((unisonref01_place.f k (bt x0 (wrap64 (x6 + 2)))).bind fun t331 => (if x5.length < 140737488355328 then (unisonref01_said.l1 k x0 (x5 ++ [(wrap64 ((wrap64 (16 * t330)) + t331)) % 256]) (wrap64 ((wrap64 (x6 + 2)) + 1))) else (none))) else (none)) else (none))) else (none)) else (none)) else (if 0 ≤ x6 then (if x6 < (x0.size : Int) then (if x5.length < 140737488355328 then (unisonref01_said.l1 k x0 (x5 ++ [bt x0 x6]) (wrap64 (x6 + 1))) else (none)) else (none)) else (none))
def unisonref01_said.l0 : Nat → ByteArray → Int → Int → Option (Int × Int × ByteArray)
 | 0, _, _, _ => none
 | k + 1, x0, x3, x4 => if x4 < (x0.size : Int) then (unisonref01_said.j3 k x0 x3 x4 (decide (x4 < 20))) else (unisonref01_said.j3 k x0 x3 x4 false)
def unisonref01_said.j3 : Nat → ByteArray → Int → Int → Bool → Option (Int × Int × ByteArray)
 | 0, _, _, _, _ => none
 | k + 1, x0, x3, x4, x33 => if x33 = true then (if 0 ≤ x4 then (if x4 < (x0.size : Int) then (if (bt x0 x4) = 45 then (unisonref01_said.l0 k x0 x3 (wrap64 (x4 + 1))) else (unisonref01_said.l0 k x0 (wrap64 ((wrap64 ((wrap64 (10 * x3)) - (wrap64 (bt x0 x4)))) + 48)) (wrap64 (x4 + 1)))) else (none)) else (none)) else (if 0 < (x0.size : Int) then (if (bt x0 0) = 45 then ((unisonref01_Number.f x3).bind fun bt321 => (some (bt321.1, bt321.2.1, bt321.2.2))) else ((unisonref01_Number.f (wrap64 (-x3))).bind fun bt324 => (some (bt324.1, bt324.2.1, bt324.2.2)))) else (none))
end
def unisonref01_said.f (k : Nat) (a0 : ByteArray) : Option (Int × Int × ByteArray) := if a0.toList = ([84, 82, 85, 69] : List UInt8) then (unisonref01_said.j0 k a0 true) else (unisonref01_said.j0 k a0 (a0.toList == ([70, 65, 76, 83, 69] : List UInt8)))
theorem unisonref01_said.mono_l : ∀ k, (∀ y0 y1, LeO (unisonref01_said.j0 k y0 y1) (unisonref01_said.j0 (k + 1) y0 y1)) ∧ (∀ y0 y1, LeO (unisonref01_said.j1 k y0 y1) (unisonref01_said.j1 (k + 1) y0 y1)) ∧ (∀ y0 y1 y2, LeO (unisonref01_said.l1 k y0 y1 y2) (unisonref01_said.l1 (k + 1) y0 y1 y2)) ∧ (∀ y0 y1 y2 y3, LeO (unisonref01_said.j5 k y0 y1 y2 y3) (unisonref01_said.j5 (k + 1) y0 y1 y2 y3)) ∧ (∀ y0 y1 y2, LeO (unisonref01_said.l0 k y0 y1 y2) (unisonref01_said.l0 (k + 1) y0 y1 y2)) ∧ (∀ y0 y1 y2 y3, LeO (unisonref01_said.j3 k y0 y1 y2 y3) (unisonref01_said.j3 (k + 1) y0 y1 y2 y3))
 | 0 => ⟨fun _ _ r h => by simp [unisonref01_said.j0] at h, fun _ _ r h => by simp [unisonref01_said.j1] at h, fun _ _ _ r h => by simp [unisonref01_said.l1] at h, fun _ _ _ _ r h => by simp [unisonref01_said.j5] at h, fun _ _ _ r h => by simp [unisonref01_said.l0] at h, fun _ _ _ _ r h => by simp [unisonref01_said.j3] at h⟩
 | k + 1 => by
  obtain ⟨ih0, ih1, ih2, ih3, ih4, ih5⟩ := unisonref01_said.mono_l k
  refine ⟨?_, ?_, ?_, ?_, ?_, ?_⟩
  ·
   intro y0 y1
   unfold unisonref01_said.j0
   repeat' first
   | (with_reducible exact ih0 _ _)
   | (with_reducible exact ih1 _ _)
   | (with_reducible exact ih2 _ _ _)
   | (with_reducible exact ih3 _ _ _ _)
   | (with_reducible exact ih4 _ _ _)
   | (with_reducible exact ih5 _ _ _ _)
   | (with_reducible exact unisonref01_place.mono _ _)
   | (with_reducible exact LeO.refl _)
   | (with_reducible exact LeO.none _)
   | (with_reducible refine LeO.ite ?_ ?_)
   | (with_reducible refine LeO.bind ?_ (fun _ => ?_))
   | exact ih0 _ _
   | exact ih1 _ _
   | exact ih2 _ _ _
   | exact ih3 _ _ _ _
   | exact ih4 _ _ _
   | exact ih5 _ _ _ _
   | exact unisonref01_place.mono _ _
   | exact LeO.none _
   | refine LeO.ite ?_ ?_
   | refine LeO.bind ?_ (fun _ => ?_)
  ·
   intro y0 y1
   unfold unisonref01_said.j1
   repeat' first
   | (with_reducible exact ih0 _ _)
   | (with_reducible exact ih1 _ _)
   | (with_reducible exact ih2 _ _ _)
   | (with_reducible exact ih3 _ _ _ _)
   | (with_reducible exact ih4 _ _ _)
   | (with_reducible exact ih5 _ _ _ _)
   | (with_reducible exact unisonref01_place.mono _ _)
   | (with_reducible exact LeO.refl _)
   | (with_reducible exact LeO.none _)
   | (with_reducible refine LeO.ite ?_ ?_)
   | (with_reducible refine LeO.bind ?_ (fun _ => ?_))
   | exact ih0 _ _
   | exact ih1 _ _
   | exact ih2 _ _ _
   | exact ih3 _ _ _ _
   | exact ih4 _ _ _
   | exact ih5 _ _ _ _
   | exact unisonref01_place.mono _ _
   | exact LeO.none _
   | refine LeO.ite ?_ ?_
   | refine LeO.bind ?_ (fun _ => ?_)
  ·
   intro y0 y1 y2
   unfold unisonref01_said.l1
   repeat' first
   | (with_reducible exact ih0 _ _)
   | (with_reducible exact ih1 _ _)
   | (with_reducible exact ih2 _ _ _)
   | (with_reducible exact ih3 _ _ _ _)
   | (with_reducible exact ih4 _ _ _)
   | (with_reducible exact ih5 _ _ _ _)
   | (with_reducible exact unisonref01_place.mono _ _)
   | (with_reducible exact LeO.refl _)
   | (with_reducible exact LeO.none _)
   | (with_reducible refine LeO.ite ?_ ?_)
   | (with_reducible refine LeO.bind ?_ (fun _ => ?_))
   | exact ih0 _ _
   | exact ih1 _ _
   | exact ih2 _ _ _
   | exact ih3 _ _ _ _
   | exact ih4 _ _ _
   | exact ih5 _ _ _ _
   | exact unisonref01_place.mono _ _
   | exact LeO.none _
   | refine LeO.ite ?_ ?_
   | refine LeO.bind ?_ (fun _ => ?_)
  ·
   intro y0 y1 y2 y3
   unfold unisonref01_said.j5
   repeat' first
   | (with_reducible exact ih0 _ _)
   | (with_reducible exact ih1 _ _)
   | (with_reducible exact ih2 _ _ _)
   | (with_reducible exact ih3 _ _ _ _)
   | (with_reducible exact ih4 _ _ _)
   | (with_reducible exact ih5 _ _ _ _)
   | (with_reducible exact unisonref01_place.mono _ _)
   | (with_reducible exact LeO.refl _)
   | (with_reducible exact LeO.none _)
   | (with_reducible refine LeO.ite ?_ ?_)
   | (with_reducible refine LeO.bind ?_ (fun _ => ?_))
   | exact ih0 _ _
   | exact ih1 _ _
   | exact ih2 _ _ _
   | exact ih3 _ _ _ _
   | exact ih4 _ _ _
   | exact ih5 _ _ _ _
   | exact unisonref01_place.mono _ _
   | exact LeO.none _
   | refine LeO.ite ?_ ?_
   | refine LeO.bind ?_ (fun _ => ?_)
  ·
   intro y0 y1 y2
   unfold unisonref01_said.l0
   repeat' first
   | (with_reducible exact ih0 _ _)
   | (with_reducible exact ih1 _ _)
   | (with_reducible exact ih2 _ _ _)
   | (with_reducible exact ih3 _ _ _ _)
   | (with_reducible exact ih4 _ _ _)
   | (with_reducible exact ih5 _ _ _ _)
   | (with_reducible exact unisonref01_place.mono _ _)
   | (with_reducible exact LeO.refl _)
   | (with_reducible exact LeO.none _)
   | (with_reducible refine LeO.ite ?_ ?_)
   | (with_reducible refine LeO.bind ?_ (fun _ => ?_))
   | exact ih0 _ _
   | exact ih1 _ _
   | exact ih2 _ _ _
   | exact ih3 _ _ _ _
   | exact ih4 _ _ _
   | exact ih5 _ _ _ _
   | exact unisonref01_place.mono _ _
   | exact LeO.none _
   | refine LeO.ite ?_ ?_
   | refine LeO.bind ?_ (fun _ => ?_)
  ·
   intro y0 y1 y2 y3
   unfold unisonref01_said.j3
   repeat' first
   | (with_reducible exact ih0 _ _)
   | (with_reducible exact ih1 _ _)
   | (with_reducible exact ih2 _ _ _)
   | (with_reducible exact ih3 _ _ _ _)
   | (with_reducible exact ih4 _ _ _)
   | (with_reducible exact ih5 _ _ _ _)
   | (with_reducible exact unisonref01_place.mono _ _)
   | (with_reducible exact LeO.refl _)
   | (with_reducible exact LeO.none _)
   | (with_reducible refine LeO.ite ?_ ?_)
   | (with_reducible refine LeO.bind ?_ (fun _ => ?_))
   | exact ih0 _ _
   | exact ih1 _ _
   | exact ih2 _ _ _
   | exact ih3 _ _ _ _
   | exact ih4 _ _ _
   | exact ih5 _ _ _ _
   | exact unisonref01_place.mono _ _
   | exact LeO.none _
   | refine LeO.ite ?_ ?_
   | refine LeO.bind ?_ (fun _ => ?_)
theorem unisonref01_said.mono : ∀ a0 k, LeO (unisonref01_said.f k a0) (unisonref01_said.f (k + 1) a0) := by
 intro a0 k
 obtain ⟨ih0, ih1, ih2, ih3, ih4, ih5⟩ := unisonref01_said.mono_l k
 unfold unisonref01_said.f
 repeat' first
   | (with_reducible exact ih0 _ _)
   | (with_reducible exact ih1 _ _)
   | (with_reducible exact ih2 _ _ _)
   | (with_reducible exact ih3 _ _ _ _)
   | (with_reducible exact ih4 _ _ _)
   | (with_reducible exact ih5 _ _ _ _)
   | (with_reducible exact unisonref01_place.mono _ _)
   | (with_reducible exact LeO.refl _)
   | (with_reducible exact LeO.none _)
   | (with_reducible refine LeO.ite ?_ ?_)
   | (with_reducible refine LeO.bind ?_ (fun _ => ?_))
   | exact ih0 _ _
   | exact ih1 _ _
   | exact ih2 _ _ _
   | exact ih3 _ _ _ _
   | exact ih4 _ _ _
   | exact ih5 _ _ _ _
   | exact unisonref01_place.mono _ _
   | exact LeO.none _
   | refine LeO.ite ?_ ?_
   | refine LeO.bind ?_ (fun _ => ?_)
def unisonref01_said.T24 : Bool × List (List Nat × List Nat) := (true, [([], []), ([], []), ([], []), ([2], [2]), ([1, 3], [1, 3]), ([4], [4]), ([5], [5]), ([], []), ([], []), ([8], [8]), ([7, 9], [7, 9]), ([10, 5], [10]), ([6, 11], [6, 11]), ([12], [12]), ([13], [13]), ([0, 14, 11], [0, 14]), ([15, 15, 0, 1, 2, 3, 4, 5, 6, 7, 8, 9, 10, 11, 12, 13, 14, 15], [0, 15])])
def unisonref01_said.B24 : List Nat := [0, 0, 0, 4, 14, 30, 62, 0, 0, 256, 896, 1982, 4094, 8190, 16382, 32767, 65535]
theorem unisonref01_said.tab24 : rtab .any (opsOf Tryd.f61 24) = unisonref01_said.T24 := by kernel_rfl
theorem unisonref01_said.bits24 : waitsOk unisonref01_said.T24.2 unisonref01_said.B24 = true := by kernel_rfl
set_option maxHeartbeats 8000000 in
set_option maxRecDepth 100000 in
theorem unisonref01_said.calls (k : Nat) (a0 : ByteArray) (r1 : Int) (r2 : Int) (r3 : ByteArray) (w : World) (h : unisonref01_said.f k a0 = some (r1, r2, r3)) :
  Calls Tryd.prog 61 #[.string a0] w fun e w' => e = .returned (.agg #[.int .i64 r1, .int .i64 r2, .string r3]) ∧ Below w.heap.size w w' := by
 have hu23 := Tryd.underlying23; have HB := Aside0.mk (Below.refl w.heap.size w); have H : (if a0.toList = ([84, 82, 85, 69] : List UInt8) then (unisonref01_said.j0 k a0 true) else (unisonref01_said.j0 k a0 (a0.toList == ([70, 65, 76, 83, 69] : List UInt8)))) = some (r1, r2, r3) := h; clear h; have HC2 := Aside0.mk H; clear H
 go_enter Tryd.func61, Tryd.ntmps61
 go_upto_region 1 with (first | ((with_reducible refine gate_dst (N := 2) rfl ?_); (try (refine gate_guard (by rfl) ?_; dsimp only)); refine box_event ?hg (N := 2) ?hd (cs := #[.int .i64 0, .int .i64 0, .string (⟨#[]⟩ : ByteArray)]) (t := 23) ?hr ?_; (case hd => rfl); (case hg => rfl); (case hr => first | (go_simp; done) | (go_simp; rfl)); intro gb317 hg w3 hbox hb; have BK317 := Aside0.mk (hbox); have GW317 := bz hg; have GE317 := bz hg; replace HB := bs hb; clear hb hbox hg))
 (try simp only [Act.put, List.setIfInBounds_toArray, List.set_cons_zero, List.set_cons_succ])
 go_cut [12] (fun v12 wc => ∃ (kq : Nat) (x12_1 : Bool), v12 = .bool x12_1 ∧ Aside0 (unisonref01_said.j0 kq a0 x12_1 = some (r1, r2, r3)) ∧ Aside0 (kq ≤ k) ∧ Aside0 (wc.heap[gb317]? = some (.cells #[.int .i64 0, .int .i64 0, .string (⟨#[]⟩ : ByteArray)] 23 (0, 0))) ∧ Aside0 (Below w.heap.size w wc))
 case first =>
  have H := HC2.out; clear HC2
  by_cases c4 : a0.toList = ([84, 82, 85, 69] : List UInt8)
  ·
   rw [if_pos c4] at H
   have c4b0 : (a0.toList == ([84, 82, 85, 69] : List UInt8)) = true := beq_iff_eq.mpr c4; have c4b1 : (a0.toList != ([84, 82, 85, 69] : List UInt8)) = false := bne_eq_false_iff_eq.mpr c4; clear c4
   (first | rw [c4b0] | (simp only [i64_w, i32_w, u8_w, u32_w]; rw [c4b0]) | rw [c4b1] | skip)
   have H' := Aside0.mk H
   clear H
   go_wp2
   go_meet
   case rel => exact ⟨_, (true), (by first | rfl | (simp; done) | (simp [*]; done)), H', ⟨by first | omega | exact Nat.le_refl _⟩, ⟨by (with_reducible repeat (first | refine blk_drewN ?_ _ | refine blk_drew ?_ | refine blk_alloc ?_ _)); exact BK317.out⟩, ⟨by repeat (first | (with_reducible first | exact HB.out | apply below_alloc | apply pw_below_drewN | apply below_drew1 | refine below_set ?_ GE317.out) | exact HB.out)⟩⟩
  ·
   rw [if_neg c4] at H
   have c4b0 : (a0.toList == ([84, 82, 85, 69] : List UInt8)) = false := beq_eq_false_iff_ne.mpr c4; have c4b1 : (a0.toList != ([84, 82, 85, 69] : List UInt8)) = true := bne_iff_ne.mpr c4
   (first | rw [c4b0] | (simp only [i64_w, i32_w, u8_w, u32_w]; rw [c4b0]) | rw [c4b1] | skip)
   have H' := Aside0.mk H
   clear H
   go_wp2
   go_meet
   case rel => exact ⟨_, ((a0.toList == ([70, 65, 76, 83, 69] : List UInt8))), (by first | rfl | (simp; done) | (simp [*]; done)), H', ⟨by first | omega | exact Nat.le_refl _⟩, ⟨by (with_reducible repeat (first | refine blk_drewN ?_ _ | refine blk_drew ?_ | refine blk_alloc ?_ _)); exact BK317.out⟩, ⟨by repeat (first | (with_reducible first | exact HB.out | apply below_alloc | apply pw_below_drewN | apply below_drew1 | refine below_set ?_ GE317.out) | exact HB.out)⟩⟩
 case rest =>
  clear HC2; (try clear p2); (try clear c4); (try clear c4b0); (try clear c4b1)
  obtain ⟨kq, x12_1, rfl, HA, HJ1, BK317, HB⟩ := hcut
  cases kq with
  | zero => exact absurd HA.out (by simp [unisonref01_said.j0])
  | succ kj1 =>
   have H := HA.out; clear HA
   simp only [unisonref01_said.j0] at H
   by_cases c5 : x12_1 = true
   ·
    subst c5
    have H1 : ((unisonref01_Bool.f (a0.toList == ([84, 82, 85, 69] : List UInt8))).bind fun bt318 => (some (bt318.1, bt318.2.1, bt318.2.2))) = some (r1, r2, r3) := by (first | rw [if_pos rfl] at H | rw [if_pos True.intro] at H | skip); exact H
    clear H; have H := H1; clear H1; replace H := Option.bind_eq_some_iff.mp H
    obtain ⟨⟨t318, t319, t320⟩, A60, H⟩ := H
    replace H : (some (t318, t319, t320)) = some (r1, r2, r3) := H; have A6 := Aside0.mk A60; clear A60
    simp only [Option.some.injEq, Prod.mk.injEq] at H
    obtain ⟨rfl, rfl, rfl⟩ := H
    go_wp2_with (first | ((with_reducible refine gate_callee (f := 43) rfl ?_); refine gL (some 15) Tryd.func43 #[.bool (a0.toList == ([84, 82, 85, 69] : List UInt8))] ?_; (with_reducible refine (unisonref01_Bool.calls (a0.toList == ([84, 82, 85, 69] : List UInt8)) t318 t319 t320 _ A6.out).mono ?_); rintro e w7 ⟨rfl, hb⟩; refine ⟨_, rfl, ?_⟩; replace BK317 := bb BK317 hb; replace HB := bs hb; (try clear hb); (try clear hb2); (try clear hk); (try clear hi); have hcz8_0 : w7.cell? ⟨gb317, 0, none⟩ = some (.int .i64 0) := (blk_cell BK317.out 0).trans rfl; have hcz8_1 : w7.cell? ⟨gb317, 1, none⟩ = some (.int .i64 0) := (blk_cell BK317.out 1).trans rfl; have hcz8_2 : w7.cell? ⟨gb317, 2, none⟩ = some (.string (⟨#[]⟩ : ByteArray)) := (blk_cell BK317.out 2).trans rfl; have hfz8_0 := blk_frozen BK317.out 0; have hfz8_1 := blk_frozen BK317.out 1; have hfz8_2 := blk_frozen BK317.out 2) | ((with_reducible refine gate_store (t := 23) (p := 2) rfl ?_); refine store_event (t := 23) (p := 2) (v := ?vo_w9) (w1 := (((w7.setCell ⟨gb317, 0, none⟩ (.int .i64 t318)).setCell ⟨gb317, 1, none⟩ (.int .i64 t319)).setCell ⟨gb317, 2, none⟩ (.string t320))) ?hg ?ho ?hn ?hr ?_; (case ho => rfl); (case hg => rfl); (case hn => rfl); (case hr => first | (go_simp; done) | (go_simp; rfl)); intro w9 hw; replace BK317 : Aside0 (w9.heap[gb317]? = some (.cells #[.int .i64 t318, .int .i64 t319, .string t320] 23 (0, 0))) := bp BK317 hw; replace HB := bv hw; clear hw))
    refine bodyPost_ret (results_cell_row rfl _ _ gb317 23 #[.int .i64 t318, .int .i64 t319, .string t320] (0, 0) _ rfl (by (with_reducible repeat (first | refine blk_drewN ?_ _ | refine blk_drew ?_ | refine blk_alloc ?_ _)); exact BK317.out) Tryd.underlying23 rfl (by kernel_rfl)) rfl ?_
    exact ⟨by first | (simp only [ByteArray.size_extract, Nat.min_self]; rfl) | rfl | (simp [errW_none, errW_some] <;> rfl) | (simp [*, errW_none, errW_some] <;> rfl), by repeat (first | (with_reducible first | exact HB.out | apply below_alloc | apply pw_below_drewN | apply below_drew1 | refine below_set ?_ GE317.out) | exact HB.out)⟩
   ·
    replace c5 := Bool.eq_false_iff.mpr c5
    subst c5
    have H1 : (if a0.toList = ([78, 85, 76, 76] : List UInt8) then (unisonref01_said.j1 kj1 a0 true) else (unisonref01_said.j1 kj1 a0 (a0.toList == ([] : List UInt8)))) = some (r1, r2, r3) := by rw [if_neg (show ¬ (false = true) by decide)] at H; exact H
    clear H; have H := H1; clear H1; have HC10 := Aside0.mk H; clear H
    go_upto_region 3 with (fail)
    go_cut [21] (fun v21 wc => ∃ (kq : Nat) (x21_9 : Bool), v21 = .bool x21_9 ∧ Aside0 (unisonref01_said.j1 kq a0 x21_9 = some (r1, r2, r3)) ∧ Aside0 (kq ≤ kj1) ∧ Aside0 (wc.heap[gb317]? = some (.cells #[.int .i64 0, .int .i64 0, .string (⟨#[]⟩ : ByteArray)] 23 (0, 0))) ∧ Aside0 (Below w.heap.size w wc))
    case first =>
     have H := HC10.out; clear HC10
     by_cases c11 : a0.toList = ([78, 85, 76, 76] : List UInt8)
     ·
      rw [if_pos c11] at H
      have c11b0 : (a0.toList == ([78, 85, 76, 76] : List UInt8)) = true := beq_iff_eq.mpr c11; have c11b1 : (a0.toList != ([78, 85, 76, 76] : List UInt8)) = false := bne_eq_false_iff_eq.mpr c11; clear c11
      (first | rw [c11b0] | (simp only [i64_w, i32_w, u8_w, u32_w]; rw [c11b0]) | rw [c11b1] | skip)
      have H' := Aside0.mk H
      clear H
      go_wp2
      go_meet
      case rel => exact ⟨_, (true), (by first | rfl | (simp; done) | (simp [*]; done)), H', ⟨by have := HJ1.out; first | omega | exact Nat.le_refl _⟩, ⟨by (with_reducible repeat (first | refine blk_drewN ?_ _ | refine blk_drew ?_ | refine blk_alloc ?_ _)); exact BK317.out⟩, ⟨by repeat (first | (with_reducible first | exact HB.out | apply below_alloc | apply pw_below_drewN | apply below_drew1 | refine below_set ?_ GE317.out) | exact HB.out)⟩⟩
     ·
      rw [if_neg c11] at H
      have c11b0 : (a0.toList == ([78, 85, 76, 76] : List UInt8)) = false := beq_eq_false_iff_ne.mpr c11; have c11b1 : (a0.toList != ([78, 85, 76, 76] : List UInt8)) = true := bne_iff_ne.mpr c11
      (first | rw [c11b0] | (simp only [i64_w, i32_w, u8_w, u32_w]; rw [c11b0]) | rw [c11b1] | skip)
      have H' := Aside0.mk H
      clear H
      go_wp2
      go_meet
      case rel => exact ⟨_, ((a0.toList == ([] : List UInt8))), (by first | rfl | (simp; done) | (simp [*]; done)), H', ⟨by have := HJ1.out; first | omega | exact Nat.le_refl _⟩, ⟨by (with_reducible repeat (first | refine blk_drewN ?_ _ | refine blk_drew ?_ | refine blk_alloc ?_ _)); exact BK317.out⟩, ⟨by repeat (first | (with_reducible first | exact HB.out | apply below_alloc | apply pw_below_drewN | apply below_drew1 | refine below_set ?_ GE317.out) | exact HB.out)⟩⟩
    case rest =>
     clear HC10; (try clear c1); (try clear p2); (try clear c4); (try clear c4b0); (try clear c4b1); (try clear c5); (try clear c6); (try clear c11); (try clear c11b0); (try clear c11b1); (try clear hcz8_0); (try clear hcz8_1); (try clear hcz8_2); (try clear hfz8_0); (try clear hfz8_1); (try clear hfz8_2); (try clear p2)
     obtain ⟨kq, x21_9, rfl, HA, HJ9, BK317, HB⟩ := hcut
     cases kq with
     | zero => exact absurd HA.out (by simp [unisonref01_said.j1])
     | succ kj9 =>
      have H := HA.out; clear HA
      simp only [unisonref01_said.j1] at H
      by_cases c12 : x21_9 = true
      ·
       subst c12
       have H1 : (some (0, 0, (⟨#[]⟩ : ByteArray))) = some (r1, r2, r3) := by (first | rw [if_pos rfl] at H | rw [if_pos True.intro] at H | skip); exact H
       clear H; have H := H1; clear H1
       simp only [Option.some.injEq, Prod.mk.injEq] at H
       obtain ⟨rfl, rfl, rfl⟩ := H
       have hcz13_0 : wc.cell? ⟨gb317, 0, none⟩ = some (.int .i64 0) := (blk_cell BK317.out 0).trans rfl; have hcz13_1 : wc.cell? ⟨gb317, 1, none⟩ = some (.int .i64 0) := (blk_cell BK317.out 1).trans rfl; have hcz13_2 : wc.cell? ⟨gb317, 2, none⟩ = some (.string (⟨#[]⟩ : ByteArray)) := (blk_cell BK317.out 2).trans rfl; have hfz13_0 := blk_frozen BK317.out 0; have hfz13_1 := blk_frozen BK317.out 1; have hfz13_2 := blk_frozen BK317.out 2
       go_wp2_with (first | ((with_reducible refine gate_store (t := 23) (p := 2) rfl ?_); refine store_event (t := 23) (p := 2) (v := ?vo_w14) (w1 := (((wc.setCell ⟨gb317, 0, none⟩ (.int .i64 0)).setCell ⟨gb317, 1, none⟩ (.int .i64 0)).setCell ⟨gb317, 2, none⟩ (.string (⟨#[]⟩ : ByteArray)))) ?hg ?ho ?hn ?hr ?_; (case ho => rfl); (case hg => rfl); (case hn => rfl); (case hr => first | (go_simp; done) | (go_simp; rfl)); intro w14 hw; replace BK317 : Aside0 (w14.heap[gb317]? = some (.cells #[.int .i64 0, .int .i64 0, .string (⟨#[]⟩ : ByteArray)] 23 (0, 0))) := bp BK317 hw; replace HB := bv hw; clear hw))
       refine bodyPost_ret (results_cell_row rfl _ _ gb317 23 #[.int .i64 0, .int .i64 0, .string (⟨#[]⟩ : ByteArray)] (0, 0) _ rfl (by (with_reducible repeat (first | refine blk_drewN ?_ _ | refine blk_drew ?_ | refine blk_alloc ?_ _)); exact BK317.out) Tryd.underlying23 rfl (by kernel_rfl)) rfl ?_
       exact ⟨by first | (simp only [ByteArray.size_extract, Nat.min_self]; rfl) | rfl | (simp [errW_none, errW_some] <;> rfl) | (simp [*, errW_none, errW_some] <;> rfl), by repeat (first | (with_reducible first | exact HB.out | apply below_alloc | apply pw_below_drewN | apply below_drew1 | refine below_set ?_ GE317.out) | exact HB.out)⟩
      ·
       replace c12 := Bool.eq_false_iff.mpr c12
       subst c12
       have H1 : (if 0 < (a0.size : Int) then (if (bt a0 0) = 39 then (unisonref01_said.l1 kj9 a0 ([] : List Int) 1) else (unisonref01_said.l0 kj9 a0 0 0)) else (none)) = some (r1, r2, r3) := by rw [if_neg (show ¬ (false = true) by decide)] at H; exact H
       clear H; have H := H1; clear H1
       by_cases c15 : 0 < (a0.size : Int)
       ·
        rw [if_pos c15] at H
        have c15b0 : decide (0 < (a0.size : Int)) = true := decide_eq_true c15; have c15b1 : decide (0 < a0.size) = true := decide_eq_true (by omega); clear c15
        by_cases c17 : (bt a0 0) = 39
        ·
         rw [if_pos c17] at H
         have c17b0 : ((bt a0 0) == 39) = true := beq_iff_eq.mpr c17; have c17b1 : ((bt a0 0) != 39) = false := bne_eq_false_iff_eq.mpr c17; clear c17
         have H' := Aside0.mk H
         clear H; have p16 : 0 ≤ (0 : Int) := (by omega); have q16 : 0 < a0.size := (by have : (0 : Int) < (a0.size : Int) := of_decide_eq_true (by first | (with_reducible assumption) | assumption); omega); have hx16 : ∀ h : 0 < a0.size, ((a0[0]'h).toNat : Int) = bt a0 0 := bt_at a0 0; clear p16; have qi16 : (0 < (a0.size : Int)) = True := eq_true (of_decide_eq_true (by first | (with_reducible assumption) | assumption)); replace q16 := eq_true q16
         go_wp2
         go_loopg [5, 6] kj9 (fun kq v5 v6 w' => ∃ (x5_3 : List Int) (x6_3 : Int), v6 = .int .i64 x6_3 ∧ Aside0 (unisonref01_said.l1 kq a0 x5_3 x6_3 = some (r1, r2, r3)) ∧ Aside0 (kq ≤ kj9) ∧ Aside0 (Kd.R (Kd.int .u8) 5 w' w.heap.size (fun _ => True) v5 x5_3) ∧ Aside0 (w'.heap[gb317]? = some (.cells #[.int .i64 0, .int .i64 0, .string (⟨#[]⟩ : ByteArray)] 23 (0, 0))) ∧ Aside0 (Below w.heap.size w w'))
         case atStart => exact ⟨(([] : List Int)), (1), (by first | rfl | (simp; done) | (simp [*]; done)), H', ⟨Nat.le_refl _⟩, ⟨by first | exact Kd.R_nil _ _ _ _ _ | exact Kd.N_nil _ _ _ _ _ | exact Kd.V_nil _ _ _ _ _ | exact Kd.Q_nil _ _ _ _ _ | exact Kd.S_nil _ _ _ _ _⟩, ⟨by (with_reducible repeat (first | refine blk_drewN ?_ _ | refine blk_drew ?_ | refine blk_alloc ?_ _)); exact BK317.out⟩, ⟨by repeat (first | (with_reducible first | exact HB.out | apply below_alloc | apply pw_below_drewN | apply below_drew1 | refine below_set ?_ GE317.out) | exact HB.out)⟩⟩
         case round =>
          clear H'
          (try clear c1); (try clear p1); (try clear q1); (try clear hx1); (try clear qi1); (try clear p2); (try clear c4); (try clear c4b0); (try clear c4b1); (try clear c5); (try clear c6); (try clear c11); (try clear c11b0); (try clear c11b1); (try clear c12); (try clear c15); (try clear c15b0); (try clear c15b1); (try clear p16); (try clear q16); (try clear hx16); (try clear qi16); (try clear c17); (try clear c17b0); (try clear c17b1); (try clear hcz13_0); (try clear hcz13_1); (try clear hcz13_2); (try clear hcz8_0); (try clear hcz8_1); (try clear hcz8_2); (try clear hfz13_0); (try clear hfz13_1); (try clear hfz13_2); (try clear hfz8_0); (try clear hfz8_1); (try clear hfz8_2); (try clear p16); (try clear p2); (try clear q16)
          obtain ⟨x5_3, x6_3, rfl, HA, HK3, HO_5, BK317, HB⟩ := hrel
          cases gk with
          | zero => exact absurd HA.out (by simp [unisonref01_said.l1])
          | succ k3 =>
           have H := HA.out; clear HA
           simp only [unisonref01_said.l1] at H
           by_cases c18 : x6_3 < (wrap64 ((a0.size : Int) - 1))
           ·
            rw [if_pos c18] at H
            have c18b0 : decide (x6_3 < (wrap64 ((a0.size : Int) - 1))) = true := decide_eq_true c18; clear c18
            by_cases c19 : 0 ≤ x6_3
            ·
             rw [if_pos c19] at H
             have c19b0 : decide (0 ≤ x6_3) = true := decide_eq_true c19; clear c19
             by_cases c20 : x6_3 < (a0.size : Int)
             ·
              rw [if_pos c20] at H
              have c20b0 : decide (x6_3 < (a0.size : Int)) = true := decide_eq_true c20; clear c20
              by_cases c22 : (bt a0 x6_3) = 39
              ·
               rw [if_pos c22] at H
               have c22b0 : ((bt a0 x6_3) == 39) = true := beq_iff_eq.mpr c22; have c22b1 : ((bt a0 x6_3) != 39) = false := bne_eq_false_iff_eq.mpr c22; clear c22
               by_cases c23 : x5_3.length < 140737488355328
               ·
                rw [if_pos c23] at H
                have LMc23 := Aside0.mk c23; clear c23
                obtain ⟨y327, hy327⟩ : ∃ y_ : List Int, y_ = (x5_3 ++ [39]) := ⟨_, rfl⟩
                replace H : (unisonref01_said.l1 k3 a0 y327 (wrap64 ((wrap64 (x6_3 + 1)) + 1))) = some (r1, r2, r3) := by first | (rw [hy327]; with_reducible exact H) | (have H2_ := (Option.bind_some _ _).symm.trans H; rw [hy327]; with_reducible exact H2_) | (have H2_ := (Option.bind_some _ _).symm.trans H; with_reducible exact H2_) | with_reducible exact H | (rw [hy327]; exact H) | exact H
                have Ny327 := Aside0.mk hy327; clear hy327
                have H' := Aside0.mk H
                clear H; have p21 : 0 ≤ (x6_3 : Int) := of_decide_eq_true (by first | (with_reducible assumption) | assumption); have q21 : x6_3 < (a0.size : Int) := of_decide_eq_true (by first | (with_reducible assumption) | assumption); have hx21 := bt_at a0 x6_3; replace p21 := eq_true p21; replace q21 := eq_true q21
                go_wp2_with (first | ((with_reducible refine gate_builtin (b := .append) (xs := #[.tmp 73, .tmp 74]) rfl ?_); (try (refine gate_guard (by rfl) ?_; dsimp only)); at_builtin; refine Kd.R_append (Kd.int .u8) (w0 := w) w.heap.size rfl (.tmp 73) (.tmp 74) 64 5 (.int .u8 0) 1 rfl Tryd.underlying64 info5 rfl (by decide) (by omega) u5 x5_3 39 [.int .u8 39] (fun _ => True) (fun _ => False) rfl rfl ?aP (fun _ hk => hk.elim) ?aF ?aO ?aB ?aS ?aL ?_; (case aP => exact rfl); (case aB => exact bel); (case aF => exact (fun _ _ => trivial)); (case aO => exact (by (with_reducible repeat (first | apply Kd.R_alloc | apply Kd.R_drewN | apply Kd.R_drew)); exact HO_5.out)); (case aS => exact (below_size bel)); (case aL => have := LMc23.out; omega); intro v328 w24 ho hb hg hat; rw [← Ny327.out] at ho; have n0_ := Aside0.mk (blk_grown (g := gb317) (o := .cells #[.int .i64 0, .int .i64 0, .string (⟨#[]⟩ : ByteArray)] 23 (0, 0)) (by (with_reducible repeat (first | refine blk_drewN ?_ _ | refine blk_drew ?_ | refine blk_alloc ?_ _)); exact BK317.out) hg (Kd.R_ne HO_5.out BK317.out (by decide))); have n1_ := Aside0.mk (hb); have n2_ := Aside0.mk (ho); clear BK317; clear HB; clear HO_5; have BK317 := n0_; have HB := n1_; have HO329 := n2_; clear n0_ n1_ n2_; clear ho hb hg hat))
                go_roundg k3
                case measure => have := HJ1.out; have := HJ9.out; have := HK3.out; omega
                case rel => exact ⟨(y327), (wrap64 ((wrap64 (x6_3 + 1)) + 1)), (by first | rfl | (simp; done) | (simp [*]; done)), H', ⟨by have := HJ1.out; have := HJ9.out; have := HK3.out; omega⟩, ⟨by (with_reducible repeat (first | apply Kd.R_alloc | apply Kd.R_drewN | apply Kd.R_drew)); exact HO329.out⟩, ⟨by (with_reducible repeat (first | refine blk_drewN ?_ _ | refine blk_drew ?_ | refine blk_alloc ?_ _)); exact BK317.out⟩, ⟨by repeat (first | (with_reducible first | exact HB.out | apply below_alloc | apply pw_below_drewN | apply below_drew1 | refine below_set ?_ GE317.out) | exact HB.out)⟩⟩
               ·
                rw [if_neg c23] at H
                exact absurd H (by simp)
              ·
               rw [if_neg c22] at H
               have c22b0 : ((bt a0 x6_3) == 39) = false := beq_eq_false_iff_ne.mpr c22; have c22b1 : ((bt a0 x6_3) != 39) = true := bne_iff_ne.mpr c22; have HC25 := Aside0.mk H; clear H; have p21 : 0 ≤ (x6_3 : Int) := of_decide_eq_true (by first | (with_reducible assumption) | assumption); have q21 : x6_3 < (a0.size : Int) := of_decide_eq_true (by first | (with_reducible assumption) | assumption); have hx21 := bt_at a0 x6_3; replace p21 := eq_true p21; replace q21 := eq_true q21
               go_upto_region 23 with (fail)
               go_cut [78] (fun v78 wc => ∃ (kq : Nat) (x78_24 : Bool), v78 = .bool x78_24 ∧ Aside0 (unisonref01_said.j5 kq a0 x5_3 x6_3 x78_24 = some (r1, r2, r3)) ∧ Aside0 (kq ≤ k3) ∧ Aside0 (Kd.R (Kd.int .u8) 5 wc w.heap.size (fun _ => True) u5 x5_3) ∧ Aside0 (wc.heap[gb317]? = some (.cells #[.int .i64 0, .int .i64 0, .string (⟨#[]⟩ : ByteArray)] 23 (0, 0))) ∧ Aside0 (Below w.heap.size w wc))
               case first =>
                have H := HC25.out; clear HC25
                by_cases c27 : (bt a0 x6_3) = 92
                ·
                 rw [if_pos c27] at H
                 have c27b0 : ((bt a0 x6_3) == 92) = true := beq_iff_eq.mpr c27; have c27b1 : ((bt a0 x6_3) != 92) = false := bne_eq_false_iff_eq.mpr c27; clear c27
                 (first | rw [c27b0] | (simp only [i64_w, i32_w, u8_w, u32_w]; rw [c27b0]) | rw [c27b1] | skip)
                 have H' := Aside0.mk H
                 clear H; have p26 : 0 ≤ (x6_3 : Int) := of_decide_eq_true (by first | (with_reducible assumption) | assumption); have q26 : x6_3 < (a0.size : Int) := of_decide_eq_true (by first | (with_reducible assumption) | assumption); have hx26 := bt_at a0 x6_3; replace p26 := eq_true p26; replace q26 := eq_true q26
                 go_wp2
                 go_meet
                 case rel => exact ⟨_, (decide ((wrap64 (x6_3 + 2)) < (a0.size : Int))), (by first | rfl | (simp; done) | (simp [*]; done)), H', ⟨by have := HJ1.out; have := HJ9.out; have := HK3.out; first | omega | exact Nat.le_refl _⟩, ⟨by (with_reducible repeat (first | apply Kd.R_alloc | apply Kd.R_drewN | apply Kd.R_drew)); exact HO_5.out⟩, ⟨by (with_reducible repeat (first | refine blk_drewN ?_ _ | refine blk_drew ?_ | refine blk_alloc ?_ _)); exact BK317.out⟩, ⟨by repeat (first | (with_reducible first | exact HB.out | apply below_alloc | apply pw_below_drewN | apply below_drew1 | refine below_set ?_ GE317.out) | exact HB.out)⟩⟩
                ·
                 rw [if_neg c27] at H
                 have c27b0 : ((bt a0 x6_3) == 92) = false := beq_eq_false_iff_ne.mpr c27; have c27b1 : ((bt a0 x6_3) != 92) = true := bne_iff_ne.mpr c27
                 (first | rw [c27b0] | (simp only [i64_w, i32_w, u8_w, u32_w]; rw [c27b0]) | rw [c27b1] | skip)
                 have H' := Aside0.mk H
                 clear H; have p26 : 0 ≤ (x6_3 : Int) := of_decide_eq_true (by first | (with_reducible assumption) | assumption); have q26 : x6_3 < (a0.size : Int) := of_decide_eq_true (by first | (with_reducible assumption) | assumption); have hx26 := bt_at a0 x6_3; replace p26 := eq_true p26; replace q26 := eq_true q26
                 go_wp2
                 go_meet
                 case rel => exact ⟨_, (false), (by first | rfl | (simp; done) | (simp [*]; done)), H', ⟨by have := HJ1.out; have := HJ9.out; have := HK3.out; first | omega | exact Nat.le_refl _⟩, ⟨by (with_reducible repeat (first | apply Kd.R_alloc | apply Kd.R_drewN | apply Kd.R_drew)); exact HO_5.out⟩, ⟨by (with_reducible repeat (first | refine blk_drewN ?_ _ | refine blk_drew ?_ | refine blk_alloc ?_ _)); exact BK317.out⟩, ⟨by repeat (first | (with_reducible first | exact HB.out | apply below_alloc | apply pw_below_drewN | apply below_drew1 | refine below_set ?_ GE317.out) | exact HB.out)⟩⟩
               case rest =>
                clear HC25; (try clear c1); (try clear p1); (try clear q1); (try clear hx1); (try clear qi1); (try clear c2); (try clear p2); (try clear q2); (try clear hx2); (try clear c4); (try clear c4b0); (try clear c4b1); (try clear c5); (try clear c6); (try clear p6); (try clear c11); (try clear c11b0); (try clear c11b1); (try clear c12); (try clear c15); (try clear c15b0); (try clear c15b1); (try clear p16); (try clear q16); (try clear hx16); (try clear qi16); (try clear c17); (try clear c17b0); (try clear c17b1); (try clear c18); (try clear c18b0); (try clear c19); (try clear c19b0); (try clear c20); (try clear c20b0); (try clear p21); (try clear q21); (try clear hx21); (try clear c22); (try clear c22b0); (try clear c22b1); (try clear c23); (try clear p26); (try clear q26); (try clear hx26); (try clear c27); (try clear c27b0); (try clear c27b1); (try clear hcz13_0); (try clear hcz13_1); (try clear hcz13_2); (try clear hcz8_0); (try clear hcz8_1); (try clear hcz8_2); (try clear hfz13_0); (try clear hfz13_1); (try clear hfz13_2); (try clear hfz8_0); (try clear hfz8_1); (try clear hfz8_2); (try clear p1); (try clear p16); (try clear p2); (try clear p21); (try clear p26); (try clear q1); (try clear q16); (try clear q21); (try clear q26)
                obtain ⟨kq, x78_24, rfl, HA, HJ24, HO_5, BK317, HB⟩ := hcut
                cases kq with
                | zero => exact absurd HA.out (by simp [unisonref01_said.j5])
                | succ kj24 =>
                 have H := HA.out; clear HA
                 simp only [unisonref01_said.j5] at H
                 by_cases c28 : x78_24 = true
                 ·
                  subst c28
                  have H1 : (if 0 ≤ (wrap64 (x6_3 + 1)) then (if (wrap64 (x6_3 + 1)) < (a0.size : Int) then ((unisonref01_place.f kj24 (bt a0 (wrap64 (x6_3 + 1)))).bind fun t330 => (if 0 ≤ (wrap64 (x6_3 + 2)) then (if (wrap64 (x6_3 + 2)) < (a0.size : Int) then ((unisonref01_place.f kj24 (bt a0 (wrap64 (x6_3 + 2)))).bind fun t331 => (if x5_3.length < 140737488355328 then (unisonref01_said.l1 kj24 a0 (x5_3 ++ [(wrap64 ((wrap64 (16 * t330)) + t331)) % 256]) (wrap64 ((wrap64 (x6_3 + 2)) + 1))) else (none))) else (none)) else (none))) else (none)) else (none)) = some (r1, r2, r3) := by (first | rw [if_pos rfl] at H | rw [if_pos True.intro] at H | skip); exact H
                  clear H; have H := H1; clear H1
                  obtain ⟨ji29, hji29⟩ : ∃ j_ : Int, (wrap64 (x6_3 + 1)) = j_ := ⟨_, rfl⟩
                  replace H : (if 0 ≤ (ji29) then (if (ji29) < (a0.size : Int) then ((unisonref01_place.f kj24 (bt a0 (ji29))).bind fun t330 => (if 0 ≤ (wrap64 (x6_3 + 2)) then (if (wrap64 (x6_3 + 2)) < (a0.size : Int) then ((unisonref01_place.f kj24 (bt a0 (wrap64 (x6_3 + 2)))).bind fun t331 => (if x5_3.length < 140737488355328 then (unisonref01_said.l1 kj24 a0 (x5_3 ++ [(wrap64 ((wrap64 (16 * t330)) + t331)) % 256]) (wrap64 ((wrap64 (x6_3 + 2)) + 1))) else (none))) else (none)) else (none))) else (none)) else (none)) = some (r1, r2, r3) := by first | (rw [hji29] at H; exact H) | (simp only [hji29] at H ⊢; exact H)
                  have hji29w : (IntKind.i64.wrap (x6_3 + 1)) = ji29 := (i64_w _).trans hji29
                  by_cases c30 : 0 ≤ (ji29)
                  ·
                   rw [if_pos c30] at H
                   have c30b0 : decide (0 ≤ (ji29)) = true := decide_eq_true c30; clear c30
                   by_cases c31 : (ji29) < (a0.size : Int)
                   ·
                    rw [if_pos c31] at H
                    have c31b0 : decide ((ji29) < (a0.size : Int)) = true := decide_eq_true c31; clear c31; replace H := Option.bind_eq_some_iff.mp H
                    obtain ⟨t330, A330, H⟩ := H
                    replace H : (if 0 ≤ (wrap64 (x6_3 + 2)) then (if (wrap64 (x6_3 + 2)) < (a0.size : Int) then ((unisonref01_place.f kj24 (bt a0 (wrap64 (x6_3 + 2)))).bind fun t331 => (if x5_3.length < 140737488355328 then (unisonref01_said.l1 kj24 a0 (x5_3 ++ [(wrap64 ((wrap64 (16 * t330)) + t331)) % 256]) (wrap64 ((wrap64 (x6_3 + 2)) + 1))) else (none))) else (none)) else (none)) = some (r1, r2, r3) := H; have A33 := Aside0.mk A330; clear A330
                    obtain ⟨ji34, hji34⟩ : ∃ j_ : Int, (wrap64 (x6_3 + 2)) = j_ := ⟨_, rfl⟩
                    replace H : (if 0 ≤ (ji34) then (if (ji34) < (a0.size : Int) then ((unisonref01_place.f kj24 (bt a0 (ji34))).bind fun t331 => (if x5_3.length < 140737488355328 then (unisonref01_said.l1 kj24 a0 (x5_3 ++ [(wrap64 ((wrap64 (16 * t330)) + t331)) % 256]) (wrap64 ((ji34) + 1))) else (none))) else (none)) else (none)) = some (r1, r2, r3) := by first | (rw [hji34] at H; exact H) | (simp only [hji34] at H ⊢; exact H)
                    (try rw [hji34] at A33)
                    have hji34w : (IntKind.i64.wrap (x6_3 + 2)) = ji34 := (i64_w _).trans hji34
                    by_cases c35 : 0 ≤ (ji34)
                    ·
                     rw [if_pos c35] at H
                     have c35b0 : decide (0 ≤ (ji34)) = true := decide_eq_true c35; clear c35
                     by_cases c36 : (ji34) < (a0.size : Int)
                     ·
                      rw [if_pos c36] at H
                      have c36b0 : decide ((ji34) < (a0.size : Int)) = true := decide_eq_true c36; clear c36; replace H := Option.bind_eq_some_iff.mp H
                      obtain ⟨t331, A380, H⟩ := H
                      replace H : (if x5_3.length < 140737488355328 then (unisonref01_said.l1 kj24 a0 (x5_3 ++ [(wrap64 ((wrap64 (16 * t330)) + t331)) % 256]) (wrap64 ((ji34) + 1))) else (none)) = some (r1, r2, r3) := H; have A38 := Aside0.mk A380; clear A380
                      by_cases c39 : x5_3.length < 140737488355328
                      ·
                       rw [if_pos c39] at H
                       have LMc39 := Aside0.mk c39; clear c39
                       obtain ⟨y332, hy332⟩ : ∃ y_ : List Int, y_ = (x5_3 ++ [(wrap64 ((wrap64 (16 * t330)) + t331)) % 256]) := ⟨_, rfl⟩
                       replace H : (unisonref01_said.l1 kj24 a0 y332 (wrap64 ((ji34) + 1))) = some (r1, r2, r3) := by first | (rw [hy332]; with_reducible exact H) | (have H2_ := (Option.bind_some _ _).symm.trans H; rw [hy332]; with_reducible exact H2_) | (have H2_ := (Option.bind_some _ _).symm.trans H; with_reducible exact H2_) | with_reducible exact H | (rw [hy332]; exact H) | exact H
                       have Ny332 := Aside0.mk hy332; clear hy332
                       have H' := Aside0.mk H
                       clear H
                       try go_wp2
                       replace HO_5 := Aside0.mk (Kd.R_drew HO_5.out); replace BK317 := Aside0.mk (blk_drew BK317.out); replace HB := Aside0.mk (below_drew1 HB.out); have p32 : 0 ≤ ((ji29) : Int) := of_decide_eq_true (by first | (with_reducible assumption) | assumption); have q32 : (ji29) < (a0.size : Int) := of_decide_eq_true (by first | (with_reducible assumption) | assumption); have hx32 := bt_at a0 (ji29); replace p32 := eq_true p32; replace q32 := eq_true q32; have p37 : 0 ≤ ((ji34) : Int) := of_decide_eq_true (by first | (with_reducible assumption) | assumption); have q37 : (ji34) < (a0.size : Int) := of_decide_eq_true (by first | (with_reducible assumption) | assumption); have hx37 := bt_at a0 (ji34); replace p37 := eq_true p37; replace q37 := eq_true q37
                       refine start_ (n := 17) (S := fun w' => True) (ds := []) #[false, false, false, false, false, false, false, false, false, false, false, false, false, false, false, false, false] (by kernel_rfl) rfl rfl trivial (fun hHeld => ?_); refine with_tabW unisonref01_said.tab24 unisonref01_said.bits24 (fun HT_ HW_ => ?_)
                       generalize wc.drew = w40 at HO_5 BK317 HB hHeld ⊢
                       refine pure_ (i := 0) (N := some 90) (v := ?_) (a' := ?_) #[true, false, false, false, false, false, false, false, false, false, false, false, false, false, false, false, false] rfl rfl (any_of HT_.out (by kernel_rfl)) (fun _ _ _ h => h) (Or.inl ⟨by rfl, ?_⟩) ?_ ?_
                       rotate_left; focus (intro w'; go_simp; with_reducible rfl; done)
                       rotate_left; focus (simp only [Act.put, List.setIfInBounds_toArray, List.set_cons_zero, List.set_cons_succ, i64_w, i32_w, u8_w, u32_w]; rfl; done)
                       refine pure_ (i := 1) (N := some 91) (v := ?_) (a' := ?_) #[true, true, false, false, false, false, false, false, false, false, false, false, false, false, false, false, false] rfl rfl (any_of HT_.out (by kernel_rfl)) (fun _ _ _ h => h) (Or.inl ⟨by rfl, ?_⟩) ?_ ?_
                       rotate_left; focus (intro w'; go_simp; with_reducible rfl; done)
                       rotate_left; focus (simp only [Act.put, List.setIfInBounds_toArray, List.set_cons_zero, List.set_cons_succ, i64_w, i32_w, u8_w, u32_w]; rfl; done)
                       refine pure_ (i := 2) (N := some 92) (v := ?_) (a' := ?_) #[true, true, true, false, false, false, false, false, false, false, false, false, false, false, false, false, false] rfl rfl (any_of HT_.out (by kernel_rfl)) (fun _ _ _ h => h) (Or.inl ⟨by rfl, ?_⟩) ?_ ?_
                       rotate_left; focus (intro w'; go_simp; with_reducible rfl; done)
                       rotate_left; focus (simp only [Act.put, List.setIfInBounds_toArray, List.set_cons_zero, List.set_cons_succ, i64_w, i32_w, u8_w, u32_w]; rfl; done)
                       refine pure_ (i := 3) (N := some 93) (v := ?_) (a' := ?_) #[true, true, true, true, false, false, false, false, false, false, false, false, false, false, false, false, false] rfl rfl (any_of HT_.out (by kernel_rfl)) (fun _ _ _ h => h) (Or.inl ⟨by rfl, ?_⟩) ?_ ?_
                       rotate_left; focus (intro w'; go_simp; with_reducible rfl; done)
                       rotate_left; focus (simp only [Act.put, List.setIfInBounds_toArray, List.set_cons_zero, List.set_cons_succ, i64_w, i32_w, u8_w, u32_w]; rfl; done)
                       refine pure_ (i := 7) (N := some 97) (v := ?_) (a' := ?_) #[true, true, true, true, false, false, false, true, false, false, false, false, false, false, false, false, false] rfl rfl (any_of HT_.out (by kernel_rfl)) (fun _ _ _ h => h) (Or.inl ⟨by rfl, ?_⟩) ?_ ?_
                       rotate_left; focus (intro w'; go_simp; with_reducible rfl; done)
                       rotate_left; focus (simp only [Act.put, List.setIfInBounds_toArray, List.set_cons_zero, List.set_cons_succ, i64_w, i32_w, u8_w, u32_w]; rfl; done)
                       refine pure_ (i := 8) (N := some 98) (v := ?_) (a' := ?_) #[true, true, true, true, false, false, false, true, true, false, false, false, false, false, false, false, false] rfl rfl (any_of HT_.out (by kernel_rfl)) (fun _ _ _ h => h) (Or.inl ⟨by rfl, ?_⟩) ?_ ?_
                       rotate_left; focus (intro w'; go_simp; with_reducible rfl; done)
                       rotate_left; focus (simp only [Act.put, List.setIfInBounds_toArray, List.set_cons_zero, List.set_cons_succ, i64_w, i32_w, u8_w, u32_w]; rfl; done)
                       refine pure_ (i := 9) (N := some 99) (v := ?_) (a' := ?_) #[true, true, true, true, false, false, false, true, true, true, false, false, false, false, false, false, false] rfl rfl (any_of HT_.out (by kernel_rfl)) (fun _ _ _ h => h) (Or.inl ⟨by rfl, ?_⟩) ?_ ?_
                       rotate_left; focus (intro w'; go_simp; with_reducible rfl; done)
                       rotate_left; focus (simp only [Act.put, List.setIfInBounds_toArray, List.set_cons_zero, List.set_cons_succ, i64_w, i32_w, u8_w, u32_w]; rfl; done)
                       refine take_ (i := 4) (N := some 94) (v := ?_) (a' := ?_) #[true, true, true, true, true, false, false, true, true, true, false, false, false, false, false, false, false] rfl rfl (take_ofW HT_.out HW_.out (by kernel_rfl)) (fun _ _ _ h => h) (Or.inl ⟨by rfl, ?_⟩) hHeld ?_ ?_
                       rotate_left; focus (intro w' _; go_simp; with_reducible rfl; done)
                       rotate_left; focus (simp only [Act.put, List.setIfInBounds_toArray, List.set_cons_zero, List.set_cons_succ, i64_w, i32_w, u8_w, u32_w]; rfl; done)
                       refine take_ (i := 10) (N := some 100) (v := ?_) (a' := ?_) #[true, true, true, true, true, false, false, true, true, true, true, false, false, false, false, false, false] rfl rfl (take_ofW HT_.out HW_.out (by kernel_rfl)) (fun _ _ _ h => h) (Or.inl ⟨by rfl, ?_⟩) hHeld ?_ ?_
                       rotate_left; focus (intro w' _; go_simp; with_reducible rfl; done)
                       rotate_left; focus (simp only [Act.put, List.setIfInBounds_toArray, List.set_cons_zero, List.set_cons_succ, i64_w, i32_w, u8_w, u32_w]; rfl; done)
                       refine one_ (i := 5) (N := some 95) #[true, true, true, true, true, true, false, true, true, true, true, false, false, false, false, false, false] rfl rfl (one_of HT_.out (by kernel_rfl)) (by decide) (fun K hK => ?_)
                       refine goes_ Tryd.func75 (by kernel_rfl) rfl #[.int .u8 (bt a0 (ji29))] (by rfl) rfl rfl (by (try simp only [List.map_toArray, List.map_cons, List.map_nil]); first | done | (simp only [hji29]; rfl) | rfl | (simp only [List.length_drop, List.length_take]; rfl)) ?_
                       with_reducible refine (unisonref01_place.calls kj24 (bt a0 (ji29)) t330 _ A33.out).mono ?_
                       rintro e w' ⟨rfl, ⟨nd, rfl⟩⟩
                       refine ⟨_, rfl, ?_⟩
                       refine hK.out _ _ trivial (fun hHeld => ?_)
                       clear hK K
                       refine norm_ (a' := ?_) ?_ ?_
                       rotate_left; focus (show Act.put _ (some 95) _ = _; simp only [Act.put, List.setIfInBounds_toArray, List.set_cons_zero, List.set_cons_succ, i64_w, i32_w, u8_w, u32_w]; rfl; done)
                       refine pure_ (i := 6) (N := some 96) (v := ?_) (a' := ?_) #[true, true, true, true, true, true, true, true, true, true, true, false, false, false, false, false, false] rfl rfl (any_of HT_.out (by kernel_rfl)) (fun _ _ _ h => h) (Or.inl ⟨by rfl, ?_⟩) ?_ ?_
                       rotate_left; focus (intro w'; go_simp; with_reducible rfl; done)
                       rotate_left; focus (simp only [Act.put, List.setIfInBounds_toArray, List.set_cons_zero, List.set_cons_succ, i64_w, i32_w, u8_w, u32_w]; rfl; done)
                       refine one_ (i := 11) (N := some 101) #[true, true, true, true, true, true, true, true, true, true, true, true, false, false, false, false, false] rfl rfl (one_of HT_.out (by kernel_rfl)) (by decide) (fun K hK => ?_)
                       refine goes_ Tryd.func75 (by kernel_rfl) rfl #[.int .u8 (bt a0 (ji34))] (by rfl) rfl rfl (by (try simp only [List.map_toArray, List.map_cons, List.map_nil]); first | done | (simp only [hji34]; rfl) | rfl | (simp only [List.length_drop, List.length_take]; rfl)) ?_
                       with_reducible refine (unisonref01_place.calls kj24 (bt a0 (ji34)) t331 _ A38.out).mono ?_
                       rintro e w' ⟨rfl, ⟨nd, rfl⟩⟩
                       refine ⟨_, rfl, ?_⟩
                       refine hK.out _ _ trivial (fun hHeld => ?_)
                       clear hK K
                       refine norm_ (a' := ?_) ?_ ?_
                       rotate_left; focus (show Act.put _ (some 101) _ = _; simp only [Act.put, List.setIfInBounds_toArray, List.set_cons_zero, List.set_cons_succ, i64_w, i32_w, u8_w, u32_w]; rfl; done)
                       refine pure_ (i := 12) (N := some 102) (v := ?_) (a' := ?_) #[true, true, true, true, true, true, true, true, true, true, true, true, true, false, false, false, false] rfl rfl (any_of HT_.out (by kernel_rfl)) (fun _ _ _ h => h) (Or.inl ⟨by rfl, ?_⟩) ?_ ?_
                       rotate_left; focus (intro w'; go_simp; with_reducible rfl; done)
                       rotate_left; focus (simp only [Act.put, List.setIfInBounds_toArray, List.set_cons_zero, List.set_cons_succ, i64_w, i32_w, u8_w, u32_w]; rfl; done)
                       refine pure_ (i := 13) (N := some 103) (v := ?_) (a' := ?_) #[true, true, true, true, true, true, true, true, true, true, true, true, true, true, false, false, false] rfl rfl (any_of HT_.out (by kernel_rfl)) (fun _ _ _ h => h) (Or.inl ⟨by rfl, ?_⟩) ?_ ?_
                       rotate_left; focus (intro w'; go_simp; with_reducible rfl; done)
                       rotate_left; focus (simp only [Act.put, List.setIfInBounds_toArray, List.set_cons_zero, List.set_cons_succ, i64_w, i32_w, u8_w, u32_w]; rfl; done)
                       refine one_ (i := 14) (N := some 104) #[true, true, true, true, true, true, true, true, true, true, true, true, true, true, true, false, false] rfl rfl (one_of HT_.out (by kernel_rfl)) (by decide) (fun K hK => ?_)
                       refine value_ (w1 := ?_) (v := ?_) (by rfl) rfl ?_ ?_
                       rotate_left 2
                       ·
                        go_simp
                        constructor
                        ·
                         rfl
                        ·
                         rfl
                       refine hK.out _ _ trivial (fun hHeld => ?_)
                       clear hK K
                       refine norm_ (a' := ?_) ?_ ?_
                       rotate_left; focus (show Act.put _ (some 104) _ = _; simp only [Act.put, List.setIfInBounds_toArray, List.set_cons_zero, List.set_cons_succ, i64_w, i32_w, u8_w, u32_w]; rfl; done)
                       refine one_ (i := 15) (N := some 105) #[true, true, true, true, true, true, true, true, true, true, true, true, true, true, true, true, false] rfl rfl (one_of HT_.out (by kernel_rfl)) (by decide) (fun K hK => ?_)
                       refine Kd.R_append_step (Kd.int .u8) (w0 := w) w.heap.size (by rfl) (.tmp 90) (.tmp 104) 64 5 (.int .u8 0) 1 rfl Tryd.underlying64 info5 rfl (by decide) (by omega) u5 x5_3 ((wrap64 ((wrap64 (16 * t330)) + t331)) % 256) [.int .u8 ((wrap64 ((wrap64 (16 * t330)) + t331)) % 256)] (fun _ => True) (fun _ => False) rfl rfl ?aP (fun _ hk => hk.elim) ?aF ?aO ?aB ?aS ?aL ?_
                       (case aP => exact rfl)
                       (case aB => exact bel)
                       (case aF => exact (fun _ _ => trivial))
                       (case aO => exact (by (with_reducible repeat (first | apply Kd.R_alloc | apply Kd.R_drewN | apply Kd.R_drew)); exact HO_5.out))
                       (case aS => exact (below_size bel))
                       (case aL => have := LMc39.out; omega)
                       intro v333 w41 ho hb hg hat
                       rw [← Ny332.out] at ho
                       have n0_ := Aside0.mk (blk_grown (g := gb317) (o := .cells #[.int .i64 0, .int .i64 0, .string (⟨#[]⟩ : ByteArray)] 23 (0, 0)) (by (with_reducible repeat (first | refine blk_drewN ?_ _ | refine blk_drew ?_ | refine blk_alloc ?_ _)); exact BK317.out) hg (Kd.R_ne HO_5.out BK317.out (by decide))); have n1_ := Aside0.mk (hb); have n2_ := Aside0.mk (ho); clear BK317; clear HB; clear HO_5; have BK317 := n0_; have HB := n1_; have HO334 := n2_; clear n0_ n1_ n2_; clear ho hb hg hat
                       refine hK.out _ _ trivial (fun hHeld => ?_)
                       clear hK K
                       refine norm_ (a' := ?_) ?_ ?_
                       rotate_left; focus (show Act.put _ (some 105) _ = _; simp only [Act.put, List.setIfInBounds_toArray, List.set_cons_zero, List.set_cons_succ, i64_w, i32_w, u8_w, u32_w]; rfl; done)
                       refine pure_ (i := 16) (N := some 5) (v := ?_) (a' := ?_) #[true, true, true, true, true, true, true, true, true, true, true, true, true, true, true, true, true] rfl rfl (any_of HT_.out (by kernel_rfl)) (fun _ _ _ h => h) (Or.inl ⟨by rfl, ?_⟩) ?_ ?_
                       rotate_left; focus (intro w'; go_simp; with_reducible rfl; done)
                       rotate_left; focus (simp only [Act.put, List.setIfInBounds_toArray, List.set_cons_zero, List.set_cons_succ, i64_w, i32_w, u8_w, u32_w]; rfl; done)
                       refine done_ (done_of HT_.out (by kernel_rfl)) ?_
                       try go_wp2
                       go_roundg kj24
                       case measure => have := HJ1.out; have := HJ9.out; have := HK3.out; have := HJ24.out; omega
                       case rel => exact ⟨(y332), (wrap64 ((ji34) + 1)), (by first | rfl | (simp; done) | (simp only [← hji34] <;> (first | rfl | simp)) | (simp [*]; done)), H', ⟨by have := HJ1.out; have := HJ9.out; have := HK3.out; have := HJ24.out; omega⟩, ⟨by (with_reducible repeat (first | apply Kd.R_alloc | apply Kd.R_drewN | apply Kd.R_drew)); exact HO334.out⟩, ⟨by (with_reducible repeat (first | refine blk_drewN ?_ _ | refine blk_drew ?_ | refine blk_alloc ?_ _)); exact BK317.out⟩, ⟨by repeat (first | (with_reducible first | exact HB.out | apply below_alloc | apply pw_below_drewN | apply below_drew1 | refine below_set ?_ GE317.out) | exact HB.out)⟩⟩
                      ·
                       rw [if_neg c39] at H
                       exact absurd H (by simp)
                     ·
                      rw [if_neg c36] at H
                      exact absurd H (by simp)
                    ·
                     rw [if_neg c35] at H
                     exact absurd H (by simp)
                   ·
                    rw [if_neg c31] at H
                    exact absurd H (by simp)
                  ·
                   rw [if_neg c30] at H
                   exact absurd H (by simp)
                 ·
                  replace c28 := Bool.eq_false_iff.mpr c28
                  subst c28
                  have H1 : (if 0 ≤ x6_3 then (if x6_3 < (a0.size : Int) then (if x5_3.length < 140737488355328 then (unisonref01_said.l1 kj24 a0 (x5_3 ++ [bt a0 x6_3]) (wrap64 (x6_3 + 1))) else (none)) else (none)) else (none)) = some (r1, r2, r3) := by rw [if_neg (show ¬ (false = true) by decide)] at H; exact H
                  clear H; have H := H1; clear H1
                  by_cases c42 : 0 ≤ x6_3
                  ·
                   rw [if_pos c42] at H
                   have c42b0 : decide (0 ≤ x6_3) = true := decide_eq_true c42; clear c42
                   by_cases c43 : x6_3 < (a0.size : Int)
                   ·
                    rw [if_pos c43] at H
                    have c43b0 : decide (x6_3 < (a0.size : Int)) = true := decide_eq_true c43; clear c43
                    by_cases c45 : x5_3.length < 140737488355328
                    ·
                     rw [if_pos c45] at H
                     have LMc45 := Aside0.mk c45; clear c45
                     obtain ⟨y335, hy335⟩ : ∃ y_ : List Int, y_ = (x5_3 ++ [bt a0 x6_3]) := ⟨_, rfl⟩
                     replace H : (unisonref01_said.l1 kj24 a0 y335 (wrap64 (x6_3 + 1))) = some (r1, r2, r3) := by first | (rw [hy335]; with_reducible exact H) | (have H2_ := (Option.bind_some _ _).symm.trans H; rw [hy335]; with_reducible exact H2_) | (have H2_ := (Option.bind_some _ _).symm.trans H; with_reducible exact H2_) | with_reducible exact H | (rw [hy335]; exact H) | exact H
                     have Ny335 := Aside0.mk hy335; clear hy335
                     have H' := Aside0.mk H
                     clear H; have p44 : 0 ≤ (x6_3 : Int) := of_decide_eq_true (by first | (with_reducible assumption) | assumption); have q44 : x6_3 < (a0.size : Int) := of_decide_eq_true (by first | (with_reducible assumption) | assumption); have hx44 := bt_at a0 x6_3; replace p44 := eq_true p44; replace q44 := eq_true q44
                     go_wp2_with (first | ((with_reducible refine gate_builtin (b := .append) (xs := #[.tmp 62, .tmp 66]) rfl ?_); (try (refine gate_guard (by rfl) ?_; dsimp only)); at_builtin; refine Kd.R_append (Kd.int .u8) (w0 := w) w.heap.size rfl (.tmp 62) (.tmp 66) 64 5 (.int .u8 0) 1 rfl Tryd.underlying64 info5 rfl (by decide) (by omega) u5 x5_3 (bt a0 x6_3) [.int .u8 (bt a0 x6_3)] (fun _ => True) (fun _ => False) rfl rfl ?aP (fun _ hk => hk.elim) ?aF ?aO ?aB ?aS ?aL ?_; (case aP => exact rfl); (case aB => exact bel); (case aF => exact (fun _ _ => trivial)); (case aO => exact (by (with_reducible repeat (first | apply Kd.R_alloc | apply Kd.R_drewN | apply Kd.R_drew)); exact HO_5.out)); (case aS => exact (below_size bel)); (case aL => have := LMc45.out; omega); intro v336 w46 ho hb hg hat; rw [← Ny335.out] at ho; have n0_ := Aside0.mk (blk_grown (g := gb317) (o := .cells #[.int .i64 0, .int .i64 0, .string (⟨#[]⟩ : ByteArray)] 23 (0, 0)) (by (with_reducible repeat (first | refine blk_drewN ?_ _ | refine blk_drew ?_ | refine blk_alloc ?_ _)); exact BK317.out) hg (Kd.R_ne HO_5.out BK317.out (by decide))); have n1_ := Aside0.mk (hb); have n2_ := Aside0.mk (ho); clear BK317; clear HB; clear HO_5; have BK317 := n0_; have HB := n1_; have HO337 := n2_; clear n0_ n1_ n2_; clear ho hb hg hat))
                     go_roundg kj24
                     case measure => have := HJ1.out; have := HJ9.out; have := HK3.out; have := HJ24.out; omega
                     case rel => exact ⟨(y335), (wrap64 (x6_3 + 1)), (by first | rfl | (simp; done) | (simp [*]; done)), H', ⟨by have := HJ1.out; have := HJ9.out; have := HK3.out; have := HJ24.out; omega⟩, ⟨by (with_reducible repeat (first | apply Kd.R_alloc | apply Kd.R_drewN | apply Kd.R_drew)); exact HO337.out⟩, ⟨by (with_reducible repeat (first | refine blk_drewN ?_ _ | refine blk_drew ?_ | refine blk_alloc ?_ _)); exact BK317.out⟩, ⟨by repeat (first | (with_reducible first | exact HB.out | apply below_alloc | apply pw_below_drewN | apply below_drew1 | refine below_set ?_ GE317.out) | exact HB.out)⟩⟩
                    ·
                     rw [if_neg c45] at H
                     exact absurd H (by simp)
                   ·
                    rw [if_neg c43] at H
                    exact absurd H (by simp)
                  ·
                   rw [if_neg c42] at H
                   exact absurd H (by simp)
             ·
              rw [if_neg c20] at H
              exact absurd H (by simp)
            ·
             rw [if_neg c19] at H
             exact absurd H (by simp)
           ·
            rw [if_neg c18] at H
            have c18b0 : decide (x6_3 < (wrap64 ((a0.size : Int) - 1))) = false := decide_eq_false c18; clear c18
            simp only [Option.some.injEq, Prod.mk.injEq] at H
            obtain ⟨rfl, rfl, rfl⟩ := H
            have hcv47 := own_string (P := Tryd.prog) Tryd.underlying64 Tryd.underlying5 Tryd.underlying9 (Kd.own_of_R HO_5.out); have hcz48_0 : wr.cell? ⟨gb317, 0, none⟩ = some (.int .i64 0) := (blk_cell BK317.out 0).trans rfl; have hcz48_1 : wr.cell? ⟨gb317, 1, none⟩ = some (.int .i64 0) := (blk_cell BK317.out 1).trans rfl; have hcz48_2 : wr.cell? ⟨gb317, 2, none⟩ = some (.string (⟨#[]⟩ : ByteArray)) := (blk_cell BK317.out 2).trans rfl; have hfz48_0 := blk_frozen BK317.out 0; have hfz48_1 := blk_frozen BK317.out 1; have hfz48_2 := blk_frozen BK317.out 2
            go_wp2_with (first | ((with_reducible refine gate_store (t := 23) (p := 2) rfl ?_); refine store_event (t := 23) (p := 2) (v := ?vo_w49) (w1 := (((wr.setCell ⟨gb317, 0, none⟩ (.int .i64 3)).setCell ⟨gb317, 1, none⟩ (.int .i64 0)).setCell ⟨gb317, 2, none⟩ (.string (strOfNums x5_3)))) ?hg ?ho ?hn ?hr ?_; (case ho => rfl); (case hg => rfl); (case hn => rfl); (case hr => first | (go_simp; done) | (go_simp; rfl)); intro w49 hw; replace HO_5 : Aside0 (Kd.R (Kd.int .u8) 5 w49 w.heap.size (fun _ => True) u5 x5_3) := ⟨(by rw [hw]; exact (by (with_reducible repeat (first | apply Kd.R_alloc | apply Kd.R_drewN | apply Kd.R_drew)); exact Kd.R_mono (Kd.R_far (p := ⟨gb317, 2, none⟩) (Kd.R_far (p := ⟨gb317, 1, none⟩) (Kd.R_far (p := ⟨gb317, 0, none⟩) (Kd.R_types HO_5.out BK317.out (by decide)) (fun _ hk => hk.2) (.int .i64 3)) (fun _ hk => hk.2) (.int .i64 0)) (fun _ hk => hk.2) (.string (strOfNums x5_3))) (fun _ hk => trivial)))⟩; replace BK317 : Aside0 (w49.heap[gb317]? = some (.cells #[.int .i64 3, .int .i64 0, .string (strOfNums x5_3)] 23 (0, 0))) := bp BK317 hw; replace HB := bv hw; clear hw))
            refine bodyPost_ret (results_cell_row rfl _ _ gb317 23 #[.int .i64 3, .int .i64 0, .string (strOfNums x5_3)] (0, 0) _ rfl (by (with_reducible repeat (first | refine blk_drewN ?_ _ | refine blk_drew ?_ | refine blk_alloc ?_ _)); exact BK317.out) Tryd.underlying23 rfl (by kernel_rfl)) rfl ?_
            exact ⟨by first | (simp only [ByteArray.size_extract, Nat.min_self]; rfl) | rfl | (simp [errW_none, errW_some] <;> rfl) | (simp [*, errW_none, errW_some] <;> rfl), by repeat (first | (with_reducible first | exact HB.out | apply below_alloc | apply pw_below_drewN | apply below_drew1 | refine below_set ?_ GE317.out) | exact HB.out)⟩
        ·
         rw [if_neg c17] at H
         have c17b0 : ((bt a0 0) == 39) = false := beq_eq_false_iff_ne.mpr c17; have c17b1 : ((bt a0 0) != 39) = true := bne_iff_ne.mpr c17
         have H' := Aside0.mk H
         clear H; have p16 : 0 ≤ (0 : Int) := (by omega); have q16 : 0 < a0.size := (by have : (0 : Int) < (a0.size : Int) := of_decide_eq_true (by first | (with_reducible assumption) | assumption); omega); have hx16 : ∀ h : 0 < a0.size, ((a0[0]'h).toNat : Int) = bt a0 0 := bt_at a0 0; clear p16; have qi16 : (0 < (a0.size : Int)) = True := eq_true (of_decide_eq_true (by first | (with_reducible assumption) | assumption)); replace q16 := eq_true q16
         go_wp2
         go_loopg [3, 4] kj9 (fun kq v3 v4 w' => ∃ (x3_3 : Int) (x4_3 : Int), v3 = .int .i64 x3_3 ∧ v4 = .int .i64 x4_3 ∧ Aside0 (unisonref01_said.l0 kq a0 x3_3 x4_3 = some (r1, r2, r3)) ∧ Aside0 (kq ≤ kj9) ∧ Aside0 (w'.heap[gb317]? = some (.cells #[.int .i64 0, .int .i64 0, .string (⟨#[]⟩ : ByteArray)] 23 (0, 0))) ∧ Aside0 (Below w.heap.size w w'))
         case atStart => exact ⟨(0), (0), (by first | rfl | (simp; done) | (simp [*]; done)), (by first | rfl | (simp; done) | (simp [*]; done)), H', ⟨Nat.le_refl _⟩, ⟨by (with_reducible repeat (first | refine blk_drewN ?_ _ | refine blk_drew ?_ | refine blk_alloc ?_ _)); exact BK317.out⟩, ⟨by repeat (first | (with_reducible first | exact HB.out | apply below_alloc | apply pw_below_drewN | apply below_drew1 | refine below_set ?_ GE317.out) | exact HB.out)⟩⟩
         case round =>
          clear H'
          (try clear c1); (try clear p1); (try clear q1); (try clear hx1); (try clear qi1); (try clear c2); (try clear p2); (try clear q2); (try clear hx2); (try clear c3); (try clear p3); (try clear q3); (try clear hx3); (try clear c4); (try clear c4b0); (try clear c4b1); (try clear p4); (try clear q4); (try clear hx4); (try clear hcv4); (try clear c5); (try clear c6); (try clear p6); (try clear c7); (try clear c11); (try clear c11b0); (try clear c11b1); (try clear c12); (try clear c15); (try clear c15b0); (try clear c15b1); (try clear p16); (try clear q16); (try clear hx16); (try clear qi16); (try clear c17); (try clear c17b0); (try clear c17b1); (try clear c18); (try clear c18b0); (try clear c19); (try clear c19b0); (try clear c20); (try clear c20b0); (try clear p21); (try clear q21); (try clear hx21); (try clear c22); (try clear c22b0); (try clear c22b1); (try clear c23); (try clear p26); (try clear q26); (try clear hx26); (try clear c27); (try clear c27b0); (try clear c27b1); (try clear c28); (try clear c30); (try clear c30b0); (try clear c31); (try clear c31b0); (try clear p32); (try clear q32); (try clear hx32); (try clear c35); (try clear c35b0); (try clear c36); (try clear c36b0); (try clear p37); (try clear q37); (try clear hx37); (try clear c39); (try clear c42); (try clear c42b0); (try clear c43); (try clear c43b0); (try clear p44); (try clear q44); (try clear hx44); (try clear c45); (try clear hcv47); (try clear hcz13_0); (try clear hcz13_1); (try clear hcz13_2); (try clear hcz48_0); (try clear hcz48_1); (try clear hcz48_2); (try clear hcz8_0); (try clear hcz8_1); (try clear hcz8_2); (try clear hfz13_0); (try clear hfz13_1); (try clear hfz13_2); (try clear hfz48_0); (try clear hfz48_1); (try clear hfz48_2); (try clear hfz8_0); (try clear hfz8_1); (try clear hfz8_2); (try clear p1); (try clear p16); (try clear p2); (try clear p21); (try clear p26); (try clear p32); (try clear p37); (try clear p44); (try clear p6); (try clear q1); (try clear q16); (try clear q2); (try clear q21); (try clear q26); (try clear q32); (try clear q37); (try clear q44)
          obtain ⟨x3_3, x4_3, rfl, rfl, HA, HK3, BK317, HB⟩ := hrel
          cases gk with
          | zero => exact absurd HA.out (by simp [unisonref01_said.l0])
          | succ k3 =>
           have H := HA.out; clear HA
           simp only [unisonref01_said.l0] at H
           have HC50 := Aside0.mk H; clear H
           go_upto_region 8 with (fail)
           go_cut [33] (fun v33 wc => ∃ (kq : Nat) (x33_49 : Bool), v33 = .bool x33_49 ∧ Aside0 (unisonref01_said.j3 kq a0 x3_3 x4_3 x33_49 = some (r1, r2, r3)) ∧ Aside0 (kq ≤ k3) ∧ Aside0 (wc.heap[gb317]? = some (.cells #[.int .i64 0, .int .i64 0, .string (⟨#[]⟩ : ByteArray)] 23 (0, 0))) ∧ Aside0 (Below w.heap.size w wc))
           case first =>
            have H := HC50.out; clear HC50
            by_cases c51 : x4_3 < (a0.size : Int)
            ·
             rw [if_pos c51] at H
             have c51b0 : decide (x4_3 < (a0.size : Int)) = true := decide_eq_true c51; clear c51
             (first | rw [c51b0] | (simp only [i64_w, i32_w, u8_w, u32_w]; rw [c51b0]) | rw [c51b1] | skip)
             have H' := Aside0.mk H
             clear H
             go_wp2
             go_meet
             case rel => exact ⟨_, (decide (x4_3 < 20)), (by first | rfl | (simp; done) | (simp [*]; done)), H', ⟨by have := HJ1.out; have := HJ9.out; have := HK3.out; first | omega | exact Nat.le_refl _⟩, ⟨by (with_reducible repeat (first | refine blk_drewN ?_ _ | refine blk_drew ?_ | refine blk_alloc ?_ _)); exact BK317.out⟩, ⟨by repeat (first | (with_reducible first | exact HB.out | apply below_alloc | apply pw_below_drewN | apply below_drew1 | refine below_set ?_ GE317.out) | exact HB.out)⟩⟩
            ·
             rw [if_neg c51] at H
             have c51b0 : decide (x4_3 < (a0.size : Int)) = false := decide_eq_false c51; clear c51
             (first | rw [c51b0] | (simp only [i64_w, i32_w, u8_w, u32_w]; rw [c51b0]) | rw [c51b1] | skip)
             have H' := Aside0.mk H
             clear H
             go_wp2
             go_meet
             case rel => exact ⟨_, (false), (by first | rfl | (simp; done) | (simp [*]; done)), H', ⟨by have := HJ1.out; have := HJ9.out; have := HK3.out; first | omega | exact Nat.le_refl _⟩, ⟨by (with_reducible repeat (first | refine blk_drewN ?_ _ | refine blk_drew ?_ | refine blk_alloc ?_ _)); exact BK317.out⟩, ⟨by repeat (first | (with_reducible first | exact HB.out | apply below_alloc | apply pw_below_drewN | apply below_drew1 | refine below_set ?_ GE317.out) | exact HB.out)⟩⟩
           case rest =>
            clear HC50; (try clear c1); (try clear p1); (try clear q1); (try clear hx1); (try clear qi1); (try clear c2); (try clear p2); (try clear q2); (try clear hx2); (try clear c3); (try clear p3); (try clear q3); (try clear hx3); (try clear c4); (try clear c4b0); (try clear c4b1); (try clear p4); (try clear q4); (try clear hx4); (try clear hcv4); (try clear c5); (try clear c6); (try clear p6); (try clear c7); (try clear c11); (try clear c11b0); (try clear c11b1); (try clear c12); (try clear c15); (try clear c15b0); (try clear c15b1); (try clear p16); (try clear q16); (try clear hx16); (try clear qi16); (try clear c17); (try clear c17b0); (try clear c17b1); (try clear c18); (try clear c18b0); (try clear c19); (try clear c19b0); (try clear c20); (try clear c20b0); (try clear p21); (try clear q21); (try clear hx21); (try clear c22); (try clear c22b0); (try clear c22b1); (try clear c23); (try clear p26); (try clear q26); (try clear hx26); (try clear c27); (try clear c27b0); (try clear c27b1); (try clear c28); (try clear c30); (try clear c30b0); (try clear c31); (try clear c31b0); (try clear p32); (try clear q32); (try clear hx32); (try clear c35); (try clear c35b0); (try clear c36); (try clear c36b0); (try clear p37); (try clear q37); (try clear hx37); (try clear c39); (try clear c42); (try clear c42b0); (try clear c43); (try clear c43b0); (try clear p44); (try clear q44); (try clear hx44); (try clear c45); (try clear hcv47); (try clear c51); (try clear c51b0); (try clear c51b1); (try clear hcz13_0); (try clear hcz13_1); (try clear hcz13_2); (try clear hcz48_0); (try clear hcz48_1); (try clear hcz48_2); (try clear hcz8_0); (try clear hcz8_1); (try clear hcz8_2); (try clear hfz13_0); (try clear hfz13_1); (try clear hfz13_2); (try clear hfz48_0); (try clear hfz48_1); (try clear hfz48_2); (try clear hfz8_0); (try clear hfz8_1); (try clear hfz8_2); (try clear p1); (try clear p16); (try clear p2); (try clear p21); (try clear p26); (try clear p3); (try clear p32); (try clear p37); (try clear p4); (try clear p44); (try clear p6); (try clear q1); (try clear q16); (try clear q2); (try clear q21); (try clear q26); (try clear q3); (try clear q32); (try clear q37); (try clear q4); (try clear q44)
            obtain ⟨kq, x33_49, rfl, HA, HJ49, BK317, HB⟩ := hcut
            cases kq with
            | zero => exact absurd HA.out (by simp [unisonref01_said.j3])
            | succ kj49 =>
             have H := HA.out; clear HA
             simp only [unisonref01_said.j3] at H
             by_cases c52 : x33_49 = true
             ·
              subst c52
              have H1 : (if 0 ≤ x4_3 then (if x4_3 < (a0.size : Int) then (if (bt a0 x4_3) = 45 then (unisonref01_said.l0 kj49 a0 x3_3 (wrap64 (x4_3 + 1))) else (unisonref01_said.l0 kj49 a0 (wrap64 ((wrap64 ((wrap64 (10 * x3_3)) - (wrap64 (bt a0 x4_3)))) + 48)) (wrap64 (x4_3 + 1)))) else (none)) else (none)) = some (r1, r2, r3) := by (first | rw [if_pos rfl] at H | rw [if_pos True.intro] at H | skip); exact H
              clear H; have H := H1; clear H1
              by_cases c53 : 0 ≤ x4_3
              ·
               rw [if_pos c53] at H
               have c53b0 : decide (0 ≤ x4_3) = true := decide_eq_true c53; clear c53
               by_cases c54 : x4_3 < (a0.size : Int)
               ·
                rw [if_pos c54] at H
                have c54b0 : decide (x4_3 < (a0.size : Int)) = true := decide_eq_true c54; clear c54
                by_cases c56 : (bt a0 x4_3) = 45
                ·
                 rw [if_pos c56] at H
                 have c56b0 : ((bt a0 x4_3) == 45) = true := beq_iff_eq.mpr c56; have c56b1 : ((bt a0 x4_3) != 45) = false := bne_eq_false_iff_eq.mpr c56; clear c56
                 have H' := Aside0.mk H
                 clear H; have p55 : 0 ≤ (x4_3 : Int) := of_decide_eq_true (by first | (with_reducible assumption) | assumption); have q55 : x4_3 < (a0.size : Int) := of_decide_eq_true (by first | (with_reducible assumption) | assumption); have hx55 := bt_at a0 x4_3; replace p55 := eq_true p55; replace q55 := eq_true q55
                 go_wp2
                 go_roundg kj49
                 case measure => have := HJ1.out; have := HJ9.out; have := HK3.out; have := HJ49.out; omega
                 case rel => exact ⟨(x3_3), (wrap64 (x4_3 + 1)), (by first | rfl | (simp; done) | (simp [*]; done)), (by first | rfl | (simp; done) | (simp [*]; done)), H', ⟨by have := HJ1.out; have := HJ9.out; have := HK3.out; have := HJ49.out; omega⟩, ⟨by (with_reducible repeat (first | refine blk_drewN ?_ _ | refine blk_drew ?_ | refine blk_alloc ?_ _)); exact BK317.out⟩, ⟨by repeat (first | (with_reducible first | exact HB.out | apply below_alloc | apply pw_below_drewN | apply below_drew1 | refine below_set ?_ GE317.out) | exact HB.out)⟩⟩
                ·
                 rw [if_neg c56] at H
                 have c56b0 : ((bt a0 x4_3) == 45) = false := beq_eq_false_iff_ne.mpr c56; have c56b1 : ((bt a0 x4_3) != 45) = true := bne_iff_ne.mpr c56
                 have H' := Aside0.mk H
                 clear H; have p55 : 0 ≤ (x4_3 : Int) := of_decide_eq_true (by first | (with_reducible assumption) | assumption); have q55 : x4_3 < (a0.size : Int) := of_decide_eq_true (by first | (with_reducible assumption) | assumption); have hx55 := bt_at a0 x4_3; replace p55 := eq_true p55; replace q55 := eq_true q55; have p57 : 0 ≤ (x4_3 : Int) := of_decide_eq_true (by first | (with_reducible assumption) | assumption); have q57 : x4_3 < (a0.size : Int) := of_decide_eq_true (by first | (with_reducible assumption) | assumption); have hx57 := bt_at a0 x4_3; replace p57 := eq_true p57; replace q57 := eq_true q57
                 go_wp2
                 go_roundg kj49
                 case measure => have := HJ1.out; have := HJ9.out; have := HK3.out; have := HJ49.out; omega
                 case rel => exact ⟨(wrap64 ((wrap64 ((wrap64 (10 * x3_3)) - (wrap64 (bt a0 x4_3)))) + 48)), (wrap64 (x4_3 + 1)), (by first | rfl | (simp; done) | (simp [*]; done)), (by first | rfl | (simp; done) | (simp [*]; done)), H', ⟨by have := HJ1.out; have := HJ9.out; have := HK3.out; have := HJ49.out; omega⟩, ⟨by (with_reducible repeat (first | refine blk_drewN ?_ _ | refine blk_drew ?_ | refine blk_alloc ?_ _)); exact BK317.out⟩, ⟨by repeat (first | (with_reducible first | exact HB.out | apply below_alloc | apply pw_below_drewN | apply below_drew1 | refine below_set ?_ GE317.out) | exact HB.out)⟩⟩
               ·
                rw [if_neg c54] at H
                exact absurd H (by simp)
              ·
               rw [if_neg c53] at H
               exact absurd H (by simp)
             ·
              replace c52 := Bool.eq_false_iff.mpr c52
              subst c52
              have H1 : (if 0 < (a0.size : Int) then (if (bt a0 0) = 45 then ((unisonref01_Number.f x3_3).bind fun bt321 => (some (bt321.1, bt321.2.1, bt321.2.2))) else ((unisonref01_Number.f (wrap64 (-x3_3))).bind fun bt324 => (some (bt324.1, bt324.2.1, bt324.2.2)))) else (none)) = some (r1, r2, r3) := by rw [if_neg (show ¬ (false = true) by decide)] at H; exact H
              clear H; have H := H1; clear H1
              by_cases c58 : 0 < (a0.size : Int)
              ·
               rw [if_pos c58] at H
               have c58b0 : decide (0 < (a0.size : Int)) = true := decide_eq_true c58; have c58b1 : decide (0 < a0.size) = true := decide_eq_true (by omega); clear c58
               by_cases c60 : (bt a0 0) = 45
               ·
                rw [if_pos c60] at H
                have c60b0 : ((bt a0 0) == 45) = true := beq_iff_eq.mpr c60; have c60b1 : ((bt a0 0) != 45) = false := bne_eq_false_iff_eq.mpr c60; clear c60; replace H := Option.bind_eq_some_iff.mp H
                obtain ⟨⟨t321, t322, t323⟩, A610, H⟩ := H
                replace H : (some (t321, t322, t323)) = some (r1, r2, r3) := H; have A61 := Aside0.mk A610; clear A610
                simp only [Option.some.injEq, Prod.mk.injEq] at H
                obtain ⟨rfl, rfl, rfl⟩ := H
                have p59 : 0 ≤ (0 : Int) := (by omega); have q59 : 0 < a0.size := (by have : (0 : Int) < (a0.size : Int) := of_decide_eq_true (by first | (with_reducible assumption) | assumption); omega); have hx59 : ∀ h : 0 < a0.size, ((a0[0]'h).toNat : Int) = bt a0 0 := bt_at a0 0; clear p59; have qi59 : (0 < (a0.size : Int)) = True := eq_true (of_decide_eq_true (by first | (with_reducible assumption) | assumption)); replace q59 := eq_true q59
                go_wp2_with (first | ((with_reducible refine gate_callee (f := 47) rfl ?_); refine gL (some 54) Tryd.func47 #[.int .i64 x3_3] ?_; (with_reducible refine (unisonref01_Number.calls x3_3 t321 t322 t323 _ A61.out).mono ?_); rintro e w62 ⟨rfl, hb⟩; refine ⟨_, rfl, ?_⟩; replace BK317 := bb BK317 hb; replace HB := bs hb; (try clear hb); (try clear hb2); (try clear hk); (try clear hi); have hcz63_0 : w62.cell? ⟨gb317, 0, none⟩ = some (.int .i64 0) := (blk_cell BK317.out 0).trans rfl; have hcz63_1 : w62.cell? ⟨gb317, 1, none⟩ = some (.int .i64 0) := (blk_cell BK317.out 1).trans rfl; have hcz63_2 : w62.cell? ⟨gb317, 2, none⟩ = some (.string (⟨#[]⟩ : ByteArray)) := (blk_cell BK317.out 2).trans rfl; have hfz63_0 := blk_frozen BK317.out 0; have hfz63_1 := blk_frozen BK317.out 1; have hfz63_2 := blk_frozen BK317.out 2) | ((with_reducible refine gate_store (t := 23) (p := 2) rfl ?_); refine store_event (t := 23) (p := 2) (v := ?vo_w64) (w1 := (((w62.setCell ⟨gb317, 0, none⟩ (.int .i64 t321)).setCell ⟨gb317, 1, none⟩ (.int .i64 t322)).setCell ⟨gb317, 2, none⟩ (.string t323))) ?hg ?ho ?hn ?hr ?_; (case ho => rfl); (case hg => rfl); (case hn => rfl); (case hr => first | (go_simp; done) | (go_simp; rfl)); intro w64 hw; replace BK317 : Aside0 (w64.heap[gb317]? = some (.cells #[.int .i64 t321, .int .i64 t322, .string t323] 23 (0, 0))) := bp BK317 hw; replace HB := bv hw; clear hw))
                refine bodyPost_ret (results_cell_row rfl _ _ gb317 23 #[.int .i64 t321, .int .i64 t322, .string t323] (0, 0) _ rfl (by (with_reducible repeat (first | refine blk_drewN ?_ _ | refine blk_drew ?_ | refine blk_alloc ?_ _)); exact BK317.out) Tryd.underlying23 rfl (by kernel_rfl)) rfl ?_
                exact ⟨by first | (simp only [ByteArray.size_extract, Nat.min_self]; rfl) | rfl | (simp [errW_none, errW_some] <;> rfl) | (simp [*, errW_none, errW_some] <;> rfl), by repeat (first | (with_reducible first | exact HB.out | apply below_alloc | apply pw_below_drewN | apply below_drew1 | refine below_set ?_ GE317.out) | exact HB.out)⟩
               ·
                rw [if_neg c60] at H
                have c60b0 : ((bt a0 0) == 45) = false := beq_eq_false_iff_ne.mpr c60; have c60b1 : ((bt a0 0) != 45) = true := bne_iff_ne.mpr c60; replace H := Option.bind_eq_some_iff.mp H
                obtain ⟨⟨t324, t325, t326⟩, A650, H⟩ := H
                replace H : (some (t324, t325, t326)) = some (r1, r2, r3) := H; have A65 := Aside0.mk A650; clear A650
                simp only [Option.some.injEq, Prod.mk.injEq] at H
                obtain ⟨rfl, rfl, rfl⟩ := H
                have p59 : 0 ≤ (0 : Int) := (by omega); have q59 : 0 < a0.size := (by have : (0 : Int) < (a0.size : Int) := of_decide_eq_true (by first | (with_reducible assumption) | assumption); omega); have hx59 : ∀ h : 0 < a0.size, ((a0[0]'h).toNat : Int) = bt a0 0 := bt_at a0 0; clear p59; have qi59 : (0 < (a0.size : Int)) = True := eq_true (of_decide_eq_true (by first | (with_reducible assumption) | assumption)); replace q59 := eq_true q59
                go_wp2_with (first | ((with_reducible refine gate_callee (f := 47) rfl ?_); refine gL (some 54) Tryd.func47 #[.int .i64 (wrap64 (-x3_3))] ?_; (with_reducible refine (unisonref01_Number.calls (wrap64 (-x3_3)) t324 t325 t326 _ A65.out).mono ?_); rintro e w66 ⟨rfl, hb⟩; refine ⟨_, rfl, ?_⟩; replace BK317 := bb BK317 hb; replace HB := bs hb; (try clear hb); (try clear hb2); (try clear hk); (try clear hi); have hcz67_0 : w66.cell? ⟨gb317, 0, none⟩ = some (.int .i64 0) := (blk_cell BK317.out 0).trans rfl; have hcz67_1 : w66.cell? ⟨gb317, 1, none⟩ = some (.int .i64 0) := (blk_cell BK317.out 1).trans rfl; have hcz67_2 : w66.cell? ⟨gb317, 2, none⟩ = some (.string (⟨#[]⟩ : ByteArray)) := (blk_cell BK317.out 2).trans rfl; have hfz67_0 := blk_frozen BK317.out 0; have hfz67_1 := blk_frozen BK317.out 1; have hfz67_2 := blk_frozen BK317.out 2) | ((with_reducible refine gate_store (t := 23) (p := 2) rfl ?_); refine store_event (t := 23) (p := 2) (v := ?vo_w68) (w1 := (((w66.setCell ⟨gb317, 0, none⟩ (.int .i64 t324)).setCell ⟨gb317, 1, none⟩ (.int .i64 t325)).setCell ⟨gb317, 2, none⟩ (.string t326))) ?hg ?ho ?hn ?hr ?_; (case ho => rfl); (case hg => rfl); (case hn => rfl); (case hr => first | (go_simp; done) | (go_simp; rfl)); intro w68 hw; replace BK317 : Aside0 (w68.heap[gb317]? = some (.cells #[.int .i64 t324, .int .i64 t325, .string t326] 23 (0, 0))) := bp BK317 hw; replace HB := bv hw; clear hw))
                refine bodyPost_ret (results_cell_row rfl _ _ gb317 23 #[.int .i64 t324, .int .i64 t325, .string t326] (0, 0) _ rfl (by (with_reducible repeat (first | refine blk_drewN ?_ _ | refine blk_drew ?_ | refine blk_alloc ?_ _)); exact BK317.out) Tryd.underlying23 rfl (by kernel_rfl)) rfl ?_
                exact ⟨by first | (simp only [ByteArray.size_extract, Nat.min_self]; rfl) | rfl | (simp [errW_none, errW_some] <;> rfl) | (simp [*, errW_none, errW_some] <;> rfl), by repeat (first | (with_reducible first | exact HB.out | apply below_alloc | apply pw_below_drewN | apply below_drew1 | refine below_set ?_ GE317.out) | exact HB.out)⟩
              ·
               rw [if_neg c58] at H
               exact absurd H (by simp)
       ·
        rw [if_neg c15] at H
        exact absurd H (by simp)
end Go.Proofs.YteehcopkljiikaaDoor.PA
end
section
namespace Go.Proofs.YteehcopkljiikaaDoor.PA
open Go.RowKit Go.Proofs.YteehcopkljiikaaDoorW.PrintWords Go.Proofs.YteehcopkljiikaaDoorW.PrintLast Go.Proofs.YteehcopkljiikaaDoorW.PrintMore Go.Proofs.YteehcopkljiikaaDoorX
attribute [local go_sem] max2_int min2_int max_two min_two max_three min_three max_four min_four   -- for this text's walks alone
set_option linter.unusedVariables false
set_option linter.unusedSimpArgs false
attribute [local go_sem high] eqA23
/-! ### unisonref01_Parse: function 37 -/
def unisonref01_Parse.f (k : Nat) (a0 : ByteArray) : Option (Int × Int × ByteArray × Int) := (unisonref01_said.f k a0).bind fun bt339 => ((unisonref01_Print.f k bt339.1 bt339.2.1 bt339.2.2).bind fun bt343 => (if bt343.2 = 0 then (if bt343.1.toList = a0.toList then (some (bt339.1, bt339.2.1, bt339.2.2, 0)) else (some (0, 0, (⟨#[]⟩ : ByteArray), 10))) else (some (0, 0, (⟨#[]⟩ : ByteArray), 10))))
theorem unisonref01_Parse.mono : ∀ a0 k, LeO (unisonref01_Parse.f k a0) (unisonref01_Parse.f (k + 1) a0) := by
 intro a0 k
 unfold unisonref01_Parse.f
 repeat' first
   | (with_reducible exact unisonref01_Print.mono _ _ _ _)
   | (with_reducible exact unisonref01_said.mono _ _)
   | (with_reducible exact LeO.refl _)
   | (with_reducible exact LeO.none _)
   | (with_reducible refine LeO.ite ?_ ?_)
   | (with_reducible refine LeO.bind ?_ (fun _ => ?_))
   | exact unisonref01_Print.mono _ _ _ _
   | exact unisonref01_said.mono _ _
   | exact LeO.none _
   | refine LeO.ite ?_ ?_
   | refine LeO.bind ?_ (fun _ => ?_)
set_option maxHeartbeats 8000000 in
set_option maxRecDepth 100000 in
theorem unisonref01_Parse.calls (k : Nat) (a0 : ByteArray) (r1 : Int) (r2 : Int) (r3 : ByteArray) (r4 : Int) (w : World) (h : unisonref01_Parse.f k a0 = some (r1, r2, r3, r4)) :
  Calls Tryd.prog 37 #[.string a0] w fun e w' => e = .returned (.tuple #[.agg #[.int .i64 r1, .int .i64 r2, .string r3], .int .i64 r4]) ∧ Below w.heap.size w w' := by
 have hu23 := Tryd.underlying23; have HB := Aside0.mk (Below.refl w.heap.size w); have H : ((unisonref01_said.f k a0).bind fun bt339 => ((unisonref01_Print.f k bt339.1 bt339.2.1 bt339.2.2).bind fun bt343 => (if bt343.2 = 0 then (if bt343.1.toList = a0.toList then (some (bt339.1, bt339.2.1, bt339.2.2, 0)) else (some (0, 0, (⟨#[]⟩ : ByteArray), 10))) else (some (0, 0, (⟨#[]⟩ : ByteArray), 10))))) = some (r1, r2, r3, r4) := h; clear h; replace H := Option.bind_eq_some_iff.mp H
 obtain ⟨⟨t339, t340, t341⟩, A20, H⟩ := H
 replace H : ((unisonref01_Print.f k t339 t340 t341).bind fun bt343 => (if bt343.2 = 0 then (if bt343.1.toList = a0.toList then (some (t339, t340, t341, 0)) else (some (0, 0, (⟨#[]⟩ : ByteArray), 10))) else (some (0, 0, (⟨#[]⟩ : ByteArray), 10)))) = some (r1, r2, r3, r4) := H; have A2 := Aside0.mk A20; clear A20; replace H := Option.bind_eq_some_iff.mp H
 obtain ⟨⟨t343, t344⟩, A30, H⟩ := H
 replace H : (if t344 = 0 then (if t343.toList = a0.toList then (some (t339, t340, t341, 0)) else (some (0, 0, (⟨#[]⟩ : ByteArray), 10))) else (some (0, 0, (⟨#[]⟩ : ByteArray), 10))) = some (r1, r2, r3, r4) := H; have A3 := Aside0.mk A30; clear A30
 by_cases c4 : t344 = 0
 ·
  rw [if_pos c4] at H
  have c4b0 : (t344 == 0) = true := beq_iff_eq.mpr c4; have c4b1 : (t344 != 0) = false := bne_eq_false_iff_eq.mpr c4; clear c4
  by_cases c5 : t343.toList = a0.toList
  ·
   rw [if_pos c5] at H
   have c5b0 : (t343.toList == a0.toList) = true := beq_iff_eq.mpr c5; have c5b1 : (t343.toList != a0.toList) = false := bne_eq_false_iff_eq.mpr c5; clear c5
   simp only [Option.some.injEq, Prod.mk.injEq] at H
   obtain ⟨rfl, rfl, rfl, rfl⟩ := H
   go_enter Tryd.func37, Tryd.ntmps37
   go_wp2_with (first | ((with_reducible refine gate_dst (N := 2) rfl ?_); refine box_event ?hg (N := 2) ?hd (cs := #[.int .i64 0, .int .i64 0, .string (⟨#[]⟩ : ByteArray)]) (t := 23) ?hr ?_; (case hd => rfl); (case hg => rfl); (case hr => first | (go_simp; done) | (go_simp; rfl)); intro gb338 hg w6 hbox hb; have BK338 := Aside0.mk (hbox); have GW338 := bz hg; have GE338 := bz hg; replace HB := bs hb; clear hb hbox hg) | ((with_reducible refine gate_callee (f := 61) rfl ?_); refine gL (some 8) Tryd.func61 #[.string a0] ?_; (with_reducible refine (unisonref01_said.calls k a0 t339 t340 t341 _ A2.out).mono ?_); rintro e w7 ⟨rfl, hb⟩; refine ⟨_, rfl, ?_⟩; replace BK338 := bb BK338 hb; replace HB := bs hb; (try clear hb); (try clear hb2); (try clear hk); (try clear hi)) | ((with_reducible refine gate_dst (N := 4) rfl ?_); refine box_event ?hg (N := 4) ?hd (cs := #[.int .i64 0, .int .i64 0, .string (⟨#[]⟩ : ByteArray)]) (t := 23) ?hr ?_; (case hd => rfl); (case hg => rfl); (case hr => first | (go_simp; done) | (go_simp; rfl)); intro gb342 hg w8 hbox hb; have BK342 := Aside0.mk (hbox); have GW342 := bz hg; have GE342 := bz hg; have NB338_342 := bl BK338 hg; have NB342_338 := bg BK338 hg; replace BK338 := bb BK338 hb; replace HB := bs hb; clear hb hbox hg; have hnb9 := NB342_338.out; have hnc9 := NB338_342.out; have hcz10_0 : w8.cell? ⟨gb342, 0, none⟩ = some (.int .i64 0) := (blk_cell BK342.out 0).trans rfl; have hcz10_1 : w8.cell? ⟨gb342, 1, none⟩ = some (.int .i64 0) := (blk_cell BK342.out 1).trans rfl; have hcz10_2 : w8.cell? ⟨gb342, 2, none⟩ = some (.string (⟨#[]⟩ : ByteArray)) := (blk_cell BK342.out 2).trans rfl; have hfz10_0 := blk_frozen BK342.out 0; have hfz10_1 := blk_frozen BK342.out 1; have hfz10_2 := blk_frozen BK342.out 2) | ((with_reducible refine gate_store (t := 23) (p := 4) rfl ?_); refine store_event (t := 23) (p := 4) (v := ?vo_w11) (w1 := (((w8.setCell ⟨gb342, 0, none⟩ (.int .i64 t339)).setCell ⟨gb342, 1, none⟩ (.int .i64 t340)).setCell ⟨gb342, 2, none⟩ (.string t341))) ?hg ?ho ?hn ?hr ?_; (case ho => rfl); (case hg => rfl); (case hn => rfl); (case hr => first | (go_simp; done) | (go_simp; rfl)); intro w11 hw; replace BK338 := bw BK338 hw; replace BK342 : Aside0 (w11.heap[gb342]? = some (.cells #[.int .i64 t339, .int .i64 t340, .string t341] 23 (0, 0))) := bp BK342 hw; replace HB := bv hw; clear hw; have hcz12_0 : w11.cell? ⟨gb342, 0, none⟩ = some (.int .i64 t339) := (blk_cell BK342.out 0).trans rfl; have hcz12_1 : w11.cell? ⟨gb342, 1, none⟩ = some (.int .i64 t340) := (blk_cell BK342.out 1).trans rfl; have hcz12_2 : w11.cell? ⟨gb342, 2, none⟩ = some (.string t341) := (blk_cell BK342.out 2).trans rfl; have hfz12_0 := blk_frozen BK342.out 0; have hfz12_1 := blk_frozen BK342.out 1; have hfz12_2 := blk_frozen BK342.out 2) | ((with_reducible refine gate_callee (f := 35) rfl ?_); refine gL (some 11) Tryd.func35 #[.agg #[.int .i64 t339, .int .i64 t340, .string t341]] ?_; (with_reducible refine (unisonref01_Print.calls k t339 t340 t341 t343 t344 _ A3.out).mono ?_); rintro e w13 ⟨rfl, hb⟩; refine ⟨_, rfl, ?_⟩; replace BK338 := bb BK338 hb; replace BK342 := bb BK342 hb; replace HB := bs hb; (try clear hb); (try clear hb2); (try clear hk); (try clear hi); have hcz14_0 : w13.cell? ⟨gb342, 0, none⟩ = some (.int .i64 t339) := (blk_cell BK342.out 0).trans rfl; have hcz14_1 : w13.cell? ⟨gb342, 1, none⟩ = some (.int .i64 t340) := (blk_cell BK342.out 1).trans rfl; have hcz14_2 : w13.cell? ⟨gb342, 2, none⟩ = some (.string t341) := (blk_cell BK342.out 2).trans rfl; have hfz14_0 := blk_frozen BK342.out 0; have hfz14_1 := blk_frozen BK342.out 1; have hfz14_2 := blk_frozen BK342.out 2; have hcz15_0 : w13.cell? ⟨gb338, 0, none⟩ = some (.int .i64 0) := (blk_cell BK338.out 0).trans rfl; have hcz15_1 : w13.cell? ⟨gb338, 1, none⟩ = some (.int .i64 0) := (blk_cell BK338.out 1).trans rfl; have hcz15_2 : w13.cell? ⟨gb338, 2, none⟩ = some (.string (⟨#[]⟩ : ByteArray)) := (blk_cell BK338.out 2).trans rfl; have hfz15_0 := blk_frozen BK338.out 0; have hfz15_1 := blk_frozen BK338.out 1; have hfz15_2 := blk_frozen BK338.out 2) | ((with_reducible refine gate_store (t := 23) (p := 2) rfl ?_); refine store_event (t := 23) (p := 2) (v := ?vo_w16) (w1 := (((w13.setCell ⟨gb338, 0, none⟩ (.int .i64 t339)).setCell ⟨gb338, 1, none⟩ (.int .i64 t340)).setCell ⟨gb338, 2, none⟩ (.string t341))) ?hg ?ho ?hn ?hr ?_; (case ho => rfl); (case hg => rfl); (case hn => rfl); (case hr => first | (go_simp; done) | (go_simp; rfl)); intro w16 hw; replace BK338 : Aside0 (w16.heap[gb338]? = some (.cells #[.int .i64 t339, .int .i64 t340, .string t341] 23 (0, 0))) := bp BK338 hw; replace BK342 := bw BK342 hw; replace HB := bv hw; clear hw))
   refine bodyPost_ret (results_ct rfl _ _ gb338 23 #[.int .i64 t339, .int .i64 t340, .string t341] (0, 0) _ rfl (by (with_reducible repeat (first | refine blk_drewN ?_ _ | refine blk_drew ?_ | refine blk_alloc ?_ _)); exact BK338.out) Tryd.underlying23 rfl (by kernel_rfl)) rfl ?_
   exact ⟨by first | (simp only [ByteArray.size_extract, Nat.min_self]; rfl) | rfl | (simp [errW_none, errW_some] <;> rfl) | (simp [*, errW_none, errW_some] <;> rfl), by repeat (first | (with_reducible first | exact HB.out | apply below_alloc | apply pw_below_drewN | apply below_drew1 | refine below_set ?_ GE338.out | refine below_set ?_ GE342.out) | exact HB.out)⟩
  ·
   rw [if_neg c5] at H
   have c5b0 : (t343.toList == a0.toList) = false := beq_eq_false_iff_ne.mpr c5; have c5b1 : (t343.toList != a0.toList) = true := bne_iff_ne.mpr c5
   simp only [Option.some.injEq, Prod.mk.injEq] at H
   obtain ⟨rfl, rfl, rfl, rfl⟩ := H
   go_enter Tryd.func37, Tryd.ntmps37
   go_wp2_with (first | ((with_reducible refine gate_dst (N := 2) rfl ?_); refine box_event ?hg (N := 2) ?hd (cs := #[.int .i64 0, .int .i64 0, .string (⟨#[]⟩ : ByteArray)]) (t := 23) ?hr ?_; (case hd => rfl); (case hg => rfl); (case hr => first | (go_simp; done) | (go_simp; rfl)); intro gb338 hg w17 hbox hb; have BK338 := Aside0.mk (hbox); have GW338 := bz hg; have GE338 := bz hg; replace HB := bs hb; clear hb hbox hg) | ((with_reducible refine gate_callee (f := 61) rfl ?_); refine gL (some 8) Tryd.func61 #[.string a0] ?_; (with_reducible refine (unisonref01_said.calls k a0 t339 t340 t341 _ A2.out).mono ?_); rintro e w18 ⟨rfl, hb⟩; refine ⟨_, rfl, ?_⟩; replace BK338 := bb BK338 hb; replace HB := bs hb; (try clear hb); (try clear hb2); (try clear hk); (try clear hi)) | ((with_reducible refine gate_dst (N := 4) rfl ?_); refine box_event ?hg (N := 4) ?hd (cs := #[.int .i64 0, .int .i64 0, .string (⟨#[]⟩ : ByteArray)]) (t := 23) ?hr ?_; (case hd => rfl); (case hg => rfl); (case hr => first | (go_simp; done) | (go_simp; rfl)); intro gb342 hg w19 hbox hb; have BK342 := Aside0.mk (hbox); have GW342 := bz hg; have GE342 := bz hg; have NB338_342 := bl BK338 hg; have NB342_338 := bg BK338 hg; replace BK338 := bb BK338 hb; replace HB := bs hb; clear hb hbox hg; have hnb20 := NB342_338.out; have hnc20 := NB338_342.out; have hcz21_0 : w19.cell? ⟨gb342, 0, none⟩ = some (.int .i64 0) := (blk_cell BK342.out 0).trans rfl; have hcz21_1 : w19.cell? ⟨gb342, 1, none⟩ = some (.int .i64 0) := (blk_cell BK342.out 1).trans rfl; have hcz21_2 : w19.cell? ⟨gb342, 2, none⟩ = some (.string (⟨#[]⟩ : ByteArray)) := (blk_cell BK342.out 2).trans rfl; have hfz21_0 := blk_frozen BK342.out 0; have hfz21_1 := blk_frozen BK342.out 1; have hfz21_2 := blk_frozen BK342.out 2) | ((with_reducible refine gate_store (t := 23) (p := 4) rfl ?_); refine store_event (t := 23) (p := 4) (v := ?vo_w22) (w1 := (((w19.setCell ⟨gb342, 0, none⟩ (.int .i64 t339)).setCell ⟨gb342, 1, none⟩ (.int .i64 t340)).setCell ⟨gb342, 2, none⟩ (.string t341))) ?hg ?ho ?hn ?hr ?_; (case ho => rfl); (case hg => rfl); (case hn => rfl); (case hr => first | (go_simp; done) | (go_simp; rfl)); intro w22 hw; replace BK338 := bw BK338 hw; replace BK342 : Aside0 (w22.heap[gb342]? = some (.cells #[.int .i64 t339, .int .i64 t340, .string t341] 23 (0, 0))) := bp BK342 hw; replace HB := bv hw; clear hw; have hcz23_0 : w22.cell? ⟨gb342, 0, none⟩ = some (.int .i64 t339) := (blk_cell BK342.out 0).trans rfl; have hcz23_1 : w22.cell? ⟨gb342, 1, none⟩ = some (.int .i64 t340) := (blk_cell BK342.out 1).trans rfl; have hcz23_2 : w22.cell? ⟨gb342, 2, none⟩ = some (.string t341) := (blk_cell BK342.out 2).trans rfl; have hfz23_0 := blk_frozen BK342.out 0; have hfz23_1 := blk_frozen BK342.out 1; have hfz23_2 := blk_frozen BK342.out 2) | ((with_reducible refine gate_callee (f := 35) rfl ?_); refine gL (some 11) Tryd.func35 #[.agg #[.int .i64 t339, .int .i64 t340, .string t341]] ?_; (with_reducible refine (unisonref01_Print.calls k t339 t340 t341 t343 t344 _ A3.out).mono ?_); rintro e w24 ⟨rfl, hb⟩; refine ⟨_, rfl, ?_⟩; replace BK338 := bb BK338 hb; replace BK342 := bb BK342 hb; replace HB := bs hb; (try clear hb); (try clear hb2); (try clear hk); (try clear hi); have hcz25_0 : w24.cell? ⟨gb338, 0, none⟩ = some (.int .i64 0) := (blk_cell BK338.out 0).trans rfl; have hcz25_1 : w24.cell? ⟨gb338, 1, none⟩ = some (.int .i64 0) := (blk_cell BK338.out 1).trans rfl; have hcz25_2 : w24.cell? ⟨gb338, 2, none⟩ = some (.string (⟨#[]⟩ : ByteArray)) := (blk_cell BK338.out 2).trans rfl; have hfz25_0 := blk_frozen BK338.out 0; have hfz25_1 := blk_frozen BK338.out 1; have hfz25_2 := blk_frozen BK338.out 2) | ((with_reducible refine gate_store (t := 23) (p := 2) rfl ?_); refine store_event (t := 23) (p := 2) (v := ?vo_w26) (w1 := (((w24.setCell ⟨gb338, 0, none⟩ (.int .i64 0)).setCell ⟨gb338, 1, none⟩ (.int .i64 0)).setCell ⟨gb338, 2, none⟩ (.string (⟨#[]⟩ : ByteArray)))) ?hg ?ho ?hn ?hr ?_; (case ho => rfl); (case hg => rfl); (case hn => rfl); (case hr => first | (go_simp; done) | (go_simp; rfl)); intro w26 hw; replace BK338 : Aside0 (w26.heap[gb338]? = some (.cells #[.int .i64 0, .int .i64 0, .string (⟨#[]⟩ : ByteArray)] 23 (0, 0))) := bp BK338 hw; replace BK342 := bw BK342 hw; replace HB := bv hw; clear hw))
   refine bodyPost_ret (results_ct rfl _ _ gb338 23 #[.int .i64 0, .int .i64 0, .string (⟨#[]⟩ : ByteArray)] (0, 0) _ rfl (by (with_reducible repeat (first | refine blk_drewN ?_ _ | refine blk_drew ?_ | refine blk_alloc ?_ _)); exact BK338.out) Tryd.underlying23 rfl (by kernel_rfl)) rfl ?_
   exact ⟨by first | (simp only [ByteArray.size_extract, Nat.min_self]; rfl) | rfl | (simp [errW_none, errW_some] <;> rfl) | (simp [*, errW_none, errW_some] <;> rfl), by repeat (first | (with_reducible first | exact HB.out | apply below_alloc | apply pw_below_drewN | apply below_drew1 | refine below_set ?_ GE338.out | refine below_set ?_ GE342.out) | exact HB.out)⟩
 ·
  rw [if_neg c4] at H
  have c4b0 : (t344 == 0) = false := beq_eq_false_iff_ne.mpr c4; have c4b1 : (t344 != 0) = true := bne_iff_ne.mpr c4
  simp only [Option.some.injEq, Prod.mk.injEq] at H
  obtain ⟨rfl, rfl, rfl, rfl⟩ := H
  go_enter Tryd.func37, Tryd.ntmps37
  go_wp2_with (first | ((with_reducible refine gate_dst (N := 2) rfl ?_); refine box_event ?hg (N := 2) ?hd (cs := #[.int .i64 0, .int .i64 0, .string (⟨#[]⟩ : ByteArray)]) (t := 23) ?hr ?_; (case hd => rfl); (case hg => rfl); (case hr => first | (go_simp; done) | (go_simp; rfl)); intro gb338 hg w27 hbox hb; have BK338 := Aside0.mk (hbox); have GW338 := bz hg; have GE338 := bz hg; replace HB := bs hb; clear hb hbox hg) | ((with_reducible refine gate_callee (f := 61) rfl ?_); refine gL (some 8) Tryd.func61 #[.string a0] ?_; (with_reducible refine (unisonref01_said.calls k a0 t339 t340 t341 _ A2.out).mono ?_); rintro e w28 ⟨rfl, hb⟩; refine ⟨_, rfl, ?_⟩; replace BK338 := bb BK338 hb; replace HB := bs hb; (try clear hb); (try clear hb2); (try clear hk); (try clear hi)) | ((with_reducible refine gate_dst (N := 4) rfl ?_); refine box_event ?hg (N := 4) ?hd (cs := #[.int .i64 0, .int .i64 0, .string (⟨#[]⟩ : ByteArray)]) (t := 23) ?hr ?_; (case hd => rfl); (case hg => rfl); (case hr => first | (go_simp; done) | (go_simp; rfl)); intro gb342 hg w29 hbox hb; have BK342 := Aside0.mk (hbox); have GW342 := bz hg; have GE342 := bz hg; have NB338_342 := bl BK338 hg; have NB342_338 := bg BK338 hg; replace BK338 := bb BK338 hb; replace HB := bs hb; clear hb hbox hg; have hnb30 := NB342_338.out; have hnc30 := NB338_342.out; have hcz31_0 : w29.cell? ⟨gb342, 0, none⟩ = some (.int .i64 0) := (blk_cell BK342.out 0).trans rfl; have hcz31_1 : w29.cell? ⟨gb342, 1, none⟩ = some (.int .i64 0) := (blk_cell BK342.out 1).trans rfl; have hcz31_2 : w29.cell? ⟨gb342, 2, none⟩ = some (.string (⟨#[]⟩ : ByteArray)) := (blk_cell BK342.out 2).trans rfl; have hfz31_0 := blk_frozen BK342.out 0; have hfz31_1 := blk_frozen BK342.out 1; have hfz31_2 := blk_frozen BK342.out 2) | ((with_reducible refine gate_store (t := 23) (p := 4) rfl ?_); refine store_event (t := 23) (p := 4) (v := ?vo_w32) (w1 := (((w29.setCell ⟨gb342, 0, none⟩ (.int .i64 t339)).setCell ⟨gb342, 1, none⟩ (.int .i64 t340)).setCell ⟨gb342, 2, none⟩ (.string t341))) ?hg ?ho ?hn ?hr ?_; (case ho => rfl); (case hg => rfl); (case hn => rfl); (case hr => first | (go_simp; done) | (go_simp; rfl)); intro w32 hw; replace BK338 := bw BK338 hw; replace BK342 : Aside0 (w32.heap[gb342]? = some (.cells #[.int .i64 t339, .int .i64 t340, .string t341] 23 (0, 0))) := bp BK342 hw; replace HB := bv hw; clear hw; have hcz33_0 : w32.cell? ⟨gb342, 0, none⟩ = some (.int .i64 t339) := (blk_cell BK342.out 0).trans rfl; have hcz33_1 : w32.cell? ⟨gb342, 1, none⟩ = some (.int .i64 t340) := (blk_cell BK342.out 1).trans rfl; have hcz33_2 : w32.cell? ⟨gb342, 2, none⟩ = some (.string t341) := (blk_cell BK342.out 2).trans rfl; have hfz33_0 := blk_frozen BK342.out 0; have hfz33_1 := blk_frozen BK342.out 1; have hfz33_2 := blk_frozen BK342.out 2) | ((with_reducible refine gate_callee (f := 35) rfl ?_); refine gL (some 11) Tryd.func35 #[.agg #[.int .i64 t339, .int .i64 t340, .string t341]] ?_; (with_reducible refine (unisonref01_Print.calls k t339 t340 t341 t343 t344 _ A3.out).mono ?_); rintro e w34 ⟨rfl, hb⟩; refine ⟨_, rfl, ?_⟩; replace BK338 := bb BK338 hb; replace BK342 := bb BK342 hb; replace HB := bs hb; (try clear hb); (try clear hb2); (try clear hk); (try clear hi); have hcz35_0 : w34.cell? ⟨gb338, 0, none⟩ = some (.int .i64 0) := (blk_cell BK338.out 0).trans rfl; have hcz35_1 : w34.cell? ⟨gb338, 1, none⟩ = some (.int .i64 0) := (blk_cell BK338.out 1).trans rfl; have hcz35_2 : w34.cell? ⟨gb338, 2, none⟩ = some (.string (⟨#[]⟩ : ByteArray)) := (blk_cell BK338.out 2).trans rfl; have hfz35_0 := blk_frozen BK338.out 0; have hfz35_1 := blk_frozen BK338.out 1; have hfz35_2 := blk_frozen BK338.out 2) | ((with_reducible refine gate_store (t := 23) (p := 2) rfl ?_); refine store_event (t := 23) (p := 2) (v := ?vo_w36) (w1 := (((w34.setCell ⟨gb338, 0, none⟩ (.int .i64 0)).setCell ⟨gb338, 1, none⟩ (.int .i64 0)).setCell ⟨gb338, 2, none⟩ (.string (⟨#[]⟩ : ByteArray)))) ?hg ?ho ?hn ?hr ?_; (case ho => rfl); (case hg => rfl); (case hn => rfl); (case hr => first | (go_simp; done) | (go_simp; rfl)); intro w36 hw; replace BK338 : Aside0 (w36.heap[gb338]? = some (.cells #[.int .i64 0, .int .i64 0, .string (⟨#[]⟩ : ByteArray)] 23 (0, 0))) := bp BK338 hw; replace BK342 := bw BK342 hw; replace HB := bv hw; clear hw))
  refine bodyPost_ret (results_ct rfl _ _ gb338 23 #[.int .i64 0, .int .i64 0, .string (⟨#[]⟩ : ByteArray)] (0, 0) _ rfl (by (with_reducible repeat (first | refine blk_drewN ?_ _ | refine blk_drew ?_ | refine blk_alloc ?_ _)); exact BK338.out) Tryd.underlying23 rfl (by kernel_rfl)) rfl ?_
  exact ⟨by first | (simp only [ByteArray.size_extract, Nat.min_self]; rfl) | rfl | (simp [errW_none, errW_some] <;> rfl) | (simp [*, errW_none, errW_some] <;> rfl), by repeat (first | (with_reducible first | exact HB.out | apply below_alloc | apply pw_below_drewN | apply below_drew1 | refine below_set ?_ GE338.out | refine below_set ?_ GE342.out) | exact HB.out)⟩
end Go.Proofs.YteehcopkljiikaaDoor.PA
end
