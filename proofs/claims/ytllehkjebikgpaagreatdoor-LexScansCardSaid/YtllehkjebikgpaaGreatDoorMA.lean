/- Several texts in one (merge.py): PFLexClassOf, PFLexIsName, PFSlicesIndexStringString, PFSlicesContainsStringString, PFLexIsWord, PFValueRight, PFValueTruth; no conditions beyond those in each theorem's head. -/
import Derived.Test.YtllehkjebikgpaaGreatDoorPAx0
import Derived.Test.YtllehkjebikgpaaGreatDoorPAxE
section
namespace Go.Proofs.YtllehkjebikgpaaGreatDoor.PA
open Go.RowKit Go.Proofs.YtllehkjebikgpaaGreatDoorW.PrintWords Go.Proofs.YtllehkjebikgpaaGreatDoorW.PrintLast Go.Proofs.YtllehkjebikgpaaGreatDoorW.PrintMore Go.Proofs.YtllehkjebikgpaaGreatDoorX
attribute [local go_sem] max2_int min2_int max_two min_two max_three min_three max_four min_four   -- for this text's walks alone
set_option linter.unusedVariables false
set_option linter.unusedSimpArgs false

/-! ### lex_classOf: function 7 -/
mutual
def lex_classOf.j0 : Nat → Int → Bool → Option (Int)
 | 0, _, _ => none
 | k + 1, x0, x3 => if x3 = true then (some 1) else (if x0 ≥ 48 then (lex_classOf.j1 k x0 (decide (x0 ≤ 57))) else (lex_classOf.j1 k x0 false))
def lex_classOf.j1 : Nat → Int → Bool → Option (Int)
 | 0, _, _ => none
 | k + 1, x0, x14 => if x14 = true then (some 2) else (if x0 ≥ 97 then (lex_classOf.j2 k x0 (decide (x0 ≤ 122))) else (lex_classOf.j2 k x0 false))
def lex_classOf.j2 : Nat → Int → Bool → Option (Int)
 | 0, _, _ => none
 | k + 1, x0, x21 => if x21 = true then (some 3) else (if x0 ≥ 65 then (if x0 ≤ 90 then (lex_classOf.j3 k x0 true) else (lex_classOf.j3 k x0 (x0 == 95))) else (lex_classOf.j3 k x0 (x0 == 95)))
def lex_classOf.j3 : Nat → Int → Bool → Option (Int)
 | 0, _, _ => none
 | k + 1, x0, x28 => if x28 = true then (some 4) else (if x0 = 58 then (some 5) else (if x0 = 39 then (some 6) else (if x0 = 45 then (some 7) else ((strings_IndexByte.f (⟨#[59, 44, 40, 41, 46, 42, 43, 47, 37, 61, 60, 62]⟩ : ByteArray) x0).bind fun t251 => (if t251 ≥ 0 then (some 8) else (some 0))))))
end
def lex_classOf.f (k : Nat) (a0 : Int) : Option (Int) := if a0 = 32 then (lex_classOf.j0 k a0 true) else (if a0 = 9 then (lex_classOf.j0 k a0 true) else (lex_classOf.j0 k a0 (a0 == 10)))
theorem lex_classOf.mono_l : ∀ k, (∀ y0 y1, LeO (lex_classOf.j0 k y0 y1) (lex_classOf.j0 (k + 1) y0 y1)) ∧ (∀ y0 y1, LeO (lex_classOf.j1 k y0 y1) (lex_classOf.j1 (k + 1) y0 y1)) ∧ (∀ y0 y1, LeO (lex_classOf.j2 k y0 y1) (lex_classOf.j2 (k + 1) y0 y1)) ∧ (∀ y0 y1, LeO (lex_classOf.j3 k y0 y1) (lex_classOf.j3 (k + 1) y0 y1))
 | 0 => ⟨fun _ _ r h => by simp [lex_classOf.j0] at h, fun _ _ r h => by simp [lex_classOf.j1] at h, fun _ _ r h => by simp [lex_classOf.j2] at h, fun _ _ r h => by simp [lex_classOf.j3] at h⟩
 | k + 1 => by
  obtain ⟨ih0, ih1, ih2, ih3⟩ := lex_classOf.mono_l k
  refine ⟨?_, ?_, ?_, ?_⟩
  ·
   intro y0 y1
   unfold lex_classOf.j0
   repeat' first
   | (with_reducible exact ih0 _ _)
   | (with_reducible exact ih1 _ _)
   | (with_reducible exact ih2 _ _)
   | (with_reducible exact ih3 _ _)
   | (with_reducible exact LeO.refl _)
   | (with_reducible exact LeO.none _)
   | (with_reducible refine LeO.ite ?_ ?_)
   | (with_reducible refine LeO.bind ?_ (fun _ => ?_))
   | exact ih0 _ _
   | exact ih1 _ _
   | exact ih2 _ _
   | exact ih3 _ _
   | exact LeO.none _
   | refine LeO.ite ?_ ?_
   | refine LeO.bind ?_ (fun _ => ?_)
  ·
   intro y0 y1
   unfold lex_classOf.j1
   repeat' first
   | (with_reducible exact ih0 _ _)
   | (with_reducible exact ih1 _ _)
   | (with_reducible exact ih2 _ _)
   | (with_reducible exact ih3 _ _)
   | (with_reducible exact LeO.refl _)
   | (with_reducible exact LeO.none _)
   | (with_reducible refine LeO.ite ?_ ?_)
   | (with_reducible refine LeO.bind ?_ (fun _ => ?_))
   | exact ih0 _ _
   | exact ih1 _ _
   | exact ih2 _ _
   | exact ih3 _ _
   | exact LeO.none _
   | refine LeO.ite ?_ ?_
   | refine LeO.bind ?_ (fun _ => ?_)
  ·
   intro y0 y1
   unfold lex_classOf.j2
   repeat' first
   | (with_reducible exact ih0 _ _)
   | (with_reducible exact ih1 _ _)
   | (with_reducible exact ih2 _ _)
   | (with_reducible exact ih3 _ _)
   | (with_reducible exact LeO.refl _)
   | (with_reducible exact LeO.none _)
   | (with_reducible refine LeO.ite ?_ ?_)
   | (with_reducible refine LeO.bind ?_ (fun _ => ?_))
   | exact ih0 _ _
   | exact ih1 _ _
   | exact ih2 _ _
   | exact ih3 _ _
   | exact LeO.none _
   | refine LeO.ite ?_ ?_
   | refine LeO.bind ?_ (fun _ => ?_)
  ·
   intro y0 y1
   unfold lex_classOf.j3
   repeat' first
   | (with_reducible exact ih0 _ _)
   | (with_reducible exact ih1 _ _)
   | (with_reducible exact ih2 _ _)
   | (with_reducible exact ih3 _ _)
   | (with_reducible exact LeO.refl _)
   | (with_reducible exact LeO.none _)
   | (with_reducible refine LeO.ite ?_ ?_)
   | (with_reducible refine LeO.bind ?_ (fun _ => ?_))
   | exact ih0 _ _
   | exact ih1 _ _
   | exact ih2 _ _
   | exact ih3 _ _
   | exact LeO.none _
   | refine LeO.ite ?_ ?_
   | refine LeO.bind ?_ (fun _ => ?_)
theorem lex_classOf.mono : ∀ a0 k, LeO (lex_classOf.f k a0) (lex_classOf.f (k + 1) a0) := by
 intro a0 k
 obtain ⟨ih0, ih1, ih2, ih3⟩ := lex_classOf.mono_l k
 unfold lex_classOf.f
 repeat' first
   | (with_reducible exact ih0 _ _)
   | (with_reducible exact ih1 _ _)
   | (with_reducible exact ih2 _ _)
   | (with_reducible exact ih3 _ _)
   | (with_reducible exact LeO.refl _)
   | (with_reducible exact LeO.none _)
   | (with_reducible refine LeO.ite ?_ ?_)
   | (with_reducible refine LeO.bind ?_ (fun _ => ?_))
   | exact ih0 _ _
   | exact ih1 _ _
   | exact ih2 _ _
   | exact ih3 _ _
   | exact LeO.none _
   | refine LeO.ite ?_ ?_
   | refine LeO.bind ?_ (fun _ => ?_)
set_option maxHeartbeats 8000000 in
set_option maxRecDepth 100000 in
theorem lex_classOf.calls (k : Nat) (a0 : Int) (r : Int) (w : World) (h : lex_classOf.f k a0 = some r) :
  Calls Tryz.prog 7 #[.int .u8 a0] w fun e w' => e = .returned (.int .i64 r) ∧ Drawn0 w w' := by
 have H : (if a0 = 32 then (lex_classOf.j0 k a0 true) else (if a0 = 9 then (lex_classOf.j0 k a0 true) else (lex_classOf.j0 k a0 (a0 == 10)))) = some r := h; clear h; have HC2 := Aside0.mk H; clear H
 go_enter Tryz.func7, Tryz.ntmps7
 go_upto_region 1 with (fail)
 go_cut [3] (fun v3 wc => ∃ (kq : Nat) (x3_1 : Bool), v3 = .bool x3_1 ∧ Aside0 (lex_classOf.j0 kq a0 x3_1 = some r) ∧ Aside0 (kq ≤ k) ∧ Drawn0 w wc)
 case first =>
  have H := HC2.out; clear HC2
  by_cases c3 : a0 = 32
  ·
   rw [if_pos c3] at H
   have c3b0 : (a0 == 32) = true := beq_iff_eq.mpr c3; have c3b1 : (a0 != 32) = false := bne_eq_false_iff_eq.mpr c3; clear c3
   (first | rw [c3b0] | (simp only [i64_w, i32_w, u8_w, u32_w]; rw [c3b0]) | rw [c3b1] | skip)
   have H' := Aside0.mk H
   clear H
   go_wp2
   go_meet
   case rel => exact ⟨_, (true), (by first | rfl | (simp; done) | (simp [*]; done)), H', ⟨by first | omega | exact Nat.le_refl _⟩, by repeat (first | exact Drawn0.refl _ | apply Drawn0.step)⟩
  ·
   rw [if_neg c3] at H
   have c3b0 : (a0 == 32) = false := beq_eq_false_iff_ne.mpr c3; have c3b1 : (a0 != 32) = true := bne_iff_ne.mpr c3
   (first | rw [c3b0] | (simp only [i64_w, i32_w, u8_w, u32_w]; rw [c3b0]) | rw [c3b1] | skip)
   by_cases c4 : a0 = 9
   ·
    rw [if_pos c4] at H
    have c4b0 : (a0 == 9) = true := beq_iff_eq.mpr c4; have c4b1 : (a0 != 9) = false := bne_eq_false_iff_eq.mpr c4; clear c4
    have H' := Aside0.mk H
    clear H
    go_wp2
    go_meet
    case rel => exact ⟨_, (true), (by first | rfl | (simp; done) | (simp [*]; done)), H', ⟨by first | omega | exact Nat.le_refl _⟩, by repeat (first | exact Drawn0.refl _ | apply Drawn0.step)⟩
   ·
    rw [if_neg c4] at H
    have c4b0 : (a0 == 9) = false := beq_eq_false_iff_ne.mpr c4; have c4b1 : (a0 != 9) = true := bne_iff_ne.mpr c4
    have H' := Aside0.mk H
    clear H
    go_wp2
    go_meet
    case rel => exact ⟨_, ((a0 == 10)), (by first | rfl | (simp; done) | (simp [*]; done)), H', ⟨by first | omega | exact Nat.le_refl _⟩, by repeat (first | exact Drawn0.refl _ | apply Drawn0.step)⟩
 case rest =>
  clear HC2; (try clear p2); (try clear c3); (try clear c3b0); (try clear c3b1); (try clear c4); (try clear c4b0); (try clear c4b1)
  obtain ⟨kq, x3_1, rfl, HA, HJ1, ⟨mc1, rfl⟩⟩ := hcut
  cases kq with
  | zero => exact absurd HA.out (by simp [lex_classOf.j0])
  | succ kj1 =>
   have H := HA.out; clear HA
   simp only [lex_classOf.j0] at H
   by_cases c5 : x3_1 = true
   ·
    subst c5
    have H1 : (some 1) = some r := by rw [if_pos rfl] at H; exact H
    clear H; have H := H1; clear H1
    obtain rfl := Option.some.inj H
    go_wp2
    go_ret
    exact ⟨by first | rfl | (simp; done) | (simp [*]; done), by repeat (first | exact Drawn0.refl _ | apply Drawn0.step)⟩
   ·
    replace c5 := Bool.eq_false_iff.mpr c5
    subst c5
    have H1 : (if a0 ≥ 48 then (lex_classOf.j1 kj1 a0 (decide (a0 ≤ 57))) else (lex_classOf.j1 kj1 a0 false)) = some r := by rw [if_neg (show ¬ (false = true) by decide)] at H; exact H
    clear H; have H := H1; clear H1; have HC6 := Aside0.mk H; clear H
    go_upto_region 3 with (fail)
    go_cut [14] (fun v14 wc => ∃ (kq : Nat) (x14_5 : Bool), v14 = .bool x14_5 ∧ Aside0 (lex_classOf.j1 kq a0 x14_5 = some r) ∧ Aside0 (kq ≤ kj1) ∧ Drawn0 w wc)
    case first =>
     have H := HC6.out; clear HC6
     by_cases c7 : a0 ≥ 48
     ·
      rw [if_pos c7] at H
      have c7b0 : decide (48 ≤ a0) = true := decide_eq_true c7; clear c7
      (first | rw [c7b0] | (simp only [i64_w, i32_w, u8_w, u32_w]; rw [c7b0]) | rw [c7b1] | skip)
      have H' := Aside0.mk H
      clear H
      go_wp2
      go_meet
      case rel => exact ⟨_, (decide (a0 ≤ 57)), (by first | rfl | (simp; done) | (simp [*]; done)), H', ⟨by have := HJ1.out; first | omega | exact Nat.le_refl _⟩, by repeat (first | exact Drawn0.refl _ | apply Drawn0.step)⟩
     ·
      rw [if_neg c7] at H
      have c7b0 : decide (48 ≤ a0) = false := decide_eq_false c7; clear c7
      (first | rw [c7b0] | (simp only [i64_w, i32_w, u8_w, u32_w]; rw [c7b0]) | rw [c7b1] | skip)
      have H' := Aside0.mk H
      clear H
      go_wp2
      go_meet
      case rel => exact ⟨_, (false), (by first | rfl | (simp; done) | (simp [*]; done)), H', ⟨by have := HJ1.out; first | omega | exact Nat.le_refl _⟩, by repeat (first | exact Drawn0.refl _ | apply Drawn0.step)⟩
    case rest =>
     clear HC6; (try clear c1); (try clear p2); (try clear c3); (try clear c3b0); (try clear c3b1); (try clear c4); (try clear c4b0); (try clear c4b1); (try clear c5); (try clear c7); (try clear c7b0); (try clear c7b1); (try clear p2)
     obtain ⟨kq, x14_5, rfl, HA, HJ5, ⟨mc5, rfl⟩⟩ := hcut
     cases kq with
     | zero => exact absurd HA.out (by simp [lex_classOf.j1])
     | succ kj5 =>
      have H := HA.out; clear HA
      simp only [lex_classOf.j1] at H
      by_cases c8 : x14_5 = true
      ·
       subst c8
       have H1 : (some 2) = some r := by rw [if_pos rfl] at H; exact H
       clear H; have H := H1; clear H1
       obtain rfl := Option.some.inj H
       go_wp2
       go_ret
       exact ⟨by first | rfl | (simp; done) | (simp [*]; done), by repeat (first | exact Drawn0.refl _ | apply Drawn0.step)⟩
      ·
       replace c8 := Bool.eq_false_iff.mpr c8
       subst c8
       have H1 : (if a0 ≥ 97 then (lex_classOf.j2 kj5 a0 (decide (a0 ≤ 122))) else (lex_classOf.j2 kj5 a0 false)) = some r := by rw [if_neg (show ¬ (false = true) by decide)] at H; exact H
       clear H; have H := H1; clear H1; have HC9 := Aside0.mk H; clear H
       go_upto_region 5 with (fail)
       go_cut [21] (fun v21 wc => ∃ (kq : Nat) (x21_8 : Bool), v21 = .bool x21_8 ∧ Aside0 (lex_classOf.j2 kq a0 x21_8 = some r) ∧ Aside0 (kq ≤ kj5) ∧ Drawn0 w wc)
       case first =>
        have H := HC9.out; clear HC9
        by_cases c10 : a0 ≥ 97
        ·
         rw [if_pos c10] at H
         have c10b0 : decide (97 ≤ a0) = true := decide_eq_true c10; clear c10
         (first | rw [c10b0] | (simp only [i64_w, i32_w, u8_w, u32_w]; rw [c10b0]) | rw [c10b1] | skip)
         have H' := Aside0.mk H
         clear H
         go_wp2
         go_meet
         case rel => exact ⟨_, (decide (a0 ≤ 122)), (by first | rfl | (simp; done) | (simp [*]; done)), H', ⟨by have := HJ1.out; have := HJ5.out; first | omega | exact Nat.le_refl _⟩, by repeat (first | exact Drawn0.refl _ | apply Drawn0.step)⟩
        ·
         rw [if_neg c10] at H
         have c10b0 : decide (97 ≤ a0) = false := decide_eq_false c10; clear c10
         (first | rw [c10b0] | (simp only [i64_w, i32_w, u8_w, u32_w]; rw [c10b0]) | rw [c10b1] | skip)
         have H' := Aside0.mk H
         clear H
         go_wp2
         go_meet
         case rel => exact ⟨_, (false), (by first | rfl | (simp; done) | (simp [*]; done)), H', ⟨by have := HJ1.out; have := HJ5.out; first | omega | exact Nat.le_refl _⟩, by repeat (first | exact Drawn0.refl _ | apply Drawn0.step)⟩
       case rest =>
        clear HC9; (try clear c1); (try clear p2); (try clear c3); (try clear c3b0); (try clear c3b1); (try clear c4); (try clear c4b0); (try clear c4b1); (try clear c5); (try clear c7); (try clear c7b0); (try clear c7b1); (try clear c8); (try clear c10); (try clear c10b0); (try clear c10b1); (try clear p2)
        obtain ⟨kq, x21_8, rfl, HA, HJ8, ⟨mc8, rfl⟩⟩ := hcut
        cases kq with
        | zero => exact absurd HA.out (by simp [lex_classOf.j2])
        | succ kj8 =>
         have H := HA.out; clear HA
         simp only [lex_classOf.j2] at H
         by_cases c11 : x21_8 = true
         ·
          subst c11
          have H1 : (some 3) = some r := by rw [if_pos rfl] at H; exact H
          clear H; have H := H1; clear H1
          obtain rfl := Option.some.inj H
          go_wp2
          go_ret
          exact ⟨by first | rfl | (simp; done) | (simp [*]; done), by repeat (first | exact Drawn0.refl _ | apply Drawn0.step)⟩
         ·
          replace c11 := Bool.eq_false_iff.mpr c11
          subst c11
          have H1 : (if a0 ≥ 65 then (if a0 ≤ 90 then (lex_classOf.j3 kj8 a0 true) else (lex_classOf.j3 kj8 a0 (a0 == 95))) else (lex_classOf.j3 kj8 a0 (a0 == 95))) = some r := by rw [if_neg (show ¬ (false = true) by decide)] at H; exact H
          clear H; have H := H1; clear H1; have HC12 := Aside0.mk H; clear H
          go_upto_region 7 with (fail)
          go_cut [28] (fun v28 wc => ∃ (kq : Nat) (x28_11 : Bool), v28 = .bool x28_11 ∧ Aside0 (lex_classOf.j3 kq a0 x28_11 = some r) ∧ Aside0 (kq ≤ kj8) ∧ Drawn0 w wc)
          case first =>
           have H := HC12.out; clear HC12
           by_cases c13 : a0 ≥ 65
           ·
            rw [if_pos c13] at H
            have c13b0 : decide (65 ≤ a0) = true := decide_eq_true c13; clear c13
            (first | rw [c13b0] | (simp only [i64_w, i32_w, u8_w, u32_w]; rw [c13b0]) | rw [c13b1] | skip)
            by_cases c14 : a0 ≤ 90
            ·
             rw [if_pos c14] at H
             have c14b0 : decide (a0 ≤ 90) = true := decide_eq_true c14; clear c14
             have H' := Aside0.mk H
             clear H
             go_wp2
             go_meet
             case rel => exact ⟨_, (true), (by first | rfl | (simp; done) | (simp [*]; done)), H', ⟨by have := HJ1.out; have := HJ5.out; have := HJ8.out; first | omega | exact Nat.le_refl _⟩, by repeat (first | exact Drawn0.refl _ | apply Drawn0.step)⟩
            ·
             rw [if_neg c14] at H
             have c14b0 : decide (a0 ≤ 90) = false := decide_eq_false c14; clear c14
             have H' := Aside0.mk H
             clear H
             go_wp2
             go_meet
             case rel => exact ⟨_, ((a0 == 95)), (by first | rfl | (simp; done) | (simp [*]; done)), H', ⟨by have := HJ1.out; have := HJ5.out; have := HJ8.out; first | omega | exact Nat.le_refl _⟩, by repeat (first | exact Drawn0.refl _ | apply Drawn0.step)⟩
           ·
            rw [if_neg c13] at H
            have c13b0 : decide (65 ≤ a0) = false := decide_eq_false c13; clear c13
            (first | rw [c13b0] | (simp only [i64_w, i32_w, u8_w, u32_w]; rw [c13b0]) | rw [c13b1] | skip)
            have H' := Aside0.mk H
            clear H
            go_wp2
            go_meet
            case rel => exact ⟨_, ((a0 == 95)), (by first | rfl | (simp; done) | (simp [*]; done)), H', ⟨by have := HJ1.out; have := HJ5.out; have := HJ8.out; first | omega | exact Nat.le_refl _⟩, by repeat (first | exact Drawn0.refl _ | apply Drawn0.step)⟩
          case rest =>
           clear HC12; (try clear c1); (try clear p2); (try clear c3); (try clear c3b0); (try clear c3b1); (try clear c4); (try clear c4b0); (try clear c4b1); (try clear c5); (try clear c7); (try clear c7b0); (try clear c7b1); (try clear c8); (try clear c10); (try clear c10b0); (try clear c10b1); (try clear c11); (try clear c13); (try clear c13b0); (try clear c13b1); (try clear c14); (try clear c14b0); (try clear p2)
           obtain ⟨kq, x28_11, rfl, HA, HJ11, ⟨mc11, rfl⟩⟩ := hcut
           cases kq with
           | zero => exact absurd HA.out (by simp [lex_classOf.j3])
           | succ kj11 =>
            have H := HA.out; clear HA
            simp only [lex_classOf.j3] at H
            by_cases c15 : x28_11 = true
            ·
             subst c15
             have H1 : (some 4) = some r := by rw [if_pos rfl] at H; exact H
             clear H; have H := H1; clear H1
             obtain rfl := Option.some.inj H
             go_wp2
             go_ret
             exact ⟨by first | rfl | (simp; done) | (simp [*]; done), by repeat (first | exact Drawn0.refl _ | apply Drawn0.step)⟩
            ·
             replace c15 := Bool.eq_false_iff.mpr c15
             subst c15
             have H1 : (if a0 = 58 then (some 5) else (if a0 = 39 then (some 6) else (if a0 = 45 then (some 7) else ((strings_IndexByte.f (⟨#[59, 44, 40, 41, 46, 42, 43, 47, 37, 61, 60, 62]⟩ : ByteArray) a0).bind fun t251 => (if t251 ≥ 0 then (some 8) else (some 0)))))) = some r := by rw [if_neg (show ¬ (false = true) by decide)] at H; exact H
             clear H; have H := H1; clear H1
             by_cases c16 : a0 = 58
             ·
              rw [if_pos c16] at H
              have c16b0 : (a0 == 58) = true := beq_iff_eq.mpr c16; have c16b1 : (a0 != 58) = false := bne_eq_false_iff_eq.mpr c16; clear c16
              obtain rfl := Option.some.inj H
              go_wp2
              go_ret
              exact ⟨by first | rfl | (simp; done) | (simp [*]; done), by repeat (first | exact Drawn0.refl _ | apply Drawn0.step)⟩
             ·
              rw [if_neg c16] at H
              have c16b0 : (a0 == 58) = false := beq_eq_false_iff_ne.mpr c16; have c16b1 : (a0 != 58) = true := bne_iff_ne.mpr c16
              by_cases c17 : a0 = 39
              ·
               rw [if_pos c17] at H
               have c17b0 : (a0 == 39) = true := beq_iff_eq.mpr c17; have c17b1 : (a0 != 39) = false := bne_eq_false_iff_eq.mpr c17; clear c17
               obtain rfl := Option.some.inj H
               go_wp2
               go_ret
               exact ⟨by first | rfl | (simp; done) | (simp [*]; done), by repeat (first | exact Drawn0.refl _ | apply Drawn0.step)⟩
              ·
               rw [if_neg c17] at H
               have c17b0 : (a0 == 39) = false := beq_eq_false_iff_ne.mpr c17; have c17b1 : (a0 != 39) = true := bne_iff_ne.mpr c17
               by_cases c18 : a0 = 45
               ·
                rw [if_pos c18] at H
                have c18b0 : (a0 == 45) = true := beq_iff_eq.mpr c18; have c18b1 : (a0 != 45) = false := bne_eq_false_iff_eq.mpr c18; clear c18
                obtain rfl := Option.some.inj H
                go_wp2
                go_ret
                exact ⟨by first | rfl | (simp; done) | (simp [*]; done), by repeat (first | exact Drawn0.refl _ | apply Drawn0.step)⟩
               ·
                rw [if_neg c18] at H
                have c18b0 : (a0 == 45) = false := beq_eq_false_iff_ne.mpr c18; have c18b1 : (a0 != 45) = true := bne_iff_ne.mpr c18; replace H := Option.bind_eq_some_iff.mp H
                obtain ⟨t251, A190, H⟩ := H
                replace H : (if t251 ≥ 0 then (some 8) else (some 0)) = some r := H; have A19 := Aside0.mk A190; clear A190
                by_cases c20 : t251 ≥ 0
                ·
                 rw [if_pos c20] at H
                 have c20b0 : decide (0 ≤ t251) = true := decide_eq_true c20; clear c20
                 obtain rfl := Option.some.inj H
                 go_wp2_with (first | ((with_reducible refine gate_callee (f := 9) rfl ?_); refine gL (some 50) Tryz.func9 #[.string (⟨#[59, 44, 40, 41, 46, 42, 43, 47, 37, 61, 60, 62]⟩ : ByteArray), .int .u8 a0] ?_; (with_reducible refine (strings_IndexByte.calls (⟨#[59, 44, 40, 41, 46, 42, 43, 47, 37, 61, 60, 62]⟩ : ByteArray) a0 t251 _ A19.out).mono ?_); rintro e w' ⟨rfl, ⟨nd, rfl⟩⟩; refine ⟨_, rfl, ?_⟩))
                 go_ret
                 exact ⟨by first | rfl | (simp; done) | (simp [*]; done), by repeat (first | exact Drawn0.refl _ | apply Drawn0.step)⟩
                ·
                 rw [if_neg c20] at H
                 have c20b0 : decide (0 ≤ t251) = false := decide_eq_false c20; clear c20
                 obtain rfl := Option.some.inj H
                 go_wp2_with (first | ((with_reducible refine gate_callee (f := 9) rfl ?_); refine gL (some 50) Tryz.func9 #[.string (⟨#[59, 44, 40, 41, 46, 42, 43, 47, 37, 61, 60, 62]⟩ : ByteArray), .int .u8 a0] ?_; (with_reducible refine (strings_IndexByte.calls (⟨#[59, 44, 40, 41, 46, 42, 43, 47, 37, 61, 60, 62]⟩ : ByteArray) a0 t251 _ A19.out).mono ?_); rintro e w' ⟨rfl, ⟨nd, rfl⟩⟩; refine ⟨_, rfl, ?_⟩))
                 go_ret
                 exact ⟨by first | rfl | (simp; done) | (simp [*]; done), by repeat (first | exact Drawn0.refl _ | apply Drawn0.step)⟩
end Go.Proofs.YtllehkjebikgpaaGreatDoor.PA
end
section
namespace Go.Proofs.YtllehkjebikgpaaGreatDoor.PA
open Go.RowKit Go.Proofs.YtllehkjebikgpaaGreatDoorW.PrintWords Go.Proofs.YtllehkjebikgpaaGreatDoorW.PrintLast Go.Proofs.YtllehkjebikgpaaGreatDoorW.PrintMore Go.Proofs.YtllehkjebikgpaaGreatDoorX
attribute [local go_sem] max2_int min2_int max_two min_two max_three min_three max_four min_four   -- for this text's walks alone
set_option linter.unusedVariables false
set_option linter.unusedSimpArgs false

/-! ### lex_IsName: function 18 -/
def lex_IsName.l0 : Nat → ByteArray → Int → Int → Option (Bool)
 | 0, _, _, _ => none
 | k + 1, x0, x6, x7 => if x7 < x6 then (if 0 ≤ x7 then (if x7 < (x0.size : Int) then ((lex_classOf.f k (bt x0 x7)).bind fun t261 => (if t261 = 3 then (lex_IsName.l0 k x0 x6 (wrap64 (x7 + 1))) else (if x7 = 0 then (some false) else (if t261 = 2 then (lex_IsName.l0 k x0 x6 (wrap64 (x7 + 1))) else (if (bt x0 x7) = 95 then (lex_IsName.l0 k x0 x6 (wrap64 (x7 + 1))) else (some false)))))) else (none)) else (none)) else (if x0.toList = ([] : List UInt8) then (some false) else (some (decide ((x0.size : Int) ≤ 16))))
def lex_IsName.f (k : Nat) (a0 : ByteArray) : Option (Bool) := lex_IsName.l0 k a0 (a0.size : Int) 0
theorem lex_IsName.mono_l : ∀ k, (∀ y0 y1 y2, LeO (lex_IsName.l0 k y0 y1 y2) (lex_IsName.l0 (k + 1) y0 y1 y2))
 | 0 => fun _ _ _ r h => by simp [lex_IsName.l0] at h
 | k + 1 => by
  have ih0 := lex_IsName.mono_l k
  ·
   intro y0 y1 y2
   unfold lex_IsName.l0
   repeat' first
   | (with_reducible exact ih0 _ _ _)
   | (with_reducible exact lex_classOf.mono _ _)
   | (with_reducible exact LeO.refl _)
   | (with_reducible exact LeO.none _)
   | (with_reducible refine LeO.ite ?_ ?_)
   | (with_reducible refine LeO.bind ?_ (fun _ => ?_))
   | exact ih0 _ _ _
   | exact lex_classOf.mono _ _
   | exact LeO.none _
   | refine LeO.ite ?_ ?_
   | refine LeO.bind ?_ (fun _ => ?_)
theorem lex_IsName.mono : ∀ a0 k, LeO (lex_IsName.f k a0) (lex_IsName.f (k + 1) a0) := by
 intro a0 k
 have ih0 := lex_IsName.mono_l k
 unfold lex_IsName.f
 repeat' first
   | (with_reducible exact ih0 _ _ _)
   | (with_reducible exact lex_classOf.mono _ _)
   | (with_reducible exact LeO.refl _)
   | (with_reducible exact LeO.none _)
   | (with_reducible refine LeO.ite ?_ ?_)
   | (with_reducible refine LeO.bind ?_ (fun _ => ?_))
   | exact ih0 _ _ _
   | exact lex_classOf.mono _ _
   | exact LeO.none _
   | refine LeO.ite ?_ ?_
   | refine LeO.bind ?_ (fun _ => ?_)
set_option maxHeartbeats 8000000 in
set_option maxRecDepth 100000 in
theorem lex_IsName.calls (k : Nat) (a0 : ByteArray) (r : Bool) (w : World) (h : lex_IsName.f k a0 = some r) :
  Calls Tryz.prog 18 #[.string a0] w fun e w' => e = .returned (.bool r) ∧ Drawn0 w w' := by
 have H : (lex_IsName.l0 k a0 (a0.size : Int) 0) = some r := h; clear h
 have H' := Aside0.mk H
 clear H
 go_enter Tryz.func18, Tryz.ntmps18
 go_wp2
 go_loopg [7] k (fun kq v7 w' => ∃ (x7_1 : Int), v7 = .int .i64 x7_1 ∧ Aside0 (lex_IsName.l0 kq a0 (a0.size : Int) x7_1 = some r) ∧ Aside0 (kq ≤ k) ∧ Drawn0 w w')
 case atStart => exact ⟨(0), (by first | rfl | (simp; done) | (simp [*]; done)), H', ⟨Nat.le_refl _⟩, by repeat (first | exact Drawn0.refl _ | apply Drawn0.step)⟩
 case round =>
  clear H'
  (try clear c1)
  obtain ⟨x7_1, rfl, HA, HK1, ⟨m1, rfl⟩⟩ := hrel
  cases gk with
  | zero => exact absurd HA.out (by simp [lex_IsName.l0])
  | succ k1 =>
   have H := HA.out; clear HA
   simp only [lex_IsName.l0] at H
   by_cases c2 : x7_1 < (a0.size : Int)
   ·
    rw [if_pos c2] at H
    have c2b0 : decide (x7_1 < (a0.size : Int)) = true := decide_eq_true c2; clear c2
    by_cases c3 : 0 ≤ x7_1
    ·
     rw [if_pos c3] at H
     have c3b0 : decide (0 ≤ x7_1) = true := decide_eq_true c3; clear c3
     by_cases c4 : x7_1 < (a0.size : Int)
     ·
      rw [if_pos c4] at H
      have c4b0 : decide (x7_1 < (a0.size : Int)) = true := decide_eq_true c4; clear c4; replace H := Option.bind_eq_some_iff.mp H
      obtain ⟨t261, A60, H⟩ := H
      replace H : (if t261 = 3 then (lex_IsName.l0 k1 a0 (a0.size : Int) (wrap64 (x7_1 + 1))) else (if x7_1 = 0 then (some false) else (if t261 = 2 then (lex_IsName.l0 k1 a0 (a0.size : Int) (wrap64 (x7_1 + 1))) else (if (bt a0 x7_1) = 95 then (lex_IsName.l0 k1 a0 (a0.size : Int) (wrap64 (x7_1 + 1))) else (some false))))) = some r := H; have A6 := Aside0.mk A60; clear A60
      by_cases c7 : t261 = 3
      ·
       rw [if_pos c7] at H
       have c7b0 : (t261 == 3) = true := beq_iff_eq.mpr c7; have c7b1 : (t261 != 3) = false := bne_eq_false_iff_eq.mpr c7; clear c7
       have H' := Aside0.mk H
       clear H; have p5 : 0 ≤ (x7_1 : Int) := of_decide_eq_true (by first | (with_reducible assumption) | assumption); have q5 : x7_1 < (a0.size : Int) := of_decide_eq_true (by first | (with_reducible assumption) | assumption); have hx5 := bt_at a0 x7_1; replace p5 := eq_true p5; replace q5 := eq_true q5
       go_wp2_with (first | ((with_reducible refine gate_callee (f := 7) rfl ?_); refine gL (some 13) Tryz.func7 #[.int .u8 (bt a0 x7_1)] ?_; (with_reducible refine (lex_classOf.calls k1 (bt a0 x7_1) t261 _ A6.out).mono ?_); rintro e w' ⟨rfl, ⟨nd, rfl⟩⟩; refine ⟨_, rfl, ?_⟩))
       go_roundg k1
       case measure => have := HK1.out; omega
       case rel => exact ⟨(wrap64 (x7_1 + 1)), (by first | rfl | (simp; done) | (simp [*]; done)), H', ⟨by have := HK1.out; omega⟩, by repeat (first | exact Drawn0.refl _ | apply Drawn0.step)⟩
      ·
       rw [if_neg c7] at H
       have c7b0 : (t261 == 3) = false := beq_eq_false_iff_ne.mpr c7; have c7b1 : (t261 != 3) = true := bne_iff_ne.mpr c7
       by_cases c8 : x7_1 = 0
       ·
        rw [if_pos c8] at H
        have c8b0 : (x7_1 == 0) = true := beq_iff_eq.mpr c8; have c8b1 : (x7_1 != 0) = false := bne_eq_false_iff_eq.mpr c8; clear c8
        obtain rfl := Option.some.inj H
        have p5 : 0 ≤ (x7_1 : Int) := of_decide_eq_true (by first | (with_reducible assumption) | assumption); have q5 : x7_1 < (a0.size : Int) := of_decide_eq_true (by first | (with_reducible assumption) | assumption); have hx5 := bt_at a0 x7_1; replace p5 := eq_true p5; replace q5 := eq_true q5
        go_wp2_with (first | ((with_reducible refine gate_callee (f := 7) rfl ?_); refine gL (some 13) Tryz.func7 #[.int .u8 (bt a0 x7_1)] ?_; (with_reducible refine (lex_classOf.calls k1 (bt a0 x7_1) t261 _ A6.out).mono ?_); rintro e w' ⟨rfl, ⟨nd, rfl⟩⟩; refine ⟨_, rfl, ?_⟩))
        go_ret
        exact ⟨by first | rfl | (simp; done) | (simp [*]; done), by repeat (first | exact Drawn0.refl _ | apply Drawn0.step)⟩
       ·
        rw [if_neg c8] at H
        have c8b0 : (x7_1 == 0) = false := beq_eq_false_iff_ne.mpr c8; have c8b1 : (x7_1 != 0) = true := bne_iff_ne.mpr c8
        by_cases c9 : t261 = 2
        ·
         rw [if_pos c9] at H
         have c9b0 : (t261 == 2) = true := beq_iff_eq.mpr c9; have c9b1 : (t261 != 2) = false := bne_eq_false_iff_eq.mpr c9; clear c9
         have H' := Aside0.mk H
         clear H; have p5 : 0 ≤ (x7_1 : Int) := of_decide_eq_true (by first | (with_reducible assumption) | assumption); have q5 : x7_1 < (a0.size : Int) := of_decide_eq_true (by first | (with_reducible assumption) | assumption); have hx5 := bt_at a0 x7_1; replace p5 := eq_true p5; replace q5 := eq_true q5
         go_wp2_with (first | ((with_reducible refine gate_callee (f := 7) rfl ?_); refine gL (some 13) Tryz.func7 #[.int .u8 (bt a0 x7_1)] ?_; (with_reducible refine (lex_classOf.calls k1 (bt a0 x7_1) t261 _ A6.out).mono ?_); rintro e w' ⟨rfl, ⟨nd, rfl⟩⟩; refine ⟨_, rfl, ?_⟩))
         go_roundg k1
         case measure => have := HK1.out; omega
         case rel => exact ⟨(wrap64 (x7_1 + 1)), (by first | rfl | (simp; done) | (simp [*]; done)), H', ⟨by have := HK1.out; omega⟩, by repeat (first | exact Drawn0.refl _ | apply Drawn0.step)⟩
        ·
         rw [if_neg c9] at H
         have c9b0 : (t261 == 2) = false := beq_eq_false_iff_ne.mpr c9; have c9b1 : (t261 != 2) = true := bne_iff_ne.mpr c9
         by_cases c11 : (bt a0 x7_1) = 95
         ·
          rw [if_pos c11] at H
          have c11b0 : ((bt a0 x7_1) == 95) = true := beq_iff_eq.mpr c11; have c11b1 : ((bt a0 x7_1) != 95) = false := bne_eq_false_iff_eq.mpr c11; clear c11
          have H' := Aside0.mk H
          clear H; have p5 : 0 ≤ (x7_1 : Int) := of_decide_eq_true (by first | (with_reducible assumption) | assumption); have q5 : x7_1 < (a0.size : Int) := of_decide_eq_true (by first | (with_reducible assumption) | assumption); have hx5 := bt_at a0 x7_1; replace p5 := eq_true p5; replace q5 := eq_true q5
          go_wp2_with (first | ((with_reducible refine gate_callee (f := 7) rfl ?_); refine gL (some 13) Tryz.func7 #[.int .u8 (bt a0 x7_1)] ?_; (with_reducible refine (lex_classOf.calls k1 (bt a0 x7_1) t261 _ A6.out).mono ?_); rintro e w' ⟨rfl, ⟨nd, rfl⟩⟩; refine ⟨_, rfl, ?_⟩; have p10 : 0 ≤ (x7_1 : Int) := of_decide_eq_true (by first | (with_reducible assumption) | assumption); have q10 : x7_1 < (a0.size : Int) := of_decide_eq_true (by first | (with_reducible assumption) | assumption); have hx10 := bt_at a0 x7_1; replace p10 := eq_true p10; replace q10 := eq_true q10))
          go_roundg k1
          case measure => have := HK1.out; omega
          case rel => exact ⟨(wrap64 (x7_1 + 1)), (by first | rfl | (simp; done) | (simp [*]; done)), H', ⟨by have := HK1.out; omega⟩, by repeat (first | exact Drawn0.refl _ | apply Drawn0.step)⟩
         ·
          rw [if_neg c11] at H
          have c11b0 : ((bt a0 x7_1) == 95) = false := beq_eq_false_iff_ne.mpr c11; have c11b1 : ((bt a0 x7_1) != 95) = true := bne_iff_ne.mpr c11
          obtain rfl := Option.some.inj H
          have p5 : 0 ≤ (x7_1 : Int) := of_decide_eq_true (by first | (with_reducible assumption) | assumption); have q5 : x7_1 < (a0.size : Int) := of_decide_eq_true (by first | (with_reducible assumption) | assumption); have hx5 := bt_at a0 x7_1; replace p5 := eq_true p5; replace q5 := eq_true q5
          go_wp2_with (first | ((with_reducible refine gate_callee (f := 7) rfl ?_); refine gL (some 13) Tryz.func7 #[.int .u8 (bt a0 x7_1)] ?_; (with_reducible refine (lex_classOf.calls k1 (bt a0 x7_1) t261 _ A6.out).mono ?_); rintro e w' ⟨rfl, ⟨nd, rfl⟩⟩; refine ⟨_, rfl, ?_⟩; have p10 : 0 ≤ (x7_1 : Int) := of_decide_eq_true (by first | (with_reducible assumption) | assumption); have q10 : x7_1 < (a0.size : Int) := of_decide_eq_true (by first | (with_reducible assumption) | assumption); have hx10 := bt_at a0 x7_1; replace p10 := eq_true p10; replace q10 := eq_true q10))
          go_ret
          exact ⟨by first | rfl | (simp; done) | (simp [*]; done), by repeat (first | exact Drawn0.refl _ | apply Drawn0.step)⟩
     ·
      rw [if_neg c4] at H
      exact absurd H (by simp)
    ·
     rw [if_neg c3] at H
     exact absurd H (by simp)
   ·
    rw [if_neg c2] at H
    have c2b0 : decide (x7_1 < (a0.size : Int)) = false := decide_eq_false c2; clear c2
    by_cases c12 : a0.toList = ([] : List UInt8)
    ·
     rw [if_pos c12] at H
     have c12b0 : (a0.toList == ([] : List UInt8)) = true := beq_iff_eq.mpr c12; have c12b1 : (a0.toList != ([] : List UInt8)) = false := bne_eq_false_iff_eq.mpr c12; clear c12
     obtain rfl := Option.some.inj H
     go_wp2
     go_ret
     exact ⟨by first | rfl | (simp; done) | (simp [*]; done), by repeat (first | exact Drawn0.refl _ | apply Drawn0.step)⟩
    ·
     rw [if_neg c12] at H
     have c12b0 : (a0.toList == ([] : List UInt8)) = false := beq_eq_false_iff_ne.mpr c12; have c12b1 : (a0.toList != ([] : List UInt8)) = true := bne_iff_ne.mpr c12
     obtain rfl := Option.some.inj H
     go_wp2
     go_ret
     exact ⟨by first | rfl | (simp; done) | (simp [*]; done), by repeat (first | exact Drawn0.refl _ | apply Drawn0.step)⟩
end Go.Proofs.YtllehkjebikgpaaGreatDoor.PA
end
section
namespace Go.Proofs.YtllehkjebikgpaaGreatDoor.PA
open Go.RowKit Go.Proofs.YtllehkjebikgpaaGreatDoorW.PrintWords Go.Proofs.YtllehkjebikgpaaGreatDoorW.PrintLast Go.Proofs.YtllehkjebikgpaaGreatDoorW.PrintMore Go.Proofs.YtllehkjebikgpaaGreatDoorX
attribute [local go_sem] max2_int min2_int max_two min_two max_three min_three max_four min_four   -- for this text's walks alone
set_option linter.unusedVariables false
set_option linter.unusedSimpArgs false
/-! ### slices_Index_string_string: function 43 -/
def slices_Index_string_string.l0 : Nat → List ByteArray → ByteArray → Int → Int → Option (Int)
 | 0, _, _, _, _ => none
 | k + 1, x0, x1, x7, x8 => if x8 < x7 then (if 0 ≤ x8 then (if x8 < (x0.length : Int) then (if x1.toList = (rdOf ByteArray.empty x0 x8).toList then (some x8) else (slices_Index_string_string.l0 k x0 x1 x7 (wrap64 (x8 + 1)))) else (none)) else (none)) else (some (-1))
def slices_Index_string_string.f (k : Nat) (l0 : List ByteArray) (a1 : ByteArray) : Option (Int) := slices_Index_string_string.l0 k l0 a1 (l0.length : Int) 0
theorem slices_Index_string_string.mono_l : ∀ k, (∀ y0 y1 y2 y3, LeO (slices_Index_string_string.l0 k y0 y1 y2 y3) (slices_Index_string_string.l0 (k + 1) y0 y1 y2 y3))
 | 0 => fun _ _ _ _ r h => by simp [slices_Index_string_string.l0] at h
 | k + 1 => by
  have ih0 := slices_Index_string_string.mono_l k
  ·
   intro y0 y1 y2 y3
   unfold slices_Index_string_string.l0
   repeat' first
   | (with_reducible exact ih0 _ _ _ _)
   | (with_reducible exact LeO.refl _)
   | (with_reducible exact LeO.none _)
   | (with_reducible refine LeO.ite ?_ ?_)
   | (with_reducible refine LeO.bind ?_ (fun _ => ?_))
   | exact ih0 _ _ _ _
   | exact LeO.none _
   | refine LeO.ite ?_ ?_
   | refine LeO.bind ?_ (fun _ => ?_)
theorem slices_Index_string_string.mono : ∀ a0 a1 k, LeO (slices_Index_string_string.f k a0 a1) (slices_Index_string_string.f (k + 1) a0 a1) := by
 intro a0 a1 k
 have ih0 := slices_Index_string_string.mono_l k
 unfold slices_Index_string_string.f
 repeat' first
   | (with_reducible exact ih0 _ _ _ _)
   | (with_reducible exact LeO.refl _)
   | (with_reducible exact LeO.none _)
   | (with_reducible refine LeO.ite ?_ ?_)
   | (with_reducible refine LeO.bind ?_ (fun _ => ?_))
   | exact ih0 _ _ _ _
   | exact LeO.none _
   | refine LeO.ite ?_ ?_
   | refine LeO.bind ?_ (fun _ => ?_)
set_option maxHeartbeats 8000000 in
set_option maxRecDepth 100000 in
theorem slices_Index_string_string.calls (k : Nat) (A0 : Option Addr) (c0 : Nat) (l0 : List ByteArray) (a1 : ByteArray) (r : Int) (w : World) (hr0 : Kd.C Kd.string w A0 l0.length l0) (hc0 : l0.length ≤ c0) (h : slices_Index_string_string.f k l0 a1 = some r) :
  Calls Tryz.prog 43 #[.slice A0 l0.length c0, .string a1] w fun e w' => e = .returned (.int .i64 r) ∧ Drawn0 w w' := by
 have HR0 := Aside0.mk hr0; have HC0 := Aside0.mk hc0; clear hr0 hc0; have H : (slices_Index_string_string.l0 k l0 a1 (l0.length : Int) 0) = some r := h; clear h
 have H' := Aside0.mk H
 clear H
 go_enter Tryz.func43, Tryz.ntmps43
 go_wp2
 go_loopg [8] k (fun kq v8 w' => ∃ (x8_1 : Int), v8 = .int .i64 x8_1 ∧ Aside0 (slices_Index_string_string.l0 kq l0 a1 (l0.length : Int) x8_1 = some r) ∧ Aside0 (kq ≤ k) ∧ Drawn0 w w')
 case atStart => exact ⟨(0), (by first | rfl | (simp; done) | (simp [*]; done)), H', ⟨Nat.le_refl _⟩, by repeat (first | exact Drawn0.refl _ | apply Drawn0.step)⟩
 case round =>
  clear H'
  (try clear p2)
  obtain ⟨x8_1, rfl, HA, HK1, ⟨m1, rfl⟩⟩ := hrel
  cases gk with
  | zero => exact absurd HA.out (by simp [slices_Index_string_string.l0])
  | succ k1 =>
   have H := HA.out; clear HA
   simp only [slices_Index_string_string.l0] at H
   by_cases c3 : x8_1 < (l0.length : Int)
   ·
    rw [if_pos c3] at H
    have c3b0 : decide (x8_1 < (l0.length : Int)) = true := decide_eq_true c3; clear c3
    by_cases c4 : 0 ≤ x8_1
    ·
     rw [if_pos c4] at H
     have c4b0 : decide (0 ≤ x8_1) = true := decide_eq_true c4; clear c4
     by_cases c5 : x8_1 < (l0.length : Int)
     ·
      rw [if_pos c5] at H
      have c5b0 : decide (x8_1 < (l0.length : Int)) = true := decide_eq_true c5; clear c5
      by_cases c6 : a1.toList = (rdOf ByteArray.empty l0 x8_1).toList
      ·
       rw [if_pos c6] at H
       have c6b0 : (a1.toList == (rdOf ByteArray.empty l0 x8_1).toList) = true := beq_iff_eq.mpr c6; have c6b1 : (a1.toList != (rdOf ByteArray.empty l0 x8_1).toList) = false := bne_eq_false_iff_eq.mpr c6; clear c6
       obtain rfl := Option.some.inj H
       have p255 : 0 ≤ (x8_1 : Int) := of_decide_eq_true (by first | (with_reducible assumption) | assumption); have q255 : x8_1 < (l0.length : Int) := of_decide_eq_true (by first | (with_reducible assumption) | assumption)
       obtain ⟨ad255, e255, hx255_0⟩ := Kd.at_string HR0.out x8_1 p255 q255
       cases e255
       replace p255 := eq_true p255; replace q255 := eq_true q255
       go_wp2
       go_ret
       exact ⟨by first | rfl | (simp; done) | (simp [*]; done), by repeat (first | exact Drawn0.refl _ | apply Drawn0.step)⟩
      ·
       rw [if_neg c6] at H
       have c6b0 : (a1.toList == (rdOf ByteArray.empty l0 x8_1).toList) = false := beq_eq_false_iff_ne.mpr c6; have c6b1 : (a1.toList != (rdOf ByteArray.empty l0 x8_1).toList) = true := bne_iff_ne.mpr c6
       have H' := Aside0.mk H
       clear H; have p255 : 0 ≤ (x8_1 : Int) := of_decide_eq_true (by first | (with_reducible assumption) | assumption); have q255 : x8_1 < (l0.length : Int) := of_decide_eq_true (by first | (with_reducible assumption) | assumption)
       obtain ⟨ad255, e255, hx255_0⟩ := Kd.at_string HR0.out x8_1 p255 q255
       cases e255
       replace p255 := eq_true p255; replace q255 := eq_true q255
       go_wp2
       go_roundg k1
       case measure => have := HK1.out; omega
       case rel => exact ⟨(wrap64 (x8_1 + 1)), (by first | rfl | (simp; done) | (simp [*]; done)), H', ⟨by have := HK1.out; omega⟩, by repeat (first | exact Drawn0.refl _ | apply Drawn0.step)⟩
     ·
      rw [if_neg c5] at H
      exact absurd H (by simp)
    ·
     rw [if_neg c4] at H
     exact absurd H (by simp)
   ·
    rw [if_neg c3] at H
    have c3b0 : decide (x8_1 < (l0.length : Int)) = false := decide_eq_false c3; clear c3
    obtain rfl := Option.some.inj H
    go_wp2
    go_ret
    exact ⟨by first | rfl | (simp; done) | (simp [*]; done), by repeat (first | exact Drawn0.refl _ | apply Drawn0.step)⟩
end Go.Proofs.YtllehkjebikgpaaGreatDoor.PA
end
section
namespace Go.Proofs.YtllehkjebikgpaaGreatDoor.PA
open Go.RowKit Go.Proofs.YtllehkjebikgpaaGreatDoorW.PrintWords Go.Proofs.YtllehkjebikgpaaGreatDoorW.PrintLast Go.Proofs.YtllehkjebikgpaaGreatDoorW.PrintMore Go.Proofs.YtllehkjebikgpaaGreatDoorX
attribute [local go_sem] max2_int min2_int max_two min_two max_three min_three max_four min_four   -- for this text's walks alone
set_option linter.unusedVariables false
set_option linter.unusedSimpArgs false
/-! ### slices_Contains_string_string: function 31 -/
def slices_Contains_string_string.f (k : Nat) (l0 : List ByteArray) (a1 : ByteArray) : Option (Bool) := (slices_Index_string_string.f k l0 a1).bind fun t256 => (some (decide (t256 ≥ 0)))
theorem slices_Contains_string_string.mono : ∀ a0 a1 k, LeO (slices_Contains_string_string.f k a0 a1) (slices_Contains_string_string.f (k + 1) a0 a1) := by
 intro a0 a1 k
 unfold slices_Contains_string_string.f
 repeat' first
   | (with_reducible exact slices_Index_string_string.mono _ _ _)
   | (with_reducible exact LeO.refl _)
   | (with_reducible exact LeO.none _)
   | (with_reducible refine LeO.ite ?_ ?_)
   | (with_reducible refine LeO.bind ?_ (fun _ => ?_))
   | exact slices_Index_string_string.mono _ _ _
   | exact LeO.none _
   | refine LeO.ite ?_ ?_
   | refine LeO.bind ?_ (fun _ => ?_)
set_option maxHeartbeats 8000000 in
set_option maxRecDepth 100000 in
theorem slices_Contains_string_string.calls (k : Nat) (A0 : Option Addr) (c0 : Nat) (l0 : List ByteArray) (a1 : ByteArray) (r : Bool) (w : World) (hr0 : Kd.C Kd.string w A0 l0.length l0) (hc0 : l0.length ≤ c0) (h : slices_Contains_string_string.f k l0 a1 = some r) :
  Calls Tryz.prog 31 #[.slice A0 l0.length c0, .string a1] w fun e w' => e = .returned (.bool r) ∧ Drawn0 w w' := by
 have HR0 := Aside0.mk hr0; have HC0 := Aside0.mk hc0; clear hr0 hc0; have H : ((slices_Index_string_string.f k l0 a1).bind fun t256 => (some (decide (t256 ≥ 0)))) = some r := h; clear h; replace H := Option.bind_eq_some_iff.mp H
 obtain ⟨t256, A30, H⟩ := H
 replace H : (some (decide (t256 ≥ 0))) = some r := H; have A3 := Aside0.mk A30; clear A30
 obtain rfl := Option.some.inj H
 go_enter Tryz.func31, Tryz.ntmps31
 go_wp2_with (first | ((with_reducible refine gate_callee (f := 43) rfl ?_); refine gL (some 7) Tryz.func43 #[.slice A0 l0.length c0, .string a1] ?_; (with_reducible refine (slices_Index_string_string.calls k _ _ l0 a1 t256 _ ?side1 ?side2 A3.out).mono ?_); (case side1 => repeat (first | exact HR0.out | (with_reducible refine Kd.C_alloc ?_ _) | (with_reducible refine Kd.C_drewN ?_ _) | (with_reducible refine Kd.C_drew ?_))); (case side2 => exact HC0.out); rintro e w' ⟨rfl, ⟨nd, rfl⟩⟩; refine ⟨_, rfl, ?_⟩))
 go_ret
 exact ⟨by first | rfl | (simp; done) | (simp [*]; done), by repeat (first | exact Drawn0.refl _ | apply Drawn0.step)⟩
end Go.Proofs.YtllehkjebikgpaaGreatDoor.PA
end
section
namespace Go.Proofs.YtllehkjebikgpaaGreatDoor.PA
open Go.RowKit Go.Proofs.YtllehkjebikgpaaGreatDoorW.PrintWords Go.Proofs.YtllehkjebikgpaaGreatDoorW.PrintLast Go.Proofs.YtllehkjebikgpaaGreatDoorW.PrintMore Go.Proofs.YtllehkjebikgpaaGreatDoorX
attribute [local go_sem] max2_int min2_int max_two min_two max_three min_three max_four min_four   -- for this text's walks alone
set_option linter.unusedVariables false
set_option linter.unusedSimpArgs false
/-! ### lex_IsWord: function 17 -/
def lex_IsWord.f (k : Nat) (a0 : ByteArray) : Option (Bool) := (slices_Contains_string_string.f k (([(⟨#[83, 69, 76, 69, 67, 84]⟩ : ByteArray), (⟨#[73, 78, 83, 69, 82, 84]⟩ : ByteArray), (⟨#[73, 78, 84, 79]⟩ : ByteArray), (⟨#[86, 65, 76, 85, 69, 83]⟩ : ByteArray), (⟨#[85, 80, 68, 65, 84, 69]⟩ : ByteArray), (⟨#[83, 69, 84]⟩ : ByteArray), (⟨#[68, 69, 76, 69, 84, 69]⟩ : ByteArray), (⟨#[70, 82, 79, 77]⟩ : ByteArray), (⟨#[74, 79, 73, 78]⟩ : ByteArray), (⟨#[79, 78]⟩ : ByteArray), (⟨#[87, 72, 69, 82, 69]⟩ : ByteArray), (⟨#[71, 82, 79, 85, 80]⟩ : ByteArray), (⟨#[79, 82, 68, 69, 82]⟩ : ByteArray), (⟨#[66, 89]⟩ : ByteArray), (⟨#[68, 69, 83, 67]⟩ : ByteArray), (⟨#[76, 73, 77, 73, 84]⟩ : ByteArray), (⟨#[65, 78, 68]⟩ : ByteArray), (⟨#[79, 82]⟩ : ByteArray), (⟨#[78, 79, 84]⟩ : ByteArray), (⟨#[73, 83]⟩ : ByteArray), (⟨#[78, 85, 76, 76]⟩ : ByteArray), (⟨#[84, 82, 85, 69]⟩ : ByteArray), (⟨#[70, 65, 76, 83, 69]⟩ : ByteArray), (⟨#[67, 79, 85, 78, 84]⟩ : ByteArray), (⟨#[83, 85, 77]⟩ : ByteArray), (⟨#[77, 73, 78]⟩ : ByteArray), (⟨#[77, 65, 88]⟩ : ByteArray)] : List ByteArray)) a0).bind fun t260 => (some t260)
theorem lex_IsWord.mono : ∀ a0 k, LeO (lex_IsWord.f k a0) (lex_IsWord.f (k + 1) a0) := by
 intro a0 k
 unfold lex_IsWord.f
 repeat' first
   | (with_reducible exact slices_Contains_string_string.mono _ _ _)
   | (with_reducible exact LeO.refl _)
   | (with_reducible exact LeO.none _)
   | (with_reducible refine LeO.ite ?_ ?_)
   | (with_reducible refine LeO.bind ?_ (fun _ => ?_))
   | exact slices_Contains_string_string.mono _ _ _
   | exact LeO.none _
   | refine LeO.ite ?_ ?_
   | refine LeO.bind ?_ (fun _ => ?_)
set_option maxHeartbeats 8000000 in
set_option maxRecDepth 100000 in
theorem lex_IsWord.calls (k : Nat) (a0 : ByteArray) (r : Bool) (w : World) (h : lex_IsWord.f k a0 = some r) :
  Calls Tryz.prog 17 #[.string a0] w fun e w' => e = .returned (.bool r) ∧ Below w.heap.size w w' := by
 have HB := Aside0.mk (Below.refl w.heap.size w); have H : ((slices_Contains_string_string.f k (([(⟨#[83, 69, 76, 69, 67, 84]⟩ : ByteArray), (⟨#[73, 78, 83, 69, 82, 84]⟩ : ByteArray), (⟨#[73, 78, 84, 79]⟩ : ByteArray), (⟨#[86, 65, 76, 85, 69, 83]⟩ : ByteArray), (⟨#[85, 80, 68, 65, 84, 69]⟩ : ByteArray), (⟨#[83, 69, 84]⟩ : ByteArray), (⟨#[68, 69, 76, 69, 84, 69]⟩ : ByteArray), (⟨#[70, 82, 79, 77]⟩ : ByteArray), (⟨#[74, 79, 73, 78]⟩ : ByteArray), (⟨#[79, 78]⟩ : ByteArray), (⟨#[87, 72, 69, 82, 69]⟩ : ByteArray), (⟨#[71, 82, 79, 85, 80]⟩ : ByteArray), (⟨#[79, 82, 68, 69, 82]⟩ : ByteArray), (⟨#[66, 89]⟩ : ByteArray), (⟨#[68, 69, 83, 67]⟩ : ByteArray), (⟨#[76, 73, 77, 73, 84]⟩ : ByteArray), (⟨#[65, 78, 68]⟩ : ByteArray), (⟨#[79, 82]⟩ : ByteArray), (⟨#[78, 79, 84]⟩ : ByteArray), (⟨#[73, 83]⟩ : ByteArray), (⟨#[78, 85, 76, 76]⟩ : ByteArray), (⟨#[84, 82, 85, 69]⟩ : ByteArray), (⟨#[70, 65, 76, 83, 69]⟩ : ByteArray), (⟨#[67, 79, 85, 78, 84]⟩ : ByteArray), (⟨#[83, 85, 77]⟩ : ByteArray), (⟨#[77, 73, 78]⟩ : ByteArray), (⟨#[77, 65, 88]⟩ : ByteArray)] : List ByteArray)) a0).bind fun t260 => (some t260)) = some r := h; clear h
 obtain ⟨y257, hy257⟩ : ∃ y_ : List ByteArray, y_ = (([(⟨#[83, 69, 76, 69, 67, 84]⟩ : ByteArray), (⟨#[73, 78, 83, 69, 82, 84]⟩ : ByteArray), (⟨#[73, 78, 84, 79]⟩ : ByteArray), (⟨#[86, 65, 76, 85, 69, 83]⟩ : ByteArray), (⟨#[85, 80, 68, 65, 84, 69]⟩ : ByteArray), (⟨#[83, 69, 84]⟩ : ByteArray), (⟨#[68, 69, 76, 69, 84, 69]⟩ : ByteArray), (⟨#[70, 82, 79, 77]⟩ : ByteArray), (⟨#[74, 79, 73, 78]⟩ : ByteArray), (⟨#[79, 78]⟩ : ByteArray), (⟨#[87, 72, 69, 82, 69]⟩ : ByteArray), (⟨#[71, 82, 79, 85, 80]⟩ : ByteArray), (⟨#[79, 82, 68, 69, 82]⟩ : ByteArray), (⟨#[66, 89]⟩ : ByteArray), (⟨#[68, 69, 83, 67]⟩ : ByteArray), (⟨#[76, 73, 77, 73, 84]⟩ : ByteArray), (⟨#[65, 78, 68]⟩ : ByteArray), (⟨#[79, 82]⟩ : ByteArray), (⟨#[78, 79, 84]⟩ : ByteArray), (⟨#[73, 83]⟩ : ByteArray), (⟨#[78, 85, 76, 76]⟩ : ByteArray), (⟨#[84, 82, 85, 69]⟩ : ByteArray), (⟨#[70, 65, 76, 83, 69]⟩ : ByteArray), (⟨#[67, 79, 85, 78, 84]⟩ : ByteArray), (⟨#[83, 85, 77]⟩ : ByteArray), (⟨#[77, 73, 78]⟩ : ByteArray), (⟨#[77, 65, 88]⟩ : ByteArray)] : List ByteArray)) := ⟨_, rfl⟩
 replace H : ((slices_Contains_string_string.f k y257 a0).bind fun t260 => (some t260)) = some r := by first | (rw [hy257]; with_reducible exact H) | (have H2_ := (Option.bind_some _ _).symm.trans H; rw [hy257]; with_reducible exact H2_) | (have H2_ := (Option.bind_some _ _).symm.trans H; with_reducible exact H2_) | with_reducible exact H | (rw [hy257]; exact H) | exact H
 have Ny257 := Aside0.mk hy257; clear hy257; replace H := Option.bind_eq_some_iff.mp H
 obtain ⟨t260, A20, H⟩ := H
 replace H : (some t260) = some r := H; have A2 := Aside0.mk A20; clear A20
 obtain rfl := Option.some.inj H
 go_enter Tryz.func17, Tryz.ntmps17
 go_wp2_with (first | ((with_reducible refine gate_dst (N := 3) rfl ?_); refine Kd.R_lit Kd.string _ 9 ?hg (N := 3) ?hd (xs := ([(⟨#[83, 69, 76, 69, 67, 84]⟩ : ByteArray), (⟨#[73, 78, 83, 69, 82, 84]⟩ : ByteArray), (⟨#[73, 78, 84, 79]⟩ : ByteArray), (⟨#[86, 65, 76, 85, 69, 83]⟩ : ByteArray), (⟨#[85, 80, 68, 65, 84, 69]⟩ : ByteArray), (⟨#[83, 69, 84]⟩ : ByteArray), (⟨#[68, 69, 76, 69, 84, 69]⟩ : ByteArray), (⟨#[70, 82, 79, 77]⟩ : ByteArray), (⟨#[74, 79, 73, 78]⟩ : ByteArray), (⟨#[79, 78]⟩ : ByteArray), (⟨#[87, 72, 69, 82, 69]⟩ : ByteArray), (⟨#[71, 82, 79, 85, 80]⟩ : ByteArray), (⟨#[79, 82, 68, 69, 82]⟩ : ByteArray), (⟨#[66, 89]⟩ : ByteArray), (⟨#[68, 69, 83, 67]⟩ : ByteArray), (⟨#[76, 73, 77, 73, 84]⟩ : ByteArray), (⟨#[65, 78, 68]⟩ : ByteArray), (⟨#[79, 82]⟩ : ByteArray), (⟨#[78, 79, 84]⟩ : ByteArray), (⟨#[73, 83]⟩ : ByteArray), (⟨#[78, 85, 76, 76]⟩ : ByteArray), (⟨#[84, 82, 85, 69]⟩ : ByteArray), (⟨#[70, 65, 76, 83, 69]⟩ : ByteArray), (⟨#[67, 79, 85, 78, 84]⟩ : ByteArray), (⟨#[83, 85, 77]⟩ : ByteArray), (⟨#[77, 73, 78]⟩ : ByteArray), (⟨#[77, 65, 88]⟩ : ByteArray)] : List ByteArray)) (inner := [.string (⟨#[83, 69, 76, 69, 67, 84]⟩ : ByteArray), .string (⟨#[73, 78, 83, 69, 82, 84]⟩ : ByteArray), .string (⟨#[73, 78, 84, 79]⟩ : ByteArray), .string (⟨#[86, 65, 76, 85, 69, 83]⟩ : ByteArray), .string (⟨#[85, 80, 68, 65, 84, 69]⟩ : ByteArray), .string (⟨#[83, 69, 84]⟩ : ByteArray), .string (⟨#[68, 69, 76, 69, 84, 69]⟩ : ByteArray), .string (⟨#[70, 82, 79, 77]⟩ : ByteArray), .string (⟨#[74, 79, 73, 78]⟩ : ByteArray), .string (⟨#[79, 78]⟩ : ByteArray), .string (⟨#[87, 72, 69, 82, 69]⟩ : ByteArray), .string (⟨#[71, 82, 79, 85, 80]⟩ : ByteArray), .string (⟨#[79, 82, 68, 69, 82]⟩ : ByteArray), .string (⟨#[66, 89]⟩ : ByteArray), .string (⟨#[68, 69, 83, 67]⟩ : ByteArray), .string (⟨#[76, 73, 77, 73, 84]⟩ : ByteArray), .string (⟨#[65, 78, 68]⟩ : ByteArray), .string (⟨#[79, 82]⟩ : ByteArray), .string (⟨#[78, 79, 84]⟩ : ByteArray), .string (⟨#[73, 83]⟩ : ByteArray), .string (⟨#[78, 85, 76, 76]⟩ : ByteArray), .string (⟨#[84, 82, 85, 69]⟩ : ByteArray), .string (⟨#[70, 65, 76, 83, 69]⟩ : ByteArray), .string (⟨#[67, 79, 85, 78, 84]⟩ : ByteArray), .string (⟨#[83, 85, 77]⟩ : ByteArray), .string (⟨#[77, 73, 78]⟩ : ByteArray), .string (⟨#[77, 65, 88]⟩ : ByteArray)]) (ok := fun _ => True) (okp := fun _ => True) ?hr ?hp (fun _ hk => hk) trivial (Below.refl _ _) (Nat.le_refl _) (by simp) ?_; (case hd => rfl); (case hg => rfl); (case hr => first | (go_simp; done) | (go_simp; rfl)); (case hp => exact (Reps.one (show Kd.M Kd.string _ _ _ (⟨#[83, 69, 76, 69, 67, 84]⟩ : ByteArray) [.string (⟨#[83, 69, 76, 69, 67, 84]⟩ : ByteArray)] from rfl) (Reps.one (show Kd.M Kd.string _ _ _ (⟨#[73, 78, 83, 69, 82, 84]⟩ : ByteArray) [.string (⟨#[73, 78, 83, 69, 82, 84]⟩ : ByteArray)] from rfl) (Reps.one (show Kd.M Kd.string _ _ _ (⟨#[73, 78, 84, 79]⟩ : ByteArray) [.string (⟨#[73, 78, 84, 79]⟩ : ByteArray)] from rfl) (Reps.one (show Kd.M Kd.string _ _ _ (⟨#[86, 65, 76, 85, 69, 83]⟩ : ByteArray) [.string (⟨#[86, 65, 76, 85, 69, 83]⟩ : ByteArray)] from rfl) (Reps.one (show Kd.M Kd.string _ _ _ (⟨#[85, 80, 68, 65, 84, 69]⟩ : ByteArray) [.string (⟨#[85, 80, 68, 65, 84, 69]⟩ : ByteArray)] from rfl) (Reps.one (show Kd.M Kd.string _ _ _ (⟨#[83, 69, 84]⟩ : ByteArray) [.string (⟨#[83, 69, 84]⟩ : ByteArray)] from rfl) (Reps.one (show Kd.M Kd.string _ _ _ (⟨#[68, 69, 76, 69, 84, 69]⟩ : ByteArray) [.string (⟨#[68, 69, 76, 69, 84, 69]⟩ : ByteArray)] from rfl) (Reps.one (show Kd.M Kd.string _ _ _ (⟨#[70, 82, 79, 77]⟩ : ByteArray) [.string (⟨#[70, 82, 79, 77]⟩ : ByteArray)] from rfl) (Reps.one (show Kd.M Kd.string _ _ _ (⟨#[74, 79, 73, 78]⟩ : ByteArray) [.string (⟨#[74, 79, 73, 78]⟩ : ByteArray)] from rfl) (Reps.one (show Kd.M Kd.string _ _ _ (⟨#[79, 78]⟩ : ByteArray) [.string (⟨#[79, 78]⟩ : ByteArray)] from rfl) (Reps.one (show Kd.M Kd.string _ _ _ (⟨#[87, 72, 69, 82, 69]⟩ : ByteArray) [.string (⟨#[87, 72, 69, 82, 69]⟩ : ByteArray)] from rfl) (Reps.one (show Kd.M Kd.string _ _ _ (⟨#[71, 82, 79, 85, 80]⟩ : ByteArray) [.string (⟨#[71, 82, 79, 85, 80]⟩ : ByteArray)] from rfl) (Reps.one (show Kd.M Kd.string _ _ _ (⟨#[79, 82, 68, 69, 82]⟩ : ByteArray) [.string (⟨#[79, 82, 68, 69, 82]⟩ : ByteArray)] from rfl) (Reps.one (show Kd.M Kd.string _ _ _ (⟨#[66, 89]⟩ : ByteArray) [.string (⟨#[66, 89]⟩ : ByteArray)] from rfl) (Reps.one (show Kd.M Kd.string _ _ _ (⟨#[68, 69, 83, 67]⟩ : ByteArray) [.string (⟨#[68, 69, 83, 67]⟩ : ByteArray)] from rfl) (Reps.one (show Kd.M Kd.string _ _ _ (⟨#[76, 73, 77, 73, 84]⟩ : ByteArray) [.string (⟨#[76, 73, 77, 73, 84]⟩ : ByteArray)] from rfl) (Reps.one (show Kd.M Kd.string _ _ _ (⟨#[65, 78, 68]⟩ : ByteArray) [.string (⟨#[65, 78, 68]⟩ : ByteArray)] from rfl) (Reps.one (show Kd.M Kd.string _ _ _ (⟨#[79, 82]⟩ : ByteArray) [.string (⟨#[79, 82]⟩ : ByteArray)] from rfl) (Reps.one (show Kd.M Kd.string _ _ _ (⟨#[78, 79, 84]⟩ : ByteArray) [.string (⟨#[78, 79, 84]⟩ : ByteArray)] from rfl) (Reps.one (show Kd.M Kd.string _ _ _ (⟨#[73, 83]⟩ : ByteArray) [.string (⟨#[73, 83]⟩ : ByteArray)] from rfl) (Reps.one (show Kd.M Kd.string _ _ _ (⟨#[78, 85, 76, 76]⟩ : ByteArray) [.string (⟨#[78, 85, 76, 76]⟩ : ByteArray)] from rfl) (Reps.one (show Kd.M Kd.string _ _ _ (⟨#[84, 82, 85, 69]⟩ : ByteArray) [.string (⟨#[84, 82, 85, 69]⟩ : ByteArray)] from rfl) (Reps.one (show Kd.M Kd.string _ _ _ (⟨#[70, 65, 76, 83, 69]⟩ : ByteArray) [.string (⟨#[70, 65, 76, 83, 69]⟩ : ByteArray)] from rfl) (Reps.one (show Kd.M Kd.string _ _ _ (⟨#[67, 79, 85, 78, 84]⟩ : ByteArray) [.string (⟨#[67, 79, 85, 78, 84]⟩ : ByteArray)] from rfl) (Reps.one (show Kd.M Kd.string _ _ _ (⟨#[83, 85, 77]⟩ : ByteArray) [.string (⟨#[83, 85, 77]⟩ : ByteArray)] from rfl) (Reps.one (show Kd.M Kd.string _ _ _ (⟨#[77, 73, 78]⟩ : ByteArray) [.string (⟨#[77, 73, 78]⟩ : ByteArray)] from rfl) (Reps.one (show Kd.M Kd.string _ _ _ (⟨#[77, 65, 88]⟩ : ByteArray) [.string (⟨#[77, 65, 88]⟩ : ByteArray)] from rfl) (Reps.none _ _))))))))))))))))))))))))))))); intro v258 w3 ho4 hb hg_ hnew_; clear hg_ hnew_; (first | rw [← Ny257.out] at ho4 | (simp only [Int.reduceToNat] at ho4; rw [← Ny257.out] at ho4)); have HO259 := Aside0.mk (Kd.R_lower ho4 (below_size bel)); replace HB := bs hb; clear hb ho4; obtain ⟨Ao5, co5, eo5⟩ := Kd.R_slice HO259.out; subst eo5) | ((with_reducible refine gate_callee (f := 31) rfl ?_); refine gL (some 5) Tryz.func31 #[.slice Ao5 y257.length co5, .string a0] ?_; (with_reducible refine (slices_Contains_string_string.calls k _ _ y257 a0 t260 _ ?side1 ?side2 A2.out).mono ?_); (case side1 => repeat (first | exact (Kd.R_reads' HO259.out).2.2 | (with_reducible refine Kd.C_alloc ?_ _) | (with_reducible refine Kd.C_drewN ?_ _) | (with_reducible refine Kd.C_drew ?_))); (case side2 => exact (Kd.R_reads' HO259.out).2.1); rintro e w' ⟨rfl, ⟨nd, rfl⟩⟩; refine ⟨_, rfl, ?_⟩))
 go_ret
 exact ⟨by first | rfl | (simp [errW_none, errW_some] <;> rfl) | (simp [*, errW_none, errW_some] <;> rfl), by repeat (first | (with_reducible first | exact HB.out | apply below_alloc | apply pw_below_drewN | apply below_drew1) | exact HB.out)⟩
end Go.Proofs.YtllehkjebikgpaaGreatDoor.PA
end
section
namespace Go.Proofs.YtllehkjebikgpaaGreatDoor.PA
open Go.RowKit Go.Proofs.YtllehkjebikgpaaGreatDoorW.PrintWords Go.Proofs.YtllehkjebikgpaaGreatDoorW.PrintLast Go.Proofs.YtllehkjebikgpaaGreatDoorW.PrintMore Go.Proofs.YtllehkjebikgpaaGreatDoorX
attribute [local go_sem] max2_int min2_int max_two min_two max_three min_three max_four min_four   -- for this text's walks alone
set_option linter.unusedVariables false
set_option linter.unusedSimpArgs false
attribute [local go_sem high] eqA48
/-! ### value_Right: function 60 -/
def value_Right.f (a0_0 : Int) (a0_1 : Int) (a0_2 : ByteArray) : Option (Bool) := if a0_0 = 0 then (some (a0_0 == 0 && (a0_1 == 0 && (a0_2.toList == ([] : List UInt8))))) else (if a0_0 = 1 then (if a0_1 ≥ (-4611686018427387904) then (if a0_1 ≤ 4611686018427387904 then (some (a0_2.toList == ([] : List UInt8))) else (some false)) else (some false)) else (if a0_0 = 2 then (if (a0_1 / 2) = 0 then (some (a0_2.toList == ([] : List UInt8))) else (some false)) else (if a0_0 = 3 then (if a0_1 = 0 then (some (decide ((a0_2.size : Int) ≤ 64))) else (some false)) else (some false))))
set_option maxHeartbeats 8000000 in
set_option maxRecDepth 100000 in
theorem value_Right.calls (a0_0 : Int) (a0_1 : Int) (a0_2 : ByteArray) (r : Bool) (w : World) (h : value_Right.f a0_0 a0_1 a0_2 = some r) :
  Calls Tryz.prog 60 #[.agg #[.int .i64 a0_0, .int .i64 a0_1, .string a0_2]] w fun e w' => e = .returned (.bool r) ∧ Below w.heap.size w w' := by
 have hu48 := Tryz.underlying48; have HB := Aside0.mk (Below.refl w.heap.size w); have H : (if a0_0 = 0 then (some (a0_0 == 0 && (a0_1 == 0 && (a0_2.toList == ([] : List UInt8))))) else (if a0_0 = 1 then (if a0_1 ≥ (-4611686018427387904) then (if a0_1 ≤ 4611686018427387904 then (some (a0_2.toList == ([] : List UInt8))) else (some false)) else (some false)) else (if a0_0 = 2 then (if (a0_1 / 2) = 0 then (some (a0_2.toList == ([] : List UInt8))) else (some false)) else (if a0_0 = 3 then (if a0_1 = 0 then (some (decide ((a0_2.size : Int) ≤ 64))) else (some false)) else (some false))))) = some r := h; clear h
 by_cases c2 : a0_0 = 0
 ·
  rw [if_pos c2] at H
  have c2b0 : (a0_0 == 0) = true := beq_iff_eq.mpr c2; have c2b1 : (a0_0 != 0) = false := bne_eq_false_iff_eq.mpr c2; clear c2
  obtain rfl := Option.some.inj H
  go_enter Tryz.func60, Tryz.ntmps60
  go_wp2_with (first | ((with_reducible refine gate_dst (N := 1) rfl ?_); (try (refine gate_guard (by rfl) ?_; dsimp only)); refine box_event ?hg (N := 1) ?hd (cs := #[.int .i64 a0_0, .int .i64 a0_1, .string a0_2]) (t := 48) ?hr ?_; (case hd => rfl); (case hg => rfl); (case hr => first | (go_simp; done) | (go_simp; rfl)); intro gb286 hg w3 hbox hb; have BK286 := Aside0.mk (hbox); have GW286 := bz hg; have GE286 := bz hg; replace HB := bs hb; clear hb hbox hg; have hcz4_0 : w3.cell? ⟨gb286, 0, none⟩ = some (.int .i64 a0_0) := (blk_cell BK286.out 0).trans rfl; have hcz4_1 : w3.cell? ⟨gb286, 1, none⟩ = some (.int .i64 a0_1) := (blk_cell BK286.out 1).trans rfl; have hcz4_2 : w3.cell? ⟨gb286, 2, none⟩ = some (.string a0_2) := (blk_cell BK286.out 2).trans rfl; have hfz4_0 := blk_frozen BK286.out 0; have hfz4_1 := blk_frozen BK286.out 1; have hfz4_2 := blk_frozen BK286.out 2))
  go_ret
  exact ⟨by first | rfl | (simp [errW_none, errW_some] <;> rfl) | (simp [*, errW_none, errW_some] <;> rfl), by repeat (first | (with_reducible first | exact HB.out | apply below_alloc | apply pw_below_drewN | apply below_drew1 | refine below_set ?_ GE286.out) | exact HB.out)⟩
 ·
  rw [if_neg c2] at H
  have c2b0 : (a0_0 == 0) = false := beq_eq_false_iff_ne.mpr c2; have c2b1 : (a0_0 != 0) = true := bne_iff_ne.mpr c2
  by_cases c5 : a0_0 = 1
  ·
   rw [if_pos c5] at H
   have c5b0 : (a0_0 == 1) = true := beq_iff_eq.mpr c5; have c5b1 : (a0_0 != 1) = false := bne_eq_false_iff_eq.mpr c5; clear c5
   by_cases c6 : a0_1 ≥ (-4611686018427387904)
   ·
    rw [if_pos c6] at H
    have c6b0 : decide ((-4611686018427387904) ≤ a0_1) = true := decide_eq_true c6; clear c6
    by_cases c7 : a0_1 ≤ 4611686018427387904
    ·
     rw [if_pos c7] at H
     have c7b0 : decide (a0_1 ≤ 4611686018427387904) = true := decide_eq_true c7; clear c7
     obtain rfl := Option.some.inj H
     go_enter Tryz.func60, Tryz.ntmps60
     go_wp2_with (first | ((with_reducible refine gate_dst (N := 1) rfl ?_); (try (refine gate_guard (by rfl) ?_; dsimp only)); refine box_event ?hg (N := 1) ?hd (cs := #[.int .i64 a0_0, .int .i64 a0_1, .string a0_2]) (t := 48) ?hr ?_; (case hd => rfl); (case hg => rfl); (case hr => first | (go_simp; done) | (go_simp; rfl)); intro gb286 hg w8 hbox hb; have BK286 := Aside0.mk (hbox); have GW286 := bz hg; have GE286 := bz hg; replace HB := bs hb; clear hb hbox hg; have hcz9_0 : w8.cell? ⟨gb286, 0, none⟩ = some (.int .i64 a0_0) := (blk_cell BK286.out 0).trans rfl; have hcz9_1 : w8.cell? ⟨gb286, 1, none⟩ = some (.int .i64 a0_1) := (blk_cell BK286.out 1).trans rfl; have hcz9_2 : w8.cell? ⟨gb286, 2, none⟩ = some (.string a0_2) := (blk_cell BK286.out 2).trans rfl; have hfz9_0 := blk_frozen BK286.out 0; have hfz9_1 := blk_frozen BK286.out 1; have hfz9_2 := blk_frozen BK286.out 2))
     go_ret
     exact ⟨by first | rfl | (simp [errW_none, errW_some] <;> rfl) | (simp [*, errW_none, errW_some] <;> rfl), by repeat (first | (with_reducible first | exact HB.out | apply below_alloc | apply pw_below_drewN | apply below_drew1 | refine below_set ?_ GE286.out) | exact HB.out)⟩
    ·
     rw [if_neg c7] at H
     have c7b0 : decide (a0_1 ≤ 4611686018427387904) = false := decide_eq_false c7; clear c7
     obtain rfl := Option.some.inj H
     go_enter Tryz.func60, Tryz.ntmps60
     go_wp2_with (first | ((with_reducible refine gate_dst (N := 1) rfl ?_); (try (refine gate_guard (by rfl) ?_; dsimp only)); refine box_event ?hg (N := 1) ?hd (cs := #[.int .i64 a0_0, .int .i64 a0_1, .string a0_2]) (t := 48) ?hr ?_; (case hd => rfl); (case hg => rfl); (case hr => first | (go_simp; done) | (go_simp; rfl)); intro gb286 hg w10 hbox hb; have BK286 := Aside0.mk (hbox); have GW286 := bz hg; have GE286 := bz hg; replace HB := bs hb; clear hb hbox hg; have hcz11_0 : w10.cell? ⟨gb286, 0, none⟩ = some (.int .i64 a0_0) := (blk_cell BK286.out 0).trans rfl; have hcz11_1 : w10.cell? ⟨gb286, 1, none⟩ = some (.int .i64 a0_1) := (blk_cell BK286.out 1).trans rfl; have hcz11_2 : w10.cell? ⟨gb286, 2, none⟩ = some (.string a0_2) := (blk_cell BK286.out 2).trans rfl; have hfz11_0 := blk_frozen BK286.out 0; have hfz11_1 := blk_frozen BK286.out 1; have hfz11_2 := blk_frozen BK286.out 2))
     go_ret
     exact ⟨by first | rfl | (simp [errW_none, errW_some] <;> rfl) | (simp [*, errW_none, errW_some] <;> rfl), by repeat (first | (with_reducible first | exact HB.out | apply below_alloc | apply pw_below_drewN | apply below_drew1 | refine below_set ?_ GE286.out) | exact HB.out)⟩
   ·
    rw [if_neg c6] at H
    have c6b0 : decide ((-4611686018427387904) ≤ a0_1) = false := decide_eq_false c6; clear c6
    obtain rfl := Option.some.inj H
    go_enter Tryz.func60, Tryz.ntmps60
    go_wp2_with (first | ((with_reducible refine gate_dst (N := 1) rfl ?_); (try (refine gate_guard (by rfl) ?_; dsimp only)); refine box_event ?hg (N := 1) ?hd (cs := #[.int .i64 a0_0, .int .i64 a0_1, .string a0_2]) (t := 48) ?hr ?_; (case hd => rfl); (case hg => rfl); (case hr => first | (go_simp; done) | (go_simp; rfl)); intro gb286 hg w12 hbox hb; have BK286 := Aside0.mk (hbox); have GW286 := bz hg; have GE286 := bz hg; replace HB := bs hb; clear hb hbox hg; have hcz13_0 : w12.cell? ⟨gb286, 0, none⟩ = some (.int .i64 a0_0) := (blk_cell BK286.out 0).trans rfl; have hcz13_1 : w12.cell? ⟨gb286, 1, none⟩ = some (.int .i64 a0_1) := (blk_cell BK286.out 1).trans rfl; have hcz13_2 : w12.cell? ⟨gb286, 2, none⟩ = some (.string a0_2) := (blk_cell BK286.out 2).trans rfl; have hfz13_0 := blk_frozen BK286.out 0; have hfz13_1 := blk_frozen BK286.out 1; have hfz13_2 := blk_frozen BK286.out 2))
    go_ret
    exact ⟨by first | rfl | (simp [errW_none, errW_some] <;> rfl) | (simp [*, errW_none, errW_some] <;> rfl), by repeat (first | (with_reducible first | exact HB.out | apply below_alloc | apply pw_below_drewN | apply below_drew1 | refine below_set ?_ GE286.out) | exact HB.out)⟩
  ·
   rw [if_neg c5] at H
   have c5b0 : (a0_0 == 1) = false := beq_eq_false_iff_ne.mpr c5; have c5b1 : (a0_0 != 1) = true := bne_iff_ne.mpr c5
   by_cases c14 : a0_0 = 2
   ·
    rw [if_pos c14] at H
    have c14b0 : (a0_0 == 2) = true := beq_iff_eq.mpr c14; have c14b1 : (a0_0 != 2) = false := bne_eq_false_iff_eq.mpr c14; clear c14
    by_cases c15 : (a0_1 / 2) = 0
    ·
     rw [if_pos c15] at H
     have c15b0 : ((a0_1 / 2) == 0) = true := beq_iff_eq.mpr c15; have c15b1 : ((a0_1 / 2) != 0) = false := bne_eq_false_iff_eq.mpr c15; clear c15
     obtain rfl := Option.some.inj H
     go_enter Tryz.func60, Tryz.ntmps60
     go_wp2_with (first | ((with_reducible refine gate_dst (N := 1) rfl ?_); (try (refine gate_guard (by rfl) ?_; dsimp only)); refine box_event ?hg (N := 1) ?hd (cs := #[.int .i64 a0_0, .int .i64 a0_1, .string a0_2]) (t := 48) ?hr ?_; (case hd => rfl); (case hg => rfl); (case hr => first | (go_simp; done) | (go_simp; rfl)); intro gb286 hg w16 hbox hb; have BK286 := Aside0.mk (hbox); have GW286 := bz hg; have GE286 := bz hg; replace HB := bs hb; clear hb hbox hg; have hcz17_0 : w16.cell? ⟨gb286, 0, none⟩ = some (.int .i64 a0_0) := (blk_cell BK286.out 0).trans rfl; have hcz17_1 : w16.cell? ⟨gb286, 1, none⟩ = some (.int .i64 a0_1) := (blk_cell BK286.out 1).trans rfl; have hcz17_2 : w16.cell? ⟨gb286, 2, none⟩ = some (.string a0_2) := (blk_cell BK286.out 2).trans rfl; have hfz17_0 := blk_frozen BK286.out 0; have hfz17_1 := blk_frozen BK286.out 1; have hfz17_2 := blk_frozen BK286.out 2))
     go_ret
     exact ⟨by first | rfl | (simp [errW_none, errW_some] <;> rfl) | (simp [*, errW_none, errW_some] <;> rfl), by repeat (first | (with_reducible first | exact HB.out | apply below_alloc | apply pw_below_drewN | apply below_drew1 | refine below_set ?_ GE286.out) | exact HB.out)⟩
    ·
     rw [if_neg c15] at H
     have c15b0 : ((a0_1 / 2) == 0) = false := beq_eq_false_iff_ne.mpr c15; have c15b1 : ((a0_1 / 2) != 0) = true := bne_iff_ne.mpr c15
     obtain rfl := Option.some.inj H
     go_enter Tryz.func60, Tryz.ntmps60
     go_wp2_with (first | ((with_reducible refine gate_dst (N := 1) rfl ?_); (try (refine gate_guard (by rfl) ?_; dsimp only)); refine box_event ?hg (N := 1) ?hd (cs := #[.int .i64 a0_0, .int .i64 a0_1, .string a0_2]) (t := 48) ?hr ?_; (case hd => rfl); (case hg => rfl); (case hr => first | (go_simp; done) | (go_simp; rfl)); intro gb286 hg w18 hbox hb; have BK286 := Aside0.mk (hbox); have GW286 := bz hg; have GE286 := bz hg; replace HB := bs hb; clear hb hbox hg; have hcz19_0 : w18.cell? ⟨gb286, 0, none⟩ = some (.int .i64 a0_0) := (blk_cell BK286.out 0).trans rfl; have hcz19_1 : w18.cell? ⟨gb286, 1, none⟩ = some (.int .i64 a0_1) := (blk_cell BK286.out 1).trans rfl; have hcz19_2 : w18.cell? ⟨gb286, 2, none⟩ = some (.string a0_2) := (blk_cell BK286.out 2).trans rfl; have hfz19_0 := blk_frozen BK286.out 0; have hfz19_1 := blk_frozen BK286.out 1; have hfz19_2 := blk_frozen BK286.out 2))
     go_ret
     exact ⟨by first | rfl | (simp [errW_none, errW_some] <;> rfl) | (simp [*, errW_none, errW_some] <;> rfl), by repeat (first | (with_reducible first | exact HB.out | apply below_alloc | apply pw_below_drewN | apply below_drew1 | refine below_set ?_ GE286.out) | exact HB.out)⟩
   ·
    rw [if_neg c14] at H
    have c14b0 : (a0_0 == 2) = false := beq_eq_false_iff_ne.mpr c14; have c14b1 : (a0_0 != 2) = true := bne_iff_ne.mpr c14
    by_cases c20 : a0_0 = 3
    ·
     rw [if_pos c20] at H
     have c20b0 : (a0_0 == 3) = true := beq_iff_eq.mpr c20; have c20b1 : (a0_0 != 3) = false := bne_eq_false_iff_eq.mpr c20; clear c20
     by_cases c21 : a0_1 = 0
     ·
      rw [if_pos c21] at H
      have c21b0 : (a0_1 == 0) = true := beq_iff_eq.mpr c21; have c21b1 : (a0_1 != 0) = false := bne_eq_false_iff_eq.mpr c21; clear c21
      obtain rfl := Option.some.inj H
      go_enter Tryz.func60, Tryz.ntmps60
      go_wp2_with (first | ((with_reducible refine gate_dst (N := 1) rfl ?_); (try (refine gate_guard (by rfl) ?_; dsimp only)); refine box_event ?hg (N := 1) ?hd (cs := #[.int .i64 a0_0, .int .i64 a0_1, .string a0_2]) (t := 48) ?hr ?_; (case hd => rfl); (case hg => rfl); (case hr => first | (go_simp; done) | (go_simp; rfl)); intro gb286 hg w22 hbox hb; have BK286 := Aside0.mk (hbox); have GW286 := bz hg; have GE286 := bz hg; replace HB := bs hb; clear hb hbox hg; have hcz23_0 : w22.cell? ⟨gb286, 0, none⟩ = some (.int .i64 a0_0) := (blk_cell BK286.out 0).trans rfl; have hcz23_1 : w22.cell? ⟨gb286, 1, none⟩ = some (.int .i64 a0_1) := (blk_cell BK286.out 1).trans rfl; have hcz23_2 : w22.cell? ⟨gb286, 2, none⟩ = some (.string a0_2) := (blk_cell BK286.out 2).trans rfl; have hfz23_0 := blk_frozen BK286.out 0; have hfz23_1 := blk_frozen BK286.out 1; have hfz23_2 := blk_frozen BK286.out 2))
      go_ret
      exact ⟨by first | rfl | (simp [errW_none, errW_some] <;> rfl) | (simp [*, errW_none, errW_some] <;> rfl), by repeat (first | (with_reducible first | exact HB.out | apply below_alloc | apply pw_below_drewN | apply below_drew1 | refine below_set ?_ GE286.out) | exact HB.out)⟩
     ·
      rw [if_neg c21] at H
      have c21b0 : (a0_1 == 0) = false := beq_eq_false_iff_ne.mpr c21; have c21b1 : (a0_1 != 0) = true := bne_iff_ne.mpr c21
      obtain rfl := Option.some.inj H
      go_enter Tryz.func60, Tryz.ntmps60
      go_wp2_with (first | ((with_reducible refine gate_dst (N := 1) rfl ?_); (try (refine gate_guard (by rfl) ?_; dsimp only)); refine box_event ?hg (N := 1) ?hd (cs := #[.int .i64 a0_0, .int .i64 a0_1, .string a0_2]) (t := 48) ?hr ?_; (case hd => rfl); (case hg => rfl); (case hr => first | (go_simp; done) | (go_simp; rfl)); intro gb286 hg w24 hbox hb; have BK286 := Aside0.mk (hbox); have GW286 := bz hg; have GE286 := bz hg; replace HB := bs hb; clear hb hbox hg; have hcz25_0 : w24.cell? ⟨gb286, 0, none⟩ = some (.int .i64 a0_0) := (blk_cell BK286.out 0).trans rfl; have hcz25_1 : w24.cell? ⟨gb286, 1, none⟩ = some (.int .i64 a0_1) := (blk_cell BK286.out 1).trans rfl; have hcz25_2 : w24.cell? ⟨gb286, 2, none⟩ = some (.string a0_2) := (blk_cell BK286.out 2).trans rfl; have hfz25_0 := blk_frozen BK286.out 0; have hfz25_1 := blk_frozen BK286.out 1; have hfz25_2 := blk_frozen BK286.out 2))
      go_ret
      exact ⟨by first | rfl | (simp [errW_none, errW_some] <;> rfl) | (simp [*, errW_none, errW_some] <;> rfl), by repeat (first | (with_reducible first | exact HB.out | apply below_alloc | apply pw_below_drewN | apply below_drew1 | refine below_set ?_ GE286.out) | exact HB.out)⟩
    ·
     rw [if_neg c20] at H
     have c20b0 : (a0_0 == 3) = false := beq_eq_false_iff_ne.mpr c20; have c20b1 : (a0_0 != 3) = true := bne_iff_ne.mpr c20
     obtain rfl := Option.some.inj H
     go_enter Tryz.func60, Tryz.ntmps60
     go_wp2_with (first | ((with_reducible refine gate_dst (N := 1) rfl ?_); (try (refine gate_guard (by rfl) ?_; dsimp only)); refine box_event ?hg (N := 1) ?hd (cs := #[.int .i64 a0_0, .int .i64 a0_1, .string a0_2]) (t := 48) ?hr ?_; (case hd => rfl); (case hg => rfl); (case hr => first | (go_simp; done) | (go_simp; rfl)); intro gb286 hg w26 hbox hb; have BK286 := Aside0.mk (hbox); have GW286 := bz hg; have GE286 := bz hg; replace HB := bs hb; clear hb hbox hg; have hcz27_0 : w26.cell? ⟨gb286, 0, none⟩ = some (.int .i64 a0_0) := (blk_cell BK286.out 0).trans rfl; have hcz27_1 : w26.cell? ⟨gb286, 1, none⟩ = some (.int .i64 a0_1) := (blk_cell BK286.out 1).trans rfl; have hcz27_2 : w26.cell? ⟨gb286, 2, none⟩ = some (.string a0_2) := (blk_cell BK286.out 2).trans rfl; have hfz27_0 := blk_frozen BK286.out 0; have hfz27_1 := blk_frozen BK286.out 1; have hfz27_2 := blk_frozen BK286.out 2))
     go_ret
     exact ⟨by first | rfl | (simp [errW_none, errW_some] <;> rfl) | (simp [*, errW_none, errW_some] <;> rfl), by repeat (first | (with_reducible first | exact HB.out | apply below_alloc | apply pw_below_drewN | apply below_drew1 | refine below_set ?_ GE286.out) | exact HB.out)⟩
end Go.Proofs.YtllehkjebikgpaaGreatDoor.PA
end
section
namespace Go.Proofs.YtllehkjebikgpaaGreatDoor.PA
open Go.RowKit Go.Proofs.YtllehkjebikgpaaGreatDoorW.PrintWords Go.Proofs.YtllehkjebikgpaaGreatDoorW.PrintLast Go.Proofs.YtllehkjebikgpaaGreatDoorW.PrintMore Go.Proofs.YtllehkjebikgpaaGreatDoorX
attribute [local go_sem] max2_int min2_int max_two min_two max_three min_three max_four min_four   -- for this text's walks alone
set_option linter.unusedVariables false
set_option linter.unusedSimpArgs false
attribute [local go_sem high] eqA48
/-! ### value_truth: function 44 -/
def value_truth.f (a0 : Bool) : Option (Int × Int × ByteArray) := if a0 = true then (some (2, 1, (⟨#[]⟩ : ByteArray))) else (some (2, 0, (⟨#[]⟩ : ByteArray)))
set_option maxHeartbeats 8000000 in
set_option maxRecDepth 100000 in
theorem value_truth.calls (a0 : Bool) (r1 : Int) (r2 : Int) (r3 : ByteArray) (w : World) (h : value_truth.f a0 = some (r1, r2, r3)) :
  Calls Tryz.prog 44 #[.bool a0] w fun e w' => e = .returned (.agg #[.int .i64 r1, .int .i64 r2, .string r3]) ∧ Below w.heap.size w w' := by
 have hu48 := Tryz.underlying48; have HB := Aside0.mk (Below.refl w.heap.size w); have H : (if a0 = true then (some (2, 1, (⟨#[]⟩ : ByteArray))) else (some (2, 0, (⟨#[]⟩ : ByteArray)))) = some (r1, r2, r3) := h; clear h
 by_cases c2 : a0 = true
 ·
  subst c2
  have H1 : (some (2, 1, (⟨#[]⟩ : ByteArray))) = some (r1, r2, r3) := by rw [if_pos rfl] at H; exact H
  clear H; have H := H1; clear H1
  simp only [Option.some.injEq, Prod.mk.injEq] at H
  obtain ⟨rfl, rfl, rfl⟩ := H
  go_enter Tryz.func44, Tryz.ntmps44
  go_wp2_with (first | ((with_reducible refine gate_dst (N := 2) rfl ?_); refine box_event ?hg (N := 2) ?hd (cs := #[.int .i64 0, .int .i64 0, .string (⟨#[]⟩ : ByteArray)]) (t := 48) ?hr ?_; (case hd => rfl); (case hg => rfl); (case hr => first | (go_simp; done) | (go_simp; rfl)); intro gb287 hg w3 hbox hb; have BK287 := Aside0.mk (hbox); have GW287 := bz hg; have GE287 := bz hg; replace HB := bs hb; clear hb hbox hg) | ((with_reducible refine gate_dst (N := 3) rfl ?_); refine box_event ?hg (N := 3) ?hd (cs := #[.int .i64 0, .int .i64 0, .string (⟨#[]⟩ : ByteArray)]) (t := 48) ?hr ?_; (case hd => rfl); (case hg => rfl); (case hr => first | (go_simp; done) | (go_simp; rfl)); intro gb288 hg w4 hbox hb; have BK288 := Aside0.mk (hbox); have GW288 := bz hg; have GE288 := bz hg; have NB287_288 := bl BK287 hg; have NB288_287 := bg BK287 hg; replace BK287 := bb BK287 hb; replace HB := bs hb; clear hb hbox hg; have hnb5 := NB288_287.out; have hnc5 := NB287_288.out; have hcz6_0 : w4.cell? ⟨gb288, 0, none⟩ = some (.int .i64 0) := (blk_cell BK288.out 0).trans rfl; have hcz6_1 : w4.cell? ⟨gb288, 1, none⟩ = some (.int .i64 0) := (blk_cell BK288.out 1).trans rfl; have hcz6_2 : w4.cell? ⟨gb288, 2, none⟩ = some (.string (⟨#[]⟩ : ByteArray)) := (blk_cell BK288.out 2).trans rfl; have hfz6_0 := blk_frozen BK288.out 0; have hfz6_1 := blk_frozen BK288.out 1; have hfz6_2 := blk_frozen BK288.out 2) | ((with_reducible refine gate_store (t := 48) (p := 3) rfl ?_); refine store_event (t := 48) (p := 3) (v := ?vo_w7) (w1 := (((w4.setCell ⟨gb288, 0, none⟩ (.int .i64 2)).setCell ⟨gb288, 1, none⟩ (.int .i64 0)).setCell ⟨gb288, 2, none⟩ (.string (⟨#[]⟩ : ByteArray)))) ?hg ?ho ?hn ?hr ?_; (case ho => rfl); (case hg => rfl); (case hn => rfl); (case hr => first | (go_simp; done) | (go_simp; rfl)); intro w7 hw; replace BK287 := bw BK287 hw; replace BK288 : Aside0 (w7.heap[gb288]? = some (.cells #[.int .i64 2, .int .i64 0, .string (⟨#[]⟩ : ByteArray)] 48 (0, 0))) := bp BK288 hw; replace HB := bv hw; clear hw; have hcz8_0 : w7.cell? ⟨gb288, 0, none⟩ = some (.int .i64 2) := (blk_cell BK288.out 0).trans rfl; have hcz8_1 : w7.cell? ⟨gb288, 1, none⟩ = some (.int .i64 0) := (blk_cell BK288.out 1).trans rfl; have hcz8_2 : w7.cell? ⟨gb288, 2, none⟩ = some (.string (⟨#[]⟩ : ByteArray)) := (blk_cell BK288.out 2).trans rfl; have hfz8_0 := blk_frozen BK288.out 0; have hfz8_1 := blk_frozen BK288.out 1; have hfz8_2 := blk_frozen BK288.out 2; have hcz9_0 : w7.cell? ⟨gb287, 0, none⟩ = some (.int .i64 0) := (blk_cell BK287.out 0).trans rfl; have hcz9_1 : w7.cell? ⟨gb287, 1, none⟩ = some (.int .i64 0) := (blk_cell BK287.out 1).trans rfl; have hcz9_2 : w7.cell? ⟨gb287, 2, none⟩ = some (.string (⟨#[]⟩ : ByteArray)) := (blk_cell BK287.out 2).trans rfl; have hfz9_0 := blk_frozen BK287.out 0; have hfz9_1 := blk_frozen BK287.out 1; have hfz9_2 := blk_frozen BK287.out 2) | ((with_reducible refine gate_store (t := 48) (p := 2) rfl ?_); refine store_event (t := 48) (p := 2) (v := ?vo_w10) (w1 := ((((w7.setCell ⟨gb288, 1, none⟩ (.int .i64 1)).setCell ⟨gb287, 0, none⟩ (.int .i64 2)).setCell ⟨gb287, 1, none⟩ (.int .i64 1)).setCell ⟨gb287, 2, none⟩ (.string (⟨#[]⟩ : ByteArray)))) ?hg ?ho ?hn ?hr ?_; (case ho => rfl); (case hg => rfl); (case hn => rfl); (case hr => first | (go_simp; done) | (go_simp; rfl)); intro w10 hw; replace BK287 : Aside0 (w10.heap[gb287]? = some (.cells #[.int .i64 2, .int .i64 1, .string (⟨#[]⟩ : ByteArray)] 48 (0, 0))) := bp BK287 hw; replace BK288 : Aside0 (w10.heap[gb288]? = some (.cells #[.int .i64 2, .int .i64 1, .string (⟨#[]⟩ : ByteArray)] 48 (0, 0))) := bp BK288 hw; replace HB := bv hw; clear hw))
  refine bodyPost_ret (results_cell_row rfl _ _ gb287 48 #[.int .i64 2, .int .i64 1, .string (⟨#[]⟩ : ByteArray)] (0, 0) _ rfl (by (with_reducible repeat (first | refine blk_drewN ?_ _ | refine blk_drew ?_ | refine blk_alloc ?_ _)); exact BK287.out) Tryz.underlying48 rfl (by kernel_rfl)) rfl ?_
  exact ⟨by first | rfl | (simp [errW_none, errW_some] <;> rfl) | (simp [*, errW_none, errW_some] <;> rfl), by repeat (first | (with_reducible first | exact HB.out | apply below_alloc | apply pw_below_drewN | apply below_drew1 | refine below_set ?_ GE287.out | refine below_set ?_ GE288.out) | exact HB.out)⟩
 ·
  replace c2 := Bool.eq_false_iff.mpr c2
  subst c2
  have H1 : (some (2, 0, (⟨#[]⟩ : ByteArray))) = some (r1, r2, r3) := by rw [if_neg (show ¬ (false = true) by decide)] at H; exact H
  clear H; have H := H1; clear H1
  simp only [Option.some.injEq, Prod.mk.injEq] at H
  obtain ⟨rfl, rfl, rfl⟩ := H
  go_enter Tryz.func44, Tryz.ntmps44
  go_wp2_with (first | ((with_reducible refine gate_dst (N := 2) rfl ?_); refine box_event ?hg (N := 2) ?hd (cs := #[.int .i64 0, .int .i64 0, .string (⟨#[]⟩ : ByteArray)]) (t := 48) ?hr ?_; (case hd => rfl); (case hg => rfl); (case hr => first | (go_simp; done) | (go_simp; rfl)); intro gb287 hg w11 hbox hb; have BK287 := Aside0.mk (hbox); have GW287 := bz hg; have GE287 := bz hg; replace HB := bs hb; clear hb hbox hg) | ((with_reducible refine gate_dst (N := 3) rfl ?_); refine box_event ?hg (N := 3) ?hd (cs := #[.int .i64 0, .int .i64 0, .string (⟨#[]⟩ : ByteArray)]) (t := 48) ?hr ?_; (case hd => rfl); (case hg => rfl); (case hr => first | (go_simp; done) | (go_simp; rfl)); intro gb288 hg w12 hbox hb; have BK288 := Aside0.mk (hbox); have GW288 := bz hg; have GE288 := bz hg; have NB287_288 := bl BK287 hg; have NB288_287 := bg BK287 hg; replace BK287 := bb BK287 hb; replace HB := bs hb; clear hb hbox hg; have hnb13 := NB288_287.out; have hnc13 := NB287_288.out; have hcz14_0 : w12.cell? ⟨gb288, 0, none⟩ = some (.int .i64 0) := (blk_cell BK288.out 0).trans rfl; have hcz14_1 : w12.cell? ⟨gb288, 1, none⟩ = some (.int .i64 0) := (blk_cell BK288.out 1).trans rfl; have hcz14_2 : w12.cell? ⟨gb288, 2, none⟩ = some (.string (⟨#[]⟩ : ByteArray)) := (blk_cell BK288.out 2).trans rfl; have hfz14_0 := blk_frozen BK288.out 0; have hfz14_1 := blk_frozen BK288.out 1; have hfz14_2 := blk_frozen BK288.out 2) | ((with_reducible refine gate_store (t := 48) (p := 3) rfl ?_); refine store_event (t := 48) (p := 3) (v := ?vo_w15) (w1 := (((w12.setCell ⟨gb288, 0, none⟩ (.int .i64 2)).setCell ⟨gb288, 1, none⟩ (.int .i64 0)).setCell ⟨gb288, 2, none⟩ (.string (⟨#[]⟩ : ByteArray)))) ?hg ?ho ?hn ?hr ?_; (case ho => rfl); (case hg => rfl); (case hn => rfl); (case hr => first | (go_simp; done) | (go_simp; rfl)); intro w15 hw; replace BK287 := bw BK287 hw; replace BK288 : Aside0 (w15.heap[gb288]? = some (.cells #[.int .i64 2, .int .i64 0, .string (⟨#[]⟩ : ByteArray)] 48 (0, 0))) := bp BK288 hw; replace HB := bv hw; clear hw; have hcz16_0 : w15.cell? ⟨gb288, 0, none⟩ = some (.int .i64 2) := (blk_cell BK288.out 0).trans rfl; have hcz16_1 : w15.cell? ⟨gb288, 1, none⟩ = some (.int .i64 0) := (blk_cell BK288.out 1).trans rfl; have hcz16_2 : w15.cell? ⟨gb288, 2, none⟩ = some (.string (⟨#[]⟩ : ByteArray)) := (blk_cell BK288.out 2).trans rfl; have hfz16_0 := blk_frozen BK288.out 0; have hfz16_1 := blk_frozen BK288.out 1; have hfz16_2 := blk_frozen BK288.out 2; have hcz17_0 : w15.cell? ⟨gb287, 0, none⟩ = some (.int .i64 0) := (blk_cell BK287.out 0).trans rfl; have hcz17_1 : w15.cell? ⟨gb287, 1, none⟩ = some (.int .i64 0) := (blk_cell BK287.out 1).trans rfl; have hcz17_2 : w15.cell? ⟨gb287, 2, none⟩ = some (.string (⟨#[]⟩ : ByteArray)) := (blk_cell BK287.out 2).trans rfl; have hfz17_0 := blk_frozen BK287.out 0; have hfz17_1 := blk_frozen BK287.out 1; have hfz17_2 := blk_frozen BK287.out 2) | ((with_reducible refine gate_store (t := 48) (p := 2) rfl ?_); refine store_event (t := 48) (p := 2) (v := ?vo_w18) (w1 := (((w15.setCell ⟨gb287, 0, none⟩ (.int .i64 2)).setCell ⟨gb287, 1, none⟩ (.int .i64 0)).setCell ⟨gb287, 2, none⟩ (.string (⟨#[]⟩ : ByteArray)))) ?hg ?ho ?hn ?hr ?_; (case ho => rfl); (case hg => rfl); (case hn => rfl); (case hr => first | (go_simp; done) | (go_simp; rfl)); intro w18 hw; replace BK287 : Aside0 (w18.heap[gb287]? = some (.cells #[.int .i64 2, .int .i64 0, .string (⟨#[]⟩ : ByteArray)] 48 (0, 0))) := bp BK287 hw; replace BK288 := bw BK288 hw; replace HB := bv hw; clear hw))
  refine bodyPost_ret (results_cell_row rfl _ _ gb287 48 #[.int .i64 2, .int .i64 0, .string (⟨#[]⟩ : ByteArray)] (0, 0) _ rfl (by (with_reducible repeat (first | refine blk_drewN ?_ _ | refine blk_drew ?_ | refine blk_alloc ?_ _)); exact BK287.out) Tryz.underlying48 rfl (by kernel_rfl)) rfl ?_
  exact ⟨by first | rfl | (simp [errW_none, errW_some] <;> rfl) | (simp [*, errW_none, errW_some] <;> rfl), by repeat (first | (with_reducible first | exact HB.out | apply below_alloc | apply pw_below_drewN | apply below_drew1 | refine below_set ?_ GE287.out | refine below_set ?_ GE288.out) | exact HB.out)⟩
end Go.Proofs.YtllehkjebikgpaaGreatDoor.PA
end
