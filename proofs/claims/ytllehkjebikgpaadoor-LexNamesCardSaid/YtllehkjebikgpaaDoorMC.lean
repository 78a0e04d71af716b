/- Several texts in one (merge.py): PFRIsName, PFRIsWord; no conditions beyond those in each theorem's head. -/
import Derived.Test.YtllehkjebikgpaaDoorPAx0
import Derived.Test.YtllehkjebikgpaaDoorMA
section
namespace Go.Proofs.YtllehkjebikgpaaDoor.PA
open Go.RowKit Go.Proofs.YtllehkjebikgpaaDoorW.PrintWords Go.Proofs.YtllehkjebikgpaaDoorW.PrintLast Go.Proofs.YtllehkjebikgpaaDoorW.PrintMore Go.Proofs.YtllehkjebikgpaaDoorX
attribute [local go_sem] max2_int min2_int max_two min_two max_three min_three max_four min_four   -- for this text's walks alone
set_option linter.unusedVariables false
set_option linter.unusedSimpArgs false

/-! ### unisonref10_IsName: function 11 -/
mutual
def unisonref10_IsName.j0 : Nat → ByteArray → Bool → Option (Bool)
 | 0, _, _ => none
 | k + 1, x0, x13 => if x13 = true then (some false) else (unisonref10_IsName.l0 k x0 0)
def unisonref10_IsName.l0 : Nat → ByteArray → Int → Option (Bool)
 | 0, _, _ => none
 | k + 1, x0, x3 => if x3 < (x0.size : Int) then (if 0 ≤ x3 then ((unisonref10_small.f (bt x0 x3)).bind fun t125 => ((unisonref10_digit.f (bt x0 x3)).bind fun t126 => (if t125 = true then (unisonref10_IsName.l0 k x0 (wrap64 (x3 + 1))) else (if x3 = 0 then (some false) else (if t126 = true then (unisonref10_IsName.l0 k x0 (wrap64 (x3 + 1))) else (if (bt x0 x3) = 95 then (unisonref10_IsName.l0 k x0 (wrap64 (x3 + 1))) else (some false))))))) else (none)) else (some true)
end
def unisonref10_IsName.f (k : Nat) (a0 : ByteArray) : Option (Bool) := if (a0.size : Int) < 1 then (unisonref10_IsName.j0 k a0 true) else (unisonref10_IsName.j0 k a0 (decide ((a0.size : Int) > 16)))
theorem unisonref10_IsName.mono_l : ∀ k, (∀ y0 y1, LeO (unisonref10_IsName.j0 k y0 y1) (unisonref10_IsName.j0 (k + 1) y0 y1)) ∧ (∀ y0 y1, LeO (unisonref10_IsName.l0 k y0 y1) (unisonref10_IsName.l0 (k + 1) y0 y1))
 | 0 => ⟨fun _ _ r h => by simp [unisonref10_IsName.j0] at h, fun _ _ r h => by simp [unisonref10_IsName.l0] at h⟩
 | k + 1 => by
  obtain ⟨ih0, ih1⟩ := unisonref10_IsName.mono_l k
  refine ⟨?_, ?_⟩
  ·
   intro y0 y1
   unfold unisonref10_IsName.j0
   repeat' first
   | (with_reducible exact ih0 _ _)
   | (with_reducible exact ih1 _ _)
   | (with_reducible exact LeO.refl _)
   | (with_reducible exact LeO.none _)
   | (with_reducible refine LeO.ite ?_ ?_)
   | (with_reducible refine LeO.bind ?_ (fun _ => ?_))
   | exact ih0 _ _
   | exact ih1 _ _
   | exact LeO.none _
   | refine LeO.ite ?_ ?_
   | refine LeO.bind ?_ (fun _ => ?_)
  ·
   intro y0 y1
   unfold unisonref10_IsName.l0
   repeat' first
   | (with_reducible exact ih0 _ _)
   | (with_reducible exact ih1 _ _)
   | (with_reducible exact LeO.refl _)
   | (with_reducible exact LeO.none _)
   | (with_reducible refine LeO.ite ?_ ?_)
   | (with_reducible refine LeO.bind ?_ (fun _ => ?_))
   | exact ih0 _ _
   | exact ih1 _ _
   | exact LeO.none _
   | refine LeO.ite ?_ ?_
   | refine LeO.bind ?_ (fun _ => ?_)
theorem unisonref10_IsName.mono : ∀ a0 k, LeO (unisonref10_IsName.f k a0) (unisonref10_IsName.f (k + 1) a0) := by
 intro a0 k
 obtain ⟨ih0, ih1⟩ := unisonref10_IsName.mono_l k
 unfold unisonref10_IsName.f
 repeat' first
   | (with_reducible exact ih0 _ _)
   | (with_reducible exact ih1 _ _)
   | (with_reducible exact LeO.refl _)
   | (with_reducible exact LeO.none _)
   | (with_reducible refine LeO.ite ?_ ?_)
   | (with_reducible refine LeO.bind ?_ (fun _ => ?_))
   | exact ih0 _ _
   | exact ih1 _ _
   | exact LeO.none _
   | refine LeO.ite ?_ ?_
   | refine LeO.bind ?_ (fun _ => ?_)
set_option maxHeartbeats 8000000 in
set_option maxRecDepth 100000 in
theorem unisonref10_IsName.calls (k : Nat) (a0 : ByteArray) (r : Bool) (w : World) (h : unisonref10_IsName.f k a0 = some r) :
  Calls Tryd.prog 11 #[.string a0] w fun e w' => e = .returned (.bool r) ∧ Drawn0 w w' := by
 have H : (if (a0.size : Int) < 1 then (unisonref10_IsName.j0 k a0 true) else (unisonref10_IsName.j0 k a0 (decide ((a0.size : Int) > 16)))) = some r := h; clear h; have HC2 := Aside0.mk H; clear H
 go_enter Tryd.func11, Tryd.ntmps11
 go_upto_region 1 with (fail)
 go_cut [13] (fun v13 wc => ∃ (kq : Nat) (x13_1 : Bool), v13 = .bool x13_1 ∧ Aside0 (unisonref10_IsName.j0 kq a0 x13_1 = some r) ∧ Aside0 (kq ≤ k) ∧ Drawn0 w wc)
 case first =>
  have H := HC2.out; clear HC2
  by_cases c3 : (a0.size : Int) < 1
  ·
   rw [if_pos c3] at H
   have c3b0 : decide ((a0.size : Int) < 1) = true := decide_eq_true c3; have c3b1 : decide (a0.size < 1) = true := decide_eq_true (by omega); clear c3
   (first | rw [c3b0] | (simp only [i64_w, i32_w, u8_w, u32_w]; rw [c3b0]) | rw [c3b1] | skip)
   have H' := Aside0.mk H
   clear H
   go_wp2
   go_meet
   case rel => exact ⟨_, (true), (by first | rfl | (simp; done) | (simp [*]; done)), H', ⟨by first | omega | exact Nat.le_refl _⟩, by repeat (first | exact Drawn0.refl _ | apply Drawn0.step)⟩
  ·
   rw [if_neg c3] at H
   have c3b0 : decide ((a0.size : Int) < 1) = false := decide_eq_false c3; have c3b1 : decide (a0.size < 1) = false := decide_eq_false (by omega); clear c3
   (first | rw [c3b0] | (simp only [i64_w, i32_w, u8_w, u32_w]; rw [c3b0]) | rw [c3b1] | skip)
   have H' := Aside0.mk H
   clear H
   go_wp2
   go_meet
   case rel => exact ⟨_, (decide ((a0.size : Int) > 16)), (by first | rfl | (simp; done) | (simp [*]; done)), H', ⟨by first | omega | exact Nat.le_refl _⟩, by repeat (first | exact Drawn0.refl _ | apply Drawn0.step)⟩
 case rest =>
  clear HC2; (try clear c1); (try clear p2); (try clear c3); (try clear c3b0); (try clear c3b1)
  obtain ⟨kq, x13_1, rfl, HA, HJ1, ⟨mc1, rfl⟩⟩ := hcut
  cases kq with
  | zero => exact absurd HA.out (by simp [unisonref10_IsName.j0])
  | succ kj1 =>
   have H := HA.out; clear HA
   simp only [unisonref10_IsName.j0] at H
   by_cases c4 : x13_1 = true
   ·
    subst c4
    have H1 : (some false) = some r := by rw [if_pos rfl] at H; exact H
    clear H; have H := H1; clear H1
    obtain rfl := Option.some.inj H
    go_wp2
    go_ret
    exact ⟨by first | rfl | (simp; done) | (simp [*]; done), by repeat (first | exact Drawn0.refl _ | apply Drawn0.step)⟩
   ·
    replace c4 := Bool.eq_false_iff.mpr c4
    subst c4
    have H1 : (unisonref10_IsName.l0 kj1 a0 0) = some r := by rw [if_neg (show ¬ (false = true) by decide)] at H; exact H
    clear H; have H := H1; clear H1
    have H' := Aside0.mk H
    clear H
    go_wp2
    go_loopg [3] kj1 (fun kq v3 w' => ∃ (x3_2 : Int), v3 = .int .i64 x3_2 ∧ Aside0 (unisonref10_IsName.l0 kq a0 x3_2 = some r) ∧ Aside0 (kq ≤ kj1) ∧ Drawn0 w w')
    case atStart => exact ⟨(0), (by first | rfl | (simp; done) | (simp [*]; done)), H', ⟨Nat.le_refl _⟩, by repeat (first | exact Drawn0.refl _ | apply Drawn0.step)⟩
    case round =>
     clear H'
     (try clear c1); (try clear p2); (try clear c3); (try clear c3b0); (try clear c3b1); (try clear c4); (try clear p2)
     obtain ⟨x3_2, rfl, HA, HK2, ⟨m2, rfl⟩⟩ := hrel
     cases gk with
     | zero => exact absurd HA.out (by simp [unisonref10_IsName.l0])
     | succ k2 =>
      have H := HA.out; clear HA
      simp only [unisonref10_IsName.l0] at H
      by_cases c5 : x3_2 < (a0.size : Int)
      ·
       rw [if_pos c5] at H
       have c5b0 : decide (x3_2 < (a0.size : Int)) = true := decide_eq_true c5; clear c5
       by_cases c6 : 0 ≤ x3_2
       ·
        rw [if_pos c6] at H
        have c6b0 : decide (0 ≤ x3_2) = true := decide_eq_true c6; clear c6; replace H := Option.bind_eq_some_iff.mp H
        obtain ⟨t125, A80, H⟩ := H
        replace H : ((unisonref10_digit.f (bt a0 x3_2)).bind fun t126 => (if t125 = true then (unisonref10_IsName.l0 k2 a0 (wrap64 (x3_2 + 1))) else (if x3_2 = 0 then (some false) else (if t126 = true then (unisonref10_IsName.l0 k2 a0 (wrap64 (x3_2 + 1))) else (if (bt a0 x3_2) = 95 then (unisonref10_IsName.l0 k2 a0 (wrap64 (x3_2 + 1))) else (some false)))))) = some r := H; have A8 := Aside0.mk A80; clear A80; replace H := Option.bind_eq_some_iff.mp H
        obtain ⟨t126, A100, H⟩ := H
        replace H : (if t125 = true then (unisonref10_IsName.l0 k2 a0 (wrap64 (x3_2 + 1))) else (if x3_2 = 0 then (some false) else (if t126 = true then (unisonref10_IsName.l0 k2 a0 (wrap64 (x3_2 + 1))) else (if (bt a0 x3_2) = 95 then (unisonref10_IsName.l0 k2 a0 (wrap64 (x3_2 + 1))) else (some false))))) = some r := H; have A10 := Aside0.mk A100; clear A100
        by_cases c11 : t125 = true
        ·
         subst c11
         have H1 : (unisonref10_IsName.l0 k2 a0 (wrap64 (x3_2 + 1))) = some r := by rw [if_pos rfl] at H; exact H
         clear H; have H := H1; clear H1
         have H' := Aside0.mk H
         clear H; have p7 : 0 ≤ (x3_2 : Int) := of_decide_eq_true (by first | (with_reducible assumption) | assumption); have q7 : x3_2 < (a0.size : Int) := of_decide_eq_true (by first | (with_reducible assumption) | assumption); have hx7 := bt_at a0 x3_2; replace p7 := eq_true p7; replace q7 := eq_true q7
         go_wp2_with (first | ((with_reducible refine gate_callee (f := 20) rfl ?_); refine gL (some 23) Tryd.func20 #[.int .u8 (bt a0 x3_2)] ?_; (with_reducible refine (unisonref10_small.calls (bt a0 x3_2) true _ A8.out).mono ?_); rintro e w' ⟨rfl, ⟨nd, rfl⟩⟩; refine ⟨_, rfl, ?_⟩; have p9 : 0 ≤ (x3_2 : Int) := of_decide_eq_true (by first | (with_reducible assumption) | assumption); have q9 : x3_2 < (a0.size : Int) := of_decide_eq_true (by first | (with_reducible assumption) | assumption); have hx9 := bt_at a0 x3_2; replace p9 := eq_true p9; replace q9 := eq_true q9) | ((with_reducible refine gate_callee (f := 21) rfl ?_); refine gL (some 27) Tryd.func21 #[.int .u8 (bt a0 x3_2)] ?_; (with_reducible refine (unisonref10_digit.calls (bt a0 x3_2) t126 _ A10.out).mono ?_); rintro e w' ⟨rfl, ⟨nd, rfl⟩⟩; refine ⟨_, rfl, ?_⟩))
         go_roundg k2
         case measure => have := HJ1.out; have := HK2.out; omega
         case rel => exact ⟨(wrap64 (x3_2 + 1)), (by first | rfl | (simp; done) | (simp [*]; done)), H', ⟨by have := HJ1.out; have := HK2.out; omega⟩, by repeat (first | exact Drawn0.refl _ | apply Drawn0.step)⟩
        ·
         replace c11 := Bool.eq_false_iff.mpr c11
         subst c11
         have H1 : (if x3_2 = 0 then (some false) else (if t126 = true then (unisonref10_IsName.l0 k2 a0 (wrap64 (x3_2 + 1))) else (if (bt a0 x3_2) = 95 then (unisonref10_IsName.l0 k2 a0 (wrap64 (x3_2 + 1))) else (some false)))) = some r := by rw [if_neg (show ¬ (false = true) by decide)] at H; exact H
         clear H; have H := H1; clear H1
         by_cases c12 : x3_2 = 0
         ·
          rw [if_pos c12] at H
          have c12b0 : (x3_2 == 0) = true := beq_iff_eq.mpr c12; have c12b1 : (x3_2 != 0) = false := bne_eq_false_iff_eq.mpr c12; clear c12
          obtain rfl := Option.some.inj H
          have p7 : 0 ≤ (x3_2 : Int) := of_decide_eq_true (by first | (with_reducible assumption) | assumption); have q7 : x3_2 < (a0.size : Int) := of_decide_eq_true (by first | (with_reducible assumption) | assumption); have hx7 := bt_at a0 x3_2; replace p7 := eq_true p7; replace q7 := eq_true q7
          go_wp2_with (first | ((with_reducible refine gate_callee (f := 20) rfl ?_); refine gL (some 23) Tryd.func20 #[.int .u8 (bt a0 x3_2)] ?_; (with_reducible refine (unisonref10_small.calls (bt a0 x3_2) false _ A8.out).mono ?_); rintro e w' ⟨rfl, ⟨nd, rfl⟩⟩; refine ⟨_, rfl, ?_⟩; have p9 : 0 ≤ (x3_2 : Int) := of_decide_eq_true (by first | (with_reducible assumption) | assumption); have q9 : x3_2 < (a0.size : Int) := of_decide_eq_true (by first | (with_reducible assumption) | assumption); have hx9 := bt_at a0 x3_2; replace p9 := eq_true p9; replace q9 := eq_true q9) | ((with_reducible refine gate_callee (f := 21) rfl ?_); refine gL (some 27) Tryd.func21 #[.int .u8 (bt a0 x3_2)] ?_; (with_reducible refine (unisonref10_digit.calls (bt a0 x3_2) t126 _ A10.out).mono ?_); rintro e w' ⟨rfl, ⟨nd, rfl⟩⟩; refine ⟨_, rfl, ?_⟩))
          go_ret
          exact ⟨by first | rfl | (simp; done) | (simp [*]; done), by repeat (first | exact Drawn0.refl _ | apply Drawn0.step)⟩
         ·
          rw [if_neg c12] at H
          have c12b0 : (x3_2 == 0) = false := beq_eq_false_iff_ne.mpr c12; have c12b1 : (x3_2 != 0) = true := bne_iff_ne.mpr c12
          by_cases c13 : t126 = true
          ·
           subst c13
           have H1 : (unisonref10_IsName.l0 k2 a0 (wrap64 (x3_2 + 1))) = some r := by rw [if_pos rfl] at H; exact H
           clear H; have H := H1; clear H1
           have H' := Aside0.mk H
           clear H; have p7 : 0 ≤ (x3_2 : Int) := of_decide_eq_true (by first | (with_reducible assumption) | assumption); have q7 : x3_2 < (a0.size : Int) := of_decide_eq_true (by first | (with_reducible assumption) | assumption); have hx7 := bt_at a0 x3_2; replace p7 := eq_true p7; replace q7 := eq_true q7
           go_wp2_with (first | ((with_reducible refine gate_callee (f := 20) rfl ?_); refine gL (some 23) Tryd.func20 #[.int .u8 (bt a0 x3_2)] ?_; (with_reducible refine (unisonref10_small.calls (bt a0 x3_2) false _ A8.out).mono ?_); rintro e w' ⟨rfl, ⟨nd, rfl⟩⟩; refine ⟨_, rfl, ?_⟩; have p9 : 0 ≤ (x3_2 : Int) := of_decide_eq_true (by first | (with_reducible assumption) | assumption); have q9 : x3_2 < (a0.size : Int) := of_decide_eq_true (by first | (with_reducible assumption) | assumption); have hx9 := bt_at a0 x3_2; replace p9 := eq_true p9; replace q9 := eq_true q9) | ((with_reducible refine gate_callee (f := 21) rfl ?_); refine gL (some 27) Tryd.func21 #[.int .u8 (bt a0 x3_2)] ?_; (with_reducible refine (unisonref10_digit.calls (bt a0 x3_2) true _ A10.out).mono ?_); rintro e w' ⟨rfl, ⟨nd, rfl⟩⟩; refine ⟨_, rfl, ?_⟩))
           go_roundg k2
           case measure => have := HJ1.out; have := HK2.out; omega
           case rel => exact ⟨(wrap64 (x3_2 + 1)), (by first | rfl | (simp; done) | (simp [*]; done)), H', ⟨by have := HJ1.out; have := HK2.out; omega⟩, by repeat (first | exact Drawn0.refl _ | apply Drawn0.step)⟩
          ·
           replace c13 := Bool.eq_false_iff.mpr c13
           subst c13
           have H1 : (if (bt a0 x3_2) = 95 then (unisonref10_IsName.l0 k2 a0 (wrap64 (x3_2 + 1))) else (some false)) = some r := by rw [if_neg (show ¬ (false = true) by decide)] at H; exact H
           clear H; have H := H1; clear H1
           by_cases c15 : (bt a0 x3_2) = 95
           ·
            rw [if_pos c15] at H
            have c15b0 : ((bt a0 x3_2) == 95) = true := beq_iff_eq.mpr c15; have c15b1 : ((bt a0 x3_2) != 95) = false := bne_eq_false_iff_eq.mpr c15; clear c15
            have H' := Aside0.mk H
            clear H; have p7 : 0 ≤ (x3_2 : Int) := of_decide_eq_true (by first | (with_reducible assumption) | assumption); have q7 : x3_2 < (a0.size : Int) := of_decide_eq_true (by first | (with_reducible assumption) | assumption); have hx7 := bt_at a0 x3_2; replace p7 := eq_true p7; replace q7 := eq_true q7
            go_wp2_with (first | ((with_reducible refine gate_callee (f := 20) rfl ?_); refine gL (some 23) Tryd.func20 #[.int .u8 (bt a0 x3_2)] ?_; (with_reducible refine (unisonref10_small.calls (bt a0 x3_2) false _ A8.out).mono ?_); rintro e w' ⟨rfl, ⟨nd, rfl⟩⟩; refine ⟨_, rfl, ?_⟩; have p9 : 0 ≤ (x3_2 : Int) := of_decide_eq_true (by first | (with_reducible assumption) | assumption); have q9 : x3_2 < (a0.size : Int) := of_decide_eq_true (by first | (with_reducible assumption) | assumption); have hx9 := bt_at a0 x3_2; replace p9 := eq_true p9; replace q9 := eq_true q9) | ((with_reducible refine gate_callee (f := 21) rfl ?_); refine gL (some 27) Tryd.func21 #[.int .u8 (bt a0 x3_2)] ?_; (with_reducible refine (unisonref10_digit.calls (bt a0 x3_2) false _ A10.out).mono ?_); rintro e w' ⟨rfl, ⟨nd, rfl⟩⟩; refine ⟨_, rfl, ?_⟩; have p14 : 0 ≤ (x3_2 : Int) := of_decide_eq_true (by first | (with_reducible assumption) | assumption); have q14 : x3_2 < (a0.size : Int) := of_decide_eq_true (by first | (with_reducible assumption) | assumption); have hx14 := bt_at a0 x3_2; replace p14 := eq_true p14; replace q14 := eq_true q14))
            go_roundg k2
            case measure => have := HJ1.out; have := HK2.out; omega
            case rel => exact ⟨(wrap64 (x3_2 + 1)), (by first | rfl | (simp; done) | (simp [*]; done)), H', ⟨by have := HJ1.out; have := HK2.out; omega⟩, by repeat (first | exact Drawn0.refl _ | apply Drawn0.step)⟩
           ·
            rw [if_neg c15] at H
            have c15b0 : ((bt a0 x3_2) == 95) = false := beq_eq_false_iff_ne.mpr c15; have c15b1 : ((bt a0 x3_2) != 95) = true := bne_iff_ne.mpr c15
            obtain rfl := Option.some.inj H
            have p7 : 0 ≤ (x3_2 : Int) := of_decide_eq_true (by first | (with_reducible assumption) | assumption); have q7 : x3_2 < (a0.size : Int) := of_decide_eq_true (by first | (with_reducible assumption) | assumption); have hx7 := bt_at a0 x3_2; replace p7 := eq_true p7; replace q7 := eq_true q7
            go_wp2_with (first | ((with_reducible refine gate_callee (f := 20) rfl ?_); refine gL (some 23) Tryd.func20 #[.int .u8 (bt a0 x3_2)] ?_; (with_reducible refine (unisonref10_small.calls (bt a0 x3_2) false _ A8.out).mono ?_); rintro e w' ⟨rfl, ⟨nd, rfl⟩⟩; refine ⟨_, rfl, ?_⟩; have p9 : 0 ≤ (x3_2 : Int) := of_decide_eq_true (by first | (with_reducible assumption) | assumption); have q9 : x3_2 < (a0.size : Int) := of_decide_eq_true (by first | (with_reducible assumption) | assumption); have hx9 := bt_at a0 x3_2; replace p9 := eq_true p9; replace q9 := eq_true q9) | ((with_reducible refine gate_callee (f := 21) rfl ?_); refine gL (some 27) Tryd.func21 #[.int .u8 (bt a0 x3_2)] ?_; (with_reducible refine (unisonref10_digit.calls (bt a0 x3_2) false _ A10.out).mono ?_); rintro e w' ⟨rfl, ⟨nd, rfl⟩⟩; refine ⟨_, rfl, ?_⟩; have p14 : 0 ≤ (x3_2 : Int) := of_decide_eq_true (by first | (with_reducible assumption) | assumption); have q14 : x3_2 < (a0.size : Int) := of_decide_eq_true (by first | (with_reducible assumption) | assumption); have hx14 := bt_at a0 x3_2; replace p14 := eq_true p14; replace q14 := eq_true q14))
            go_ret
            exact ⟨by first | rfl | (simp; done) | (simp [*]; done), by repeat (first | exact Drawn0.refl _ | apply Drawn0.step)⟩
       ·
        rw [if_neg c6] at H
        exact absurd H (by simp)
      ·
       rw [if_neg c5] at H
       have c5b0 : decide (x3_2 < (a0.size : Int)) = false := decide_eq_false c5; clear c5
       obtain rfl := Option.some.inj H
       go_wp2
       go_ret
       exact ⟨by first | rfl | (simp; done) | (simp [*]; done), by repeat (first | exact Drawn0.refl _ | apply Drawn0.step)⟩
end Go.Proofs.YtllehkjebikgpaaDoor.PA
end
section
namespace Go.Proofs.YtllehkjebikgpaaDoor.PA
open Go.RowKit Go.Proofs.YtllehkjebikgpaaDoorW.PrintWords Go.Proofs.YtllehkjebikgpaaDoorW.PrintLast Go.Proofs.YtllehkjebikgpaaDoorW.PrintMore Go.Proofs.YtllehkjebikgpaaDoorX
attribute [local go_sem] max2_int min2_int max_two min_two max_three min_three max_four min_four   -- for this text's walks alone
set_option linter.unusedVariables false
set_option linter.unusedSimpArgs false
/-! ### unisonref10_IsWord: function 12 -/
def unisonref10_IsWord.l0 : Nat → ByteArray → List ByteArray → Int → Option (Bool)
 | 0, _, _, _ => none
 | k + 1, x0, x3, x4 => if x4 < (x3.length : Int) then (if 0 ≤ x4 then (if (rdOf ByteArray.empty x3 x4).toList = x0.toList then (some true) else (unisonref10_IsWord.l0 k x0 x3 (wrap64 (x4 + 1)))) else (none)) else (some false)
def unisonref10_IsWord.f (k : Nat) (a0 : ByteArray) : Option (Bool) := unisonref10_IsWord.l0 k a0 (([(⟨#[83, 69, 76, 69, 67, 84]⟩ : ByteArray), (⟨#[73, 78, 83, 69, 82, 84]⟩ : ByteArray), (⟨#[73, 78, 84, 79]⟩ : ByteArray), (⟨#[86, 65, 76, 85, 69, 83]⟩ : ByteArray), (⟨#[85, 80, 68, 65, 84, 69]⟩ : ByteArray), (⟨#[83, 69, 84]⟩ : ByteArray), (⟨#[68, 69, 76, 69, 84, 69]⟩ : ByteArray), (⟨#[70, 82, 79, 77]⟩ : ByteArray), (⟨#[74, 79, 73, 78]⟩ : ByteArray), (⟨#[79, 78]⟩ : ByteArray), (⟨#[87, 72, 69, 82, 69]⟩ : ByteArray), (⟨#[71, 82, 79, 85, 80]⟩ : ByteArray), (⟨#[79, 82, 68, 69, 82]⟩ : ByteArray), (⟨#[66, 89]⟩ : ByteArray), (⟨#[68, 69, 83, 67]⟩ : ByteArray), (⟨#[76, 73, 77, 73, 84]⟩ : ByteArray), (⟨#[65, 78, 68]⟩ : ByteArray), (⟨#[79, 82]⟩ : ByteArray), (⟨#[78, 79, 84]⟩ : ByteArray), (⟨#[73, 83]⟩ : ByteArray), (⟨#[78, 85, 76, 76]⟩ : ByteArray), (⟨#[84, 82, 85, 69]⟩ : ByteArray), (⟨#[70, 65, 76, 83, 69]⟩ : ByteArray), (⟨#[67, 79, 85, 78, 84]⟩ : ByteArray), (⟨#[83, 85, 77]⟩ : ByteArray), (⟨#[77, 73, 78]⟩ : ByteArray), (⟨#[77, 65, 88]⟩ : ByteArray)] : List ByteArray)) 0
theorem unisonref10_IsWord.mono_l : ∀ k, (∀ y0 y1 y2, LeO (unisonref10_IsWord.l0 k y0 y1 y2) (unisonref10_IsWord.l0 (k + 1) y0 y1 y2))
 | 0 => fun _ _ _ r h => by simp [unisonref10_IsWord.l0] at h
 | k + 1 => by
  have ih0 := unisonref10_IsWord.mono_l k
  ·
   intro y0 y1 y2
   unfold unisonref10_IsWord.l0
   repeat' first
   | (with_reducible exact ih0 _ _ _)
   | (with_reducible exact LeO.refl _)
   | (with_reducible exact LeO.none _)
   | (with_reducible refine LeO.ite ?_ ?_)
   | (with_reducible refine LeO.bind ?_ (fun _ => ?_))
   | exact ih0 _ _ _
   | exact LeO.none _
   | refine LeO.ite ?_ ?_
   | refine LeO.bind ?_ (fun _ => ?_)
theorem unisonref10_IsWord.mono : ∀ a0 k, LeO (unisonref10_IsWord.f k a0) (unisonref10_IsWord.f (k + 1) a0) := by
 intro a0 k
 have ih0 := unisonref10_IsWord.mono_l k
 unfold unisonref10_IsWord.f
 repeat' first
   | (with_reducible exact ih0 _ _ _)
   | (with_reducible exact LeO.refl _)
   | (with_reducible exact LeO.none _)
   | (with_reducible refine LeO.ite ?_ ?_)
   | (with_reducible refine LeO.bind ?_ (fun _ => ?_))
   | exact ih0 _ _ _
   | exact LeO.none _
   | refine LeO.ite ?_ ?_
   | refine LeO.bind ?_ (fun _ => ?_)
set_option maxHeartbeats 8000000 in
set_option maxRecDepth 100000 in
theorem unisonref10_IsWord.calls (k : Nat) (a0 : ByteArray) (r : Bool) (w : World) (h : unisonref10_IsWord.f k a0 = some r) :
  Calls Tryd.prog 12 #[.string a0] w fun e w' => e = .returned (.bool r) ∧ Below w.heap.size w w' := by
 have HB := Aside0.mk (Below.refl w.heap.size w); have H : (unisonref10_IsWord.l0 k a0 (([(⟨#[83, 69, 76, 69, 67, 84]⟩ : ByteArray), (⟨#[73, 78, 83, 69, 82, 84]⟩ : ByteArray), (⟨#[73, 78, 84, 79]⟩ : ByteArray), (⟨#[86, 65, 76, 85, 69, 83]⟩ : ByteArray), (⟨#[85, 80, 68, 65, 84, 69]⟩ : ByteArray), (⟨#[83, 69, 84]⟩ : ByteArray), (⟨#[68, 69, 76, 69, 84, 69]⟩ : ByteArray), (⟨#[70, 82, 79, 77]⟩ : ByteArray), (⟨#[74, 79, 73, 78]⟩ : ByteArray), (⟨#[79, 78]⟩ : ByteArray), (⟨#[87, 72, 69, 82, 69]⟩ : ByteArray), (⟨#[71, 82, 79, 85, 80]⟩ : ByteArray), (⟨#[79, 82, 68, 69, 82]⟩ : ByteArray), (⟨#[66, 89]⟩ : ByteArray), (⟨#[68, 69, 83, 67]⟩ : ByteArray), (⟨#[76, 73, 77, 73, 84]⟩ : ByteArray), (⟨#[65, 78, 68]⟩ : ByteArray), (⟨#[79, 82]⟩ : ByteArray), (⟨#[78, 79, 84]⟩ : ByteArray), (⟨#[73, 83]⟩ : ByteArray), (⟨#[78, 85, 76, 76]⟩ : ByteArray), (⟨#[84, 82, 85, 69]⟩ : ByteArray), (⟨#[70, 65, 76, 83, 69]⟩ : ByteArray), (⟨#[67, 79, 85, 78, 84]⟩ : ByteArray), (⟨#[83, 85, 77]⟩ : ByteArray), (⟨#[77, 73, 78]⟩ : ByteArray), (⟨#[77, 65, 88]⟩ : ByteArray)] : List ByteArray)) 0) = some r := h; clear h
 obtain ⟨y127, hy127⟩ : ∃ y_ : List ByteArray, y_ = (([(⟨#[83, 69, 76, 69, 67, 84]⟩ : ByteArray), (⟨#[73, 78, 83, 69, 82, 84]⟩ : ByteArray), (⟨#[73, 78, 84, 79]⟩ : ByteArray), (⟨#[86, 65, 76, 85, 69, 83]⟩ : ByteArray), (⟨#[85, 80, 68, 65, 84, 69]⟩ : ByteArray), (⟨#[83, 69, 84]⟩ : ByteArray), (⟨#[68, 69, 76, 69, 84, 69]⟩ : ByteArray), (⟨#[70, 82, 79, 77]⟩ : ByteArray), (⟨#[74, 79, 73, 78]⟩ : ByteArray), (⟨#[79, 78]⟩ : ByteArray), (⟨#[87, 72, 69, 82, 69]⟩ : ByteArray), (⟨#[71, 82, 79, 85, 80]⟩ : ByteArray), (⟨#[79, 82, 68, 69, 82]⟩ : ByteArray), (⟨#[66, 89]⟩ : ByteArray), (⟨#[68, 69, 83, 67]⟩ : ByteArray), (⟨#[76, 73, 77, 73, 84]⟩ : ByteArray), (⟨#[65, 78, 68]⟩ : ByteArray), (⟨#[79, 82]⟩ : ByteArray), (⟨#[78, 79, 84]⟩ : ByteArray), (⟨#[73, 83]⟩ : ByteArray), (⟨#[78, 85, 76, 76]⟩ : ByteArray), (⟨#[84, 82, 85, 69]⟩ : ByteArray), (⟨#[70, 65, 76, 83, 69]⟩ : ByteArray), (⟨#[67, 79, 85, 78, 84]⟩ : ByteArray), (⟨#[83, 85, 77]⟩ : ByteArray), (⟨#[77, 73, 78]⟩ : ByteArray), (⟨#[77, 65, 88]⟩ : ByteArray)] : List ByteArray)) := ⟨_, rfl⟩
 replace H : (unisonref10_IsWord.l0 k a0 y127 0) = some r := by first | (rw [hy127]; with_reducible exact H) | (have H2_ := (Option.bind_some _ _).symm.trans H; rw [hy127]; with_reducible exact H2_) | (have H2_ := (Option.bind_some _ _).symm.trans H; with_reducible exact H2_) | with_reducible exact H | (rw [hy127]; exact H) | exact H
 have Ny127 := Aside0.mk hy127; clear hy127
 have H' := Aside0.mk H
 clear H
 go_enter Tryd.func12, Tryd.ntmps12
 go_wp2_with (first | ((with_reducible refine gate_dst (N := 5) rfl ?_); refine Kd.R_lit Kd.string _ 9 ?hg (N := 5) ?hd (xs := ([(⟨#[83, 69, 76, 69, 67, 84]⟩ : ByteArray), (⟨#[73, 78, 83, 69, 82, 84]⟩ : ByteArray), (⟨#[73, 78, 84, 79]⟩ : ByteArray), (⟨#[86, 65, 76, 85, 69, 83]⟩ : ByteArray), (⟨#[85, 80, 68, 65, 84, 69]⟩ : ByteArray), (⟨#[83, 69, 84]⟩ : ByteArray), (⟨#[68, 69, 76, 69, 84, 69]⟩ : ByteArray), (⟨#[70, 82, 79, 77]⟩ : ByteArray), (⟨#[74, 79, 73, 78]⟩ : ByteArray), (⟨#[79, 78]⟩ : ByteArray), (⟨#[87, 72, 69, 82, 69]⟩ : ByteArray), (⟨#[71, 82, 79, 85, 80]⟩ : ByteArray), (⟨#[79, 82, 68, 69, 82]⟩ : ByteArray), (⟨#[66, 89]⟩ : ByteArray), (⟨#[68, 69, 83, 67]⟩ : ByteArray), (⟨#[76, 73, 77, 73, 84]⟩ : ByteArray), (⟨#[65, 78, 68]⟩ : ByteArray), (⟨#[79, 82]⟩ : ByteArray), (⟨#[78, 79, 84]⟩ : ByteArray), (⟨#[73, 83]⟩ : ByteArray), (⟨#[78, 85, 76, 76]⟩ : ByteArray), (⟨#[84, 82, 85, 69]⟩ : ByteArray), (⟨#[70, 65, 76, 83, 69]⟩ : ByteArray), (⟨#[67, 79, 85, 78, 84]⟩ : ByteArray), (⟨#[83, 85, 77]⟩ : ByteArray), (⟨#[77, 73, 78]⟩ : ByteArray), (⟨#[77, 65, 88]⟩ : ByteArray)] : List ByteArray)) (inner := [.string (⟨#[83, 69, 76, 69, 67, 84]⟩ : ByteArray), .string (⟨#[73, 78, 83, 69, 82, 84]⟩ : ByteArray), .string (⟨#[73, 78, 84, 79]⟩ : ByteArray), .string (⟨#[86, 65, 76, 85, 69, 83]⟩ : ByteArray), .string (⟨#[85, 80, 68, 65, 84, 69]⟩ : ByteArray), .string (⟨#[83, 69, 84]⟩ : ByteArray), .string (⟨#[68, 69, 76, 69, 84, 69]⟩ : ByteArray), .string (⟨#[70, 82, 79, 77]⟩ : ByteArray), .string (⟨#[74, 79, 73, 78]⟩ : ByteArray), .string (⟨#[79, 78]⟩ : ByteArray), .string (⟨#[87, 72, 69, 82, 69]⟩ : ByteArray), .string (⟨#[71, 82, 79, 85, 80]⟩ : ByteArray), .string (⟨#[79, 82, 68, 69, 82]⟩ : ByteArray), .string (⟨#[66, 89]⟩ : ByteArray), .string (⟨#[68, 69, 83, 67]⟩ : ByteArray), .string (⟨#[76, 73, 77, 73, 84]⟩ : ByteArray), .string (⟨#[65, 78, 68]⟩ : ByteArray), .string (⟨#[79, 82]⟩ : ByteArray), .string (⟨#[78, 79, 84]⟩ : ByteArray), .string (⟨#[73, 83]⟩ : ByteArray), .string (⟨#[78, 85, 76, 76]⟩ : ByteArray), .string (⟨#[84, 82, 85, 69]⟩ : ByteArray), .string (⟨#[70, 65, 76, 83, 69]⟩ : ByteArray), .string (⟨#[67, 79, 85, 78, 84]⟩ : ByteArray), .string (⟨#[83, 85, 77]⟩ : ByteArray), .string (⟨#[77, 73, 78]⟩ : ByteArray), .string (⟨#[77, 65, 88]⟩ : ByteArray)]) (ok := fun _ => True) (okp := fun _ => True) ?hr ?hp (fun _ hk => hk) trivial (Below.refl _ _) (Nat.le_refl _) (by simp) ?_; (case hd => rfl); (case hg => rfl); (case hr => first | (go_simp; done) | (go_simp; rfl)); (case hp => exact (Reps.one (show Kd.M Kd.string _ _ _ (⟨#[83, 69, 76, 69, 67, 84]⟩ : ByteArray) [.string (⟨#[83, 69, 76, 69, 67, 84]⟩ : ByteArray)] from rfl) (Reps.one (show Kd.M Kd.string _ _ _ (⟨#[73, 78, 83, 69, 82, 84]⟩ : ByteArray) [.string (⟨#[73, 78, 83, 69, 82, 84]⟩ : ByteArray)] from rfl) (Reps.one (show Kd.M Kd.string _ _ _ (⟨#[73, 78, 84, 79]⟩ : ByteArray) [.string (⟨#[73, 78, 84, 79]⟩ : ByteArray)] from rfl) (Reps.one (show Kd.M Kd.string _ _ _ (⟨#[86, 65, 76, 85, 69, 83]⟩ : ByteArray) [.string (⟨#[86, 65, 76, 85, 69, 83]⟩ : ByteArray)] from rfl) (Reps.one (show Kd.M Kd.string _ _ _ (⟨#[85, 80, 68, 65, 84, 69]⟩ : ByteArray) [.string (⟨#[85, 80, 68, 65, 84, 69]⟩ : ByteArray)] from rfl) (Reps.one (show Kd.M Kd.string _ _ _ (⟨#[83, 69, 84]⟩ : ByteArray) [.string (⟨#[83, 69, 84]⟩ : ByteArray)] from rfl) (Reps.one (show Kd.M Kd.string _ _ _ (⟨#[68, 69, 76, 69, 84, 69]⟩ : ByteArray) [.string (⟨#[68, 69, 76, 69, 84, 69]⟩ : ByteArray)] from rfl) (Reps.one (show Kd.M Kd.string _ _ _ (⟨#[70, 82, 79, 77]⟩ : ByteArray) [.string (⟨#[70, 82, 79, 77]⟩ : ByteArray)] from rfl) (Reps.one (show Kd.M Kd.string _ _ _ (⟨#[74, 79, 73, 78]⟩ : ByteArray) [.string (⟨#[74, 79, 73, 78]⟩ : ByteArray)] from rfl) (Reps.one (show Kd.M Kd.string _ _ _ (⟨#[79, 78]⟩ : ByteArray) [.string (⟨#[79, 78]⟩ : ByteArray)] from rfl) (Reps.one (show Kd.M Kd.string _ _ _ (⟨#[87, 72, 69, 82, 69]⟩ : ByteArray) [.string (⟨#[87, 72, 69, 82, 69]⟩ : ByteArray)] from rfl) (Reps.one (show Kd.M Kd.string _ _ _ (⟨#[71, 82, 79, 85, 80]⟩ : ByteArray) [.string (⟨#[71, 82, 79, 85, 80]⟩ : ByteArray)] from rfl) (Reps.one (show Kd.M Kd.string _ _ _ (⟨#[79, 82, 68, 69, 82]⟩ : ByteArray) [.string (⟨#[79, 82, 68, 69, 82]⟩ : ByteArray)] from rfl) (Reps.one (show Kd.M Kd.string _ _ _ (⟨#[66, 89]⟩ : ByteArray) [.string (⟨#[66, 89]⟩ : ByteArray)] from rfl) (Reps.one (show Kd.M Kd.string _ _ _ (⟨#[68, 69, 83, 67]⟩ : ByteArray) [.string (⟨#[68, 69, 83, 67]⟩ : ByteArray)] from rfl) (Reps.one (show Kd.M Kd.string _ _ _ (⟨#[76, 73, 77, 73, 84]⟩ : ByteArray) [.string (⟨#[76, 73, 77, 73, 84]⟩ : ByteArray)] from rfl) (Reps.one (show Kd.M Kd.string _ _ _ (⟨#[65, 78, 68]⟩ : ByteArray) [.string (⟨#[65, 78, 68]⟩ : ByteArray)] from rfl) (Reps.one (show Kd.M Kd.string _ _ _ (⟨#[79, 82]⟩ : ByteArray) [.string (⟨#[79, 82]⟩ : ByteArray)] from rfl) (Reps.one (show Kd.M Kd.string _ _ _ (⟨#[78, 79, 84]⟩ : ByteArray) [.string (⟨#[78, 79, 84]⟩ : ByteArray)] from rfl) (Reps.one (show Kd.M Kd.string _ _ _ (⟨#[73, 83]⟩ : ByteArray) [.string (⟨#[73, 83]⟩ : ByteArray)] from rfl) (Reps.one (show Kd.M Kd.string _ _ _ (⟨#[78, 85, 76, 76]⟩ : ByteArray) [.string (⟨#[78, 85, 76, 76]⟩ : ByteArray)] from rfl) (Reps.one (show Kd.M Kd.string _ _ _ (⟨#[84, 82, 85, 69]⟩ : ByteArray) [.string (⟨#[84, 82, 85, 69]⟩ : ByteArray)] from rfl) (Reps.one (show Kd.M Kd.string _ _ _ (⟨#[70, 65, 76, 83, 69]⟩ : ByteArray) [.string (⟨#[70, 65, 76, 83, 69]⟩ : ByteArray)] from rfl) (Reps.one (show Kd.M Kd.string _ _ _ (⟨#[67, 79, 85, 78, 84]⟩ : ByteArray) [.string (⟨#[67, 79, 85, 78, 84]⟩ : ByteArray)] from rfl) (Reps.one (show Kd.M Kd.string _ _ _ (⟨#[83, 85, 77]⟩ : ByteArray) [.string (⟨#[83, 85, 77]⟩ : ByteArray)] from rfl) (Reps.one (show Kd.M Kd.string _ _ _ (⟨#[77, 73, 78]⟩ : ByteArray) [.string (⟨#[77, 73, 78]⟩ : ByteArray)] from rfl) (Reps.one (show Kd.M Kd.string _ _ _ (⟨#[77, 65, 88]⟩ : ByteArray) [.string (⟨#[77, 65, 88]⟩ : ByteArray)] from rfl) (Reps.none _ _))))))))))))))))))))))))))))); intro v128 w2 ho3 hb hg_ hnew_; clear hg_ hnew_; (first | rw [← Ny127.out] at ho3 | (simp only [Int.reduceToNat] at ho3; rw [← Ny127.out] at ho3)); have HO129 := Aside0.mk (Kd.R_lower ho3 (below_size bel)); replace HB := bs hb; clear hb ho3))
 go_loopg [4] k (fun kq v4 w' => ∃ (x4_1 : Int), v4 = .int .i64 x4_1 ∧ Aside0 (unisonref10_IsWord.l0 kq a0 y127 x4_1 = some r) ∧ Aside0 (kq ≤ k) ∧ Aside0 (Kd.R Kd.string 9 w' w.heap.size (fun _ => True) v128 y127) ∧ Aside0 (Below w.heap.size w w'))
 case atStart => exact ⟨(0), (by first | rfl | (simp; done) | (simp [*]; done)), H', ⟨Nat.le_refl _⟩, ⟨by (with_reducible repeat (first | apply Kd.R_alloc | apply Kd.R_drewN | apply Kd.R_drew)); exact HO129.out⟩, ⟨by repeat (first | (with_reducible first | exact HB.out | apply below_alloc | apply pw_below_drewN | apply below_drew1) | exact HB.out)⟩⟩
 case round =>
  clear H'
  (try clear c1); (try clear p2)
  obtain ⟨x4_1, rfl, HA, HK1, HO_3, HB⟩ := hrel
  cases gk with
  | zero => exact absurd HA.out (by simp [unisonref10_IsWord.l0])
  | succ k1 =>
   have H := HA.out; clear HA
   simp only [unisonref10_IsWord.l0] at H
   by_cases c4 : x4_1 < (y127.length : Int)
   ·
    rw [if_pos c4] at H
    have c4b0 : decide (x4_1 < (y127.length : Int)) = true := decide_eq_true c4; clear c4
    by_cases c5 : 0 ≤ x4_1
    ·
     rw [if_pos c5] at H
     have c5b0 : decide (0 ≤ x4_1) = true := decide_eq_true c5; clear c5
     by_cases c6 : (rdOf ByteArray.empty y127 x4_1).toList = a0.toList
     ·
      rw [if_pos c6] at H
      have c6b0 : ((rdOf ByteArray.empty y127 x4_1).toList == a0.toList) = true := beq_iff_eq.mpr c6; have c6b1 : ((rdOf ByteArray.empty y127 x4_1).toList != a0.toList) = false := bne_eq_false_iff_eq.mpr c6; clear c6
      obtain rfl := Option.some.inj H
      obtain ⟨Ao7, co7, eo7⟩ := Kd.R_slice HO_3.out
      subst eo7
      have p130 : 0 ≤ (x4_1 : Int) := of_decide_eq_true (by first | (with_reducible assumption) | assumption); have q130 : x4_1 < (y127.length : Int) := of_decide_eq_true (by first | (with_reducible assumption) | assumption)
      obtain ⟨ad130, e130, hx130_0⟩ := Kd.at_string (Kd.R_reads' HO_3.out).2.2 x4_1 p130 q130
      cases e130
      replace p130 := eq_true p130; replace q130 := eq_true q130
      go_wp2
      go_ret
      exact ⟨by first | rfl | (simp [errW_none, errW_some] <;> rfl) | (simp [*, errW_none, errW_some] <;> rfl), by repeat (first | (with_reducible first | exact HB.out | apply below_alloc | apply pw_below_drewN | apply below_drew1) | exact HB.out)⟩
     ·
      rw [if_neg c6] at H
      have c6b0 : ((rdOf ByteArray.empty y127 x4_1).toList == a0.toList) = false := beq_eq_false_iff_ne.mpr c6; have c6b1 : ((rdOf ByteArray.empty y127 x4_1).toList != a0.toList) = true := bne_iff_ne.mpr c6
      have H' := Aside0.mk H
      clear H
      obtain ⟨Ao8, co8, eo8⟩ := Kd.R_slice HO_3.out
      subst eo8
      have p130 : 0 ≤ (x4_1 : Int) := of_decide_eq_true (by first | (with_reducible assumption) | assumption); have q130 : x4_1 < (y127.length : Int) := of_decide_eq_true (by first | (with_reducible assumption) | assumption)
      obtain ⟨ad130, e130, hx130_0⟩ := Kd.at_string (Kd.R_reads' HO_3.out).2.2 x4_1 p130 q130
      cases e130
      replace p130 := eq_true p130; replace q130 := eq_true q130
      go_wp2
      go_roundg k1
      case measure => have := HK1.out; omega
      case rel => exact ⟨(wrap64 (x4_1 + 1)), (by first | rfl | (simp; done) | (simp [*]; done)), H', ⟨by have := HK1.out; omega⟩, ⟨by (with_reducible repeat (first | apply Kd.R_alloc | apply Kd.R_drewN | apply Kd.R_drew)); exact HO_3.out⟩, ⟨by repeat (first | (with_reducible first | exact HB.out | apply below_alloc | apply pw_below_drewN | apply below_drew1) | exact HB.out)⟩⟩
    ·
     rw [if_neg c5] at H
     exact absurd H (by simp)
   ·
    rw [if_neg c4] at H
    have c4b0 : decide (x4_1 < (y127.length : Int)) = false := decide_eq_false c4; clear c4
    obtain rfl := Option.some.inj H
    obtain ⟨Ao9, co9, eo9⟩ := Kd.R_slice HO_3.out
    subst eo9
    go_wp2
    go_ret
    exact ⟨by first | rfl | (simp [errW_none, errW_some] <;> rfl) | (simp [*, errW_none, errW_some] <;> rfl), by repeat (first | (with_reducible first | exact HB.out | apply below_alloc | apply pw_below_drewN | apply below_drew1) | exact HB.out)⟩
end Go.Proofs.YtllehkjebikgpaaDoor.PA
end
