/- Several texts in one (merge.py): PFLexRun, PFLexQuoted, PFLexSignOf, PFLexLiteral, PFLexToken; no conditions beyond those in each theorem's head. -/
import Derived.Test.YtllehkjebikgpaaGreatDoorPAx0
import Derived.Test.YtllehkjebikgpaaGreatDoorMA
import Derived.Test.YtllehkjebikgpaaGreatDoorX7
import Derived.Test.YtllehkjebikgpaaGreatDoorXN
section
namespace Go.Proofs.YtllehkjebikgpaaGreatDoor.PA
open Go.RowKit Go.Proofs.YtllehkjebikgpaaGreatDoorW.PrintWords Go.Proofs.YtllehkjebikgpaaGreatDoorW.PrintLast Go.Proofs.YtllehkjebikgpaaGreatDoorW.PrintMore Go.Proofs.YtllehkjebikgpaaGreatDoorX
attribute [local go_sem] max2_int min2_int max_two min_two max_three min_three max_four min_four   -- for this text's walks alone
set_option linter.unusedVariables false
set_option linter.unusedSimpArgs false

/-! ### lex_run: function 15 -/
def lex_run.l0 : Nat → ByteArray → Int → Option (ByteArray)
 | 0, _, _ => none
 | k + 1, x0, x3 => if x3 < (x0.size : Int) then (if 0 ≤ x3 then ((lex_classOf.f k (bt x0 x3)).bind fun t252 => (if t252 = 2 then (lex_run.l0 k x0 (wrap64 (x3 + 1))) else ((lex_classOf.f k (bt x0 x3)).bind fun t253 => (if t253 = 3 then (lex_run.l0 k x0 (wrap64 (x3 + 1))) else ((lex_classOf.f k (bt x0 x3)).bind fun t254 => (if t254 = 4 then (lex_run.l0 k x0 (wrap64 (x3 + 1))) else (if x3 ≤ (x0.size : Int) then (some (x0.extract 0 (x3 : Int).toNat)) else (none)))))))) else (none)) else (if 0 ≤ x3 then (if x3 ≤ (x0.size : Int) then (some (x0.extract 0 (x3 : Int).toNat)) else (none)) else (none))
def lex_run.f (k : Nat) (a0 : ByteArray) : Option (ByteArray) := lex_run.l0 k a0 0
theorem lex_run.mono_l : ∀ k, (∀ y0 y1, LeO (lex_run.l0 k y0 y1) (lex_run.l0 (k + 1) y0 y1))
 | 0 => fun _ _ r h => by simp [lex_run.l0] at h
 | k + 1 => by
  have ih0 := lex_run.mono_l k
  ·
   intro y0 y1
   unfold lex_run.l0
   repeat' first
   | (with_reducible exact ih0 _ _)
   | (with_reducible exact lex_classOf.mono _ _)
   | (with_reducible exact LeO.refl _)
   | (with_reducible exact LeO.none _)
   | (with_reducible refine LeO.ite ?_ ?_)
   | (with_reducible refine LeO.bind ?_ (fun _ => ?_))
   | exact ih0 _ _
   | exact lex_classOf.mono _ _
   | exact LeO.none _
   | refine LeO.ite ?_ ?_
   | refine LeO.bind ?_ (fun _ => ?_)
theorem lex_run.mono : ∀ a0 k, LeO (lex_run.f k a0) (lex_run.f (k + 1) a0) := by
 intro a0 k
 have ih0 := lex_run.mono_l k
 unfold lex_run.f
 repeat' first
   | (with_reducible exact ih0 _ _)
   | (with_reducible exact lex_classOf.mono _ _)
   | (with_reducible exact LeO.refl _)
   | (with_reducible exact LeO.none _)
   | (with_reducible refine LeO.ite ?_ ?_)
   | (with_reducible refine LeO.bind ?_ (fun _ => ?_))
   | exact ih0 _ _
   | exact lex_classOf.mono _ _
   | exact LeO.none _
   | refine LeO.ite ?_ ?_
   | refine LeO.bind ?_ (fun _ => ?_)
set_option maxHeartbeats 8000000 in
set_option maxRecDepth 100000 in
theorem lex_run.calls (k : Nat) (a0 : ByteArray) (r : ByteArray) (w : World) (h : lex_run.f k a0 = some r) :
  Calls Tryz.prog 15 #[.string a0] w fun e w' => e = .returned (.string r) ∧ Drawn0 w w' := by
 have H : (lex_run.l0 k a0 0) = some r := h; clear h
 have H' := Aside0.mk H
 clear H
 go_enter Tryz.func15, Tryz.ntmps15
 go_wp2
 go_loopg [3] k (fun kq v3 w' => ∃ (x3_1 : Int), v3 = .int .i64 x3_1 ∧ Aside0 (lex_run.l0 kq a0 x3_1 = some r) ∧ Aside0 (kq ≤ k) ∧ Drawn0 w w')
 case atStart => exact ⟨(0), (by first | rfl | (simp; done) | (simp [*]; done)), H', ⟨Nat.le_refl _⟩, by repeat (first | exact Drawn0.refl _ | apply Drawn0.step)⟩
 case round =>
  clear H'
  (try clear c1)
  obtain ⟨x3_1, rfl, HA, HK1, ⟨m1, rfl⟩⟩ := hrel
  cases gk with
  | zero => exact absurd HA.out (by simp [lex_run.l0])
  | succ k1 =>
   have H := HA.out; clear HA
   simp only [lex_run.l0] at H
   by_cases c2 : x3_1 < (a0.size : Int)
   ·
    rw [if_pos c2] at H
    have c2b0 : decide (x3_1 < (a0.size : Int)) = true := decide_eq_true c2; clear c2
    by_cases c3 : 0 ≤ x3_1
    ·
     rw [if_pos c3] at H
     have c3b0 : decide (0 ≤ x3_1) = true := decide_eq_true c3; clear c3; replace H := Option.bind_eq_some_iff.mp H
     obtain ⟨t252, A50, H⟩ := H
     replace H : (if t252 = 2 then (lex_run.l0 k1 a0 (wrap64 (x3_1 + 1))) else ((lex_classOf.f k1 (bt a0 x3_1)).bind fun t253 => (if t253 = 3 then (lex_run.l0 k1 a0 (wrap64 (x3_1 + 1))) else ((lex_classOf.f k1 (bt a0 x3_1)).bind fun t254 => (if t254 = 4 then (lex_run.l0 k1 a0 (wrap64 (x3_1 + 1))) else (if x3_1 ≤ (a0.size : Int) then (some (a0.extract 0 (x3_1 : Int).toNat)) else (none))))))) = some r := H; have A5 := Aside0.mk A50; clear A50
     by_cases c6 : t252 = 2
     ·
      rw [if_pos c6] at H
      have c6b0 : (t252 == 2) = true := beq_iff_eq.mpr c6; have c6b1 : (t252 != 2) = false := bne_eq_false_iff_eq.mpr c6; clear c6
      have H' := Aside0.mk H
      clear H; have p4 : 0 ≤ (x3_1 : Int) := of_decide_eq_true (by first | (with_reducible assumption) | assumption); have q4 : x3_1 < (a0.size : Int) := of_decide_eq_true (by first | (with_reducible assumption) | assumption); have hx4 := bt_at a0 x3_1; replace p4 := eq_true p4; replace q4 := eq_true q4
      go_wp2_with (first | (go_at_call 7; (with_reducible refine (lex_classOf.calls k1 (bt a0 x3_1) t252 _ A5.out).mono ?_); rintro e w' ⟨rfl, ⟨nd, rfl⟩⟩))
      go_roundg k1
      case measure => have := HK1.out; omega
      case rel => exact ⟨(wrap64 (x3_1 + 1)), (by first | rfl | (simp; done) | (simp [*]; done)), H', ⟨by have := HK1.out; omega⟩, by repeat (first | exact Drawn0.refl _ | apply Drawn0.step)⟩
     ·
      rw [if_neg c6] at H
      have c6b0 : (t252 == 2) = false := beq_eq_false_iff_ne.mpr c6; have c6b1 : (t252 != 2) = true := bne_iff_ne.mpr c6; replace H := Option.bind_eq_some_iff.mp H
      obtain ⟨t253, A80, H⟩ := H
      replace H : (if t253 = 3 then (lex_run.l0 k1 a0 (wrap64 (x3_1 + 1))) else ((lex_classOf.f k1 (bt a0 x3_1)).bind fun t254 => (if t254 = 4 then (lex_run.l0 k1 a0 (wrap64 (x3_1 + 1))) else (if x3_1 ≤ (a0.size : Int) then (some (a0.extract 0 (x3_1 : Int).toNat)) else (none))))) = some r := H; have A8 := Aside0.mk A80; clear A80
      by_cases c9 : t253 = 3
      ·
       rw [if_pos c9] at H
       have c9b0 : (t253 == 3) = true := beq_iff_eq.mpr c9; have c9b1 : (t253 != 3) = false := bne_eq_false_iff_eq.mpr c9; clear c9
       have c9b0_t252 : (t252 == 3) = true := by have e_ := Option.some.inj (A5.out.symm.trans A8.out); rw [e_]; exact c9b0
       have c9b1_t252 : (t252 != 3) = false := by have e_ := Option.some.inj (A5.out.symm.trans A8.out); rw [e_]; exact c9b1
       have H' := Aside0.mk H
       clear H; have p4 : 0 ≤ (x3_1 : Int) := of_decide_eq_true (by first | (with_reducible assumption) | assumption); have q4 : x3_1 < (a0.size : Int) := of_decide_eq_true (by first | (with_reducible assumption) | assumption); have hx4 := bt_at a0 x3_1; replace p4 := eq_true p4; replace q4 := eq_true q4
       go_wp2_with (first | (go_at_call 7; (with_reducible refine (lex_classOf.calls k1 (bt a0 x3_1) t252 _ A5.out).mono ?_); rintro e w' ⟨rfl, ⟨nd, rfl⟩⟩; have p7 : 0 ≤ (x3_1 : Int) := of_decide_eq_true (by first | (with_reducible assumption) | assumption); have q7 : x3_1 < (a0.size : Int) := of_decide_eq_true (by first | (with_reducible assumption) | assumption); have hx7 := bt_at a0 x3_1; replace p7 := eq_true p7; replace q7 := eq_true q7) | (go_at_call 7; (with_reducible refine (lex_classOf.calls k1 (bt a0 x3_1) t253 _ A8.out).mono ?_); rintro e w' ⟨rfl, ⟨nd, rfl⟩⟩))
       go_roundg k1
       case measure => have := HK1.out; omega
       case rel => exact ⟨(wrap64 (x3_1 + 1)), (by first | rfl | (simp; done) | (simp [*]; done)), H', ⟨by have := HK1.out; omega⟩, by repeat (first | exact Drawn0.refl _ | apply Drawn0.step)⟩
      ·
       rw [if_neg c9] at H
       have c9b0 : (t253 == 3) = false := beq_eq_false_iff_ne.mpr c9; have c9b1 : (t253 != 3) = true := bne_iff_ne.mpr c9; replace H := Option.bind_eq_some_iff.mp H
       have c9b0_t252 : (t252 == 3) = false := by have e_ := Option.some.inj (A5.out.symm.trans A8.out); rw [e_]; exact c9b0
       have c9b1_t252 : (t252 != 3) = true := by have e_ := Option.some.inj (A5.out.symm.trans A8.out); rw [e_]; exact c9b1
       obtain ⟨t254, A110, H⟩ := H
       replace H : (if t254 = 4 then (lex_run.l0 k1 a0 (wrap64 (x3_1 + 1))) else (if x3_1 ≤ (a0.size : Int) then (some (a0.extract 0 (x3_1 : Int).toNat)) else (none))) = some r := H; have A11 := Aside0.mk A110; clear A110
       by_cases c12 : t254 = 4
       ·
        rw [if_pos c12] at H
        have c12b0 : (t254 == 4) = true := beq_iff_eq.mpr c12; have c12b1 : (t254 != 4) = false := bne_eq_false_iff_eq.mpr c12; clear c12
        have c12b0_t252 : (t252 == 4) = true := by have e_ := Option.some.inj (A5.out.symm.trans A11.out); rw [e_]; exact c12b0
        have c12b1_t252 : (t252 != 4) = false := by have e_ := Option.some.inj (A5.out.symm.trans A11.out); rw [e_]; exact c12b1
        have H' := Aside0.mk H
        clear H; have p4 : 0 ≤ (x3_1 : Int) := of_decide_eq_true (by first | (with_reducible assumption) | assumption); have q4 : x3_1 < (a0.size : Int) := of_decide_eq_true (by first | (with_reducible assumption) | assumption); have hx4 := bt_at a0 x3_1; replace p4 := eq_true p4; replace q4 := eq_true q4
        go_wp2_with (first | (go_at_call 7; (with_reducible refine (lex_classOf.calls k1 (bt a0 x3_1) t252 _ A5.out).mono ?_); rintro e w' ⟨rfl, ⟨nd, rfl⟩⟩; have p7 : 0 ≤ (x3_1 : Int) := of_decide_eq_true (by first | (with_reducible assumption) | assumption); have q7 : x3_1 < (a0.size : Int) := of_decide_eq_true (by first | (with_reducible assumption) | assumption); have hx7 := bt_at a0 x3_1; replace p7 := eq_true p7; replace q7 := eq_true q7) | (go_at_call 7; (with_reducible refine (lex_classOf.calls k1 (bt a0 x3_1) t253 _ A8.out).mono ?_); rintro e w' ⟨rfl, ⟨nd, rfl⟩⟩; have p10 : 0 ≤ (x3_1 : Int) := of_decide_eq_true (by first | (with_reducible assumption) | assumption); have q10 : x3_1 < (a0.size : Int) := of_decide_eq_true (by first | (with_reducible assumption) | assumption); have hx10 := bt_at a0 x3_1; replace p10 := eq_true p10; replace q10 := eq_true q10) | (go_at_call 7; (with_reducible refine (lex_classOf.calls k1 (bt a0 x3_1) t254 _ A11.out).mono ?_); rintro e w' ⟨rfl, ⟨nd, rfl⟩⟩))
        go_roundg k1
        case measure => have := HK1.out; omega
        case rel => exact ⟨(wrap64 (x3_1 + 1)), (by first | rfl | (simp; done) | (simp [*]; done)), H', ⟨by have := HK1.out; omega⟩, by repeat (first | exact Drawn0.refl _ | apply Drawn0.step)⟩
       ·
        rw [if_neg c12] at H
        have c12b0 : (t254 == 4) = false := beq_eq_false_iff_ne.mpr c12; have c12b1 : (t254 != 4) = true := bne_iff_ne.mpr c12; have c13b0 := eq_true (of_decide_eq_true (by first | (with_reducible assumption) | assumption) : 0 ≤ x3_1)
        have c12b0_t252 : (t252 == 4) = false := by have e_ := Option.some.inj (A5.out.symm.trans A11.out); rw [e_]; exact c12b0
        have c12b1_t252 : (t252 != 4) = true := by have e_ := Option.some.inj (A5.out.symm.trans A11.out); rw [e_]; exact c12b1
        by_cases c14 : x3_1 ≤ (a0.size : Int)
        ·
         rw [if_pos c14] at H
         have c14b0 := eq_true c14; have c14b1 : decide (x3_1 ≤ (a0.size : Int)) = true := decide_eq_true c14; clear c14
         obtain rfl := Option.some.inj H
         have p4 : 0 ≤ (x3_1 : Int) := of_decide_eq_true (by first | (with_reducible assumption) | assumption); have q4 : x3_1 < (a0.size : Int) := of_decide_eq_true (by first | (with_reducible assumption) | assumption); have hx4 := bt_at a0 x3_1; replace p4 := eq_true p4; replace q4 := eq_true q4
         go_wp2_with (first | (go_at_call 7; (with_reducible refine (lex_classOf.calls k1 (bt a0 x3_1) t252 _ A5.out).mono ?_); rintro e w' ⟨rfl, ⟨nd, rfl⟩⟩; have p7 : 0 ≤ (x3_1 : Int) := of_decide_eq_true (by first | (with_reducible assumption) | assumption); have q7 : x3_1 < (a0.size : Int) := of_decide_eq_true (by first | (with_reducible assumption) | assumption); have hx7 := bt_at a0 x3_1; replace p7 := eq_true p7; replace q7 := eq_true q7) | (go_at_call 7; (with_reducible refine (lex_classOf.calls k1 (bt a0 x3_1) t253 _ A8.out).mono ?_); rintro e w' ⟨rfl, ⟨nd, rfl⟩⟩; have p10 : 0 ≤ (x3_1 : Int) := of_decide_eq_true (by first | (with_reducible assumption) | assumption); have q10 : x3_1 < (a0.size : Int) := of_decide_eq_true (by first | (with_reducible assumption) | assumption); have hx10 := bt_at a0 x3_1; replace p10 := eq_true p10; replace q10 := eq_true q10) | (go_at_call 7; (with_reducible refine (lex_classOf.calls k1 (bt a0 x3_1) t254 _ A11.out).mono ?_); rintro e w' ⟨rfl, ⟨nd, rfl⟩⟩))
         go_ret
         exact ⟨by first | rfl | (simp; done) | (simp [*]; done), by repeat (first | exact Drawn0.refl _ | apply Drawn0.step)⟩
        ·
         rw [if_neg c14] at H
         exact absurd H (by simp)
    ·
     rw [if_neg c3] at H
     exact absurd H (by simp)
   ·
    rw [if_neg c2] at H
    have c2b0 : decide (x3_1 < (a0.size : Int)) = false := decide_eq_false c2; clear c2
    by_cases c15 : 0 ≤ x3_1
    ·
     rw [if_pos c15] at H
     have c15b0 := eq_true c15; have c15b1 : decide (0 ≤ x3_1) = true := decide_eq_true c15; clear c15
     by_cases c16 : x3_1 ≤ (a0.size : Int)
     ·
      rw [if_pos c16] at H
      have c16b0 := eq_true c16; have c16b1 : decide (x3_1 ≤ (a0.size : Int)) = true := decide_eq_true c16; clear c16
      obtain rfl := Option.some.inj H
      go_wp2
      go_ret
      exact ⟨by first | rfl | (simp; done) | (simp [*]; done), by repeat (first | exact Drawn0.refl _ | apply Drawn0.step)⟩
     ·
      rw [if_neg c16] at H
      exact absurd H (by simp)
    ·
     rw [if_neg c15] at H
     exact absurd H (by simp)
end Go.Proofs.YtllehkjebikgpaaGreatDoor.PA
end
section
namespace Go.Proofs.YtllehkjebikgpaaGreatDoor.PA
open Go.RowKit Go.Proofs.YtllehkjebikgpaaGreatDoorW.PrintWords Go.Proofs.YtllehkjebikgpaaGreatDoorW.PrintLast Go.Proofs.YtllehkjebikgpaaGreatDoorW.PrintMore Go.Proofs.YtllehkjebikgpaaGreatDoorX
attribute [local go_sem] max2_int min2_int max_two min_two max_three min_three max_four min_four   -- for this text's walks alone
set_option linter.unusedVariables false
set_option linter.unusedSimpArgs false
/-! ### lex_quoted: function 19 -/
def lex_quoted.l0 : Nat → ByteArray → Int → Option (ByteArray)
 | 0, _, _ => none
 | k + 1, x0, x3 => if x3 < (x0.size : Int) then (if 0 ≤ x3 then (if (bt x0 x3) = 39 then (if (wrap64 (x3 + 1)) < (x0.size : Int) then (if 0 ≤ (wrap64 (x3 + 1)) then (if (bt x0 (wrap64 (x3 + 1))) = 39 then (lex_quoted.l0 k x0 (wrap64 ((wrap64 (x3 + 1)) + 1))) else (if (wrap64 (x3 + 1)) ≤ (x0.size : Int) then (some (x0.extract 0 ((wrap64 (x3 + 1)) : Int).toNat)) else (none))) else (none)) else (if 0 ≤ (wrap64 (x3 + 1)) then (if (wrap64 (x3 + 1)) ≤ (x0.size : Int) then (some (x0.extract 0 ((wrap64 (x3 + 1)) : Int).toNat)) else (none)) else (none))) else (lex_quoted.l0 k x0 (wrap64 (x3 + 1)))) else (none)) else (some (⟨#[]⟩ : ByteArray))
def lex_quoted.f (k : Nat) (a0 : ByteArray) : Option (ByteArray) := lex_quoted.l0 k a0 1
theorem lex_quoted.mono_l : ∀ k, (∀ y0 y1, LeO (lex_quoted.l0 k y0 y1) (lex_quoted.l0 (k + 1) y0 y1))
 | 0 => fun _ _ r h => by simp [lex_quoted.l0] at h
 | k + 1 => by
  have ih0 := lex_quoted.mono_l k
  ·
   intro y0 y1
   unfold lex_quoted.l0
   repeat' first
   | (with_reducible exact ih0 _ _)
   | (with_reducible exact LeO.refl _)
   | (with_reducible exact LeO.none _)
   | (with_reducible refine LeO.ite ?_ ?_)
   | (with_reducible refine LeO.bind ?_ (fun _ => ?_))
   | exact ih0 _ _
   | exact LeO.none _
   | refine LeO.ite ?_ ?_
   | refine LeO.bind ?_ (fun _ => ?_)
theorem lex_quoted.mono : ∀ a0 k, LeO (lex_quoted.f k a0) (lex_quoted.f (k + 1) a0) := by
 intro a0 k
 have ih0 := lex_quoted.mono_l k
 unfold lex_quoted.f
 repeat' first
   | (with_reducible exact ih0 _ _)
   | (with_reducible exact LeO.refl _)
   | (with_reducible exact LeO.none _)
   | (with_reducible refine LeO.ite ?_ ?_)
   | (with_reducible refine LeO.bind ?_ (fun _ => ?_))
   | exact ih0 _ _
   | exact LeO.none _
   | refine LeO.ite ?_ ?_
   | refine LeO.bind ?_ (fun _ => ?_)
set_option maxHeartbeats 8000000 in
set_option maxRecDepth 100000 in
theorem lex_quoted.calls (k : Nat) (a0 : ByteArray) (r : ByteArray) (w : World) (h : lex_quoted.f k a0 = some r) :
  Calls Tryz.prog 19 #[.string a0] w fun e w' => e = .returned (.string r) ∧ Drawn0 w w' := by
 have H : (lex_quoted.l0 k a0 1) = some r := h; clear h
 have H' := Aside0.mk H
 clear H
 go_enter Tryz.func19, Tryz.ntmps19
 go_wp2
 go_loopg [3] k (fun kq v3 w' => ∃ (x3_1 : Int), v3 = .int .i64 x3_1 ∧ Aside0 (lex_quoted.l0 kq a0 x3_1 = some r) ∧ Aside0 (kq ≤ k) ∧ Drawn0 w w')
 case atStart => exact ⟨(1), (by first | rfl | (simp; done) | (simp [*]; done)), H', ⟨Nat.le_refl _⟩, by repeat (first | exact Drawn0.refl _ | apply Drawn0.step)⟩
 case round =>
  clear H'
  (try clear c1)
  obtain ⟨x3_1, rfl, HA, HK1, ⟨m1, rfl⟩⟩ := hrel
  cases gk with
  | zero => exact absurd HA.out (by simp [lex_quoted.l0])
  | succ k1 =>
   have H := HA.out; clear HA
   simp only [lex_quoted.l0] at H
   by_cases c2 : x3_1 < (a0.size : Int)
   ·
    rw [if_pos c2] at H
    have c2b0 : decide (x3_1 < (a0.size : Int)) = true := decide_eq_true c2; clear c2
    by_cases c3 : 0 ≤ x3_1
    ·
     rw [if_pos c3] at H
     have c3b0 : decide (0 ≤ x3_1) = true := decide_eq_true c3; clear c3
     by_cases c5 : (bt a0 x3_1) = 39
     ·
      rw [if_pos c5] at H
      have c5b0 : ((bt a0 x3_1) == 39) = true := beq_iff_eq.mpr c5; have c5b1 : ((bt a0 x3_1) != 39) = false := bne_eq_false_iff_eq.mpr c5; clear c5
      by_cases c6 : (wrap64 (x3_1 + 1)) < (a0.size : Int)
      ·
       rw [if_pos c6] at H
       have c6b0 : decide ((wrap64 (x3_1 + 1)) < (a0.size : Int)) = true := decide_eq_true c6; clear c6
       obtain ⟨ji7, hji7⟩ : ∃ j_ : Int, (wrap64 (x3_1 + 1)) = j_ := ⟨_, rfl⟩
       replace H : (if 0 ≤ (ji7) then (if (bt a0 (ji7)) = 39 then (lex_quoted.l0 k1 a0 (wrap64 ((ji7) + 1))) else (if (ji7) ≤ (a0.size : Int) then (some (a0.extract 0 ((ji7) : Int).toNat)) else (none))) else (none)) = some r := by first | (rw [hji7] at H; exact H) | (simp only [hji7] at H ⊢; exact H)
       (try rw [hji7] at c6b0)
       have hji7w : (IntKind.i64.wrap (x3_1 + 1)) = ji7 := (i64_w _).trans hji7
       by_cases c8 : 0 ≤ (ji7)
       ·
        rw [if_pos c8] at H
        have c8b0 : decide (0 ≤ (ji7)) = true := decide_eq_true c8; clear c8
        by_cases c10 : (bt a0 (ji7)) = 39
        ·
         rw [if_pos c10] at H
         have c10b0 : ((bt a0 (ji7)) == 39) = true := beq_iff_eq.mpr c10; have c10b1 : ((bt a0 (ji7)) != 39) = false := bne_eq_false_iff_eq.mpr c10; clear c10
         have H' := Aside0.mk H
         clear H; have p4 : 0 ≤ (x3_1 : Int) := of_decide_eq_true (by first | (with_reducible assumption) | assumption); have q4 : x3_1 < (a0.size : Int) := of_decide_eq_true (by first | (with_reducible assumption) | assumption); have hx4 := bt_at a0 x3_1; replace p4 := eq_true p4; replace q4 := eq_true q4; have p9 : 0 ≤ ((ji7) : Int) := of_decide_eq_true (by first | (with_reducible assumption) | assumption); have q9 : (ji7) < (a0.size : Int) := of_decide_eq_true (by first | (with_reducible assumption) | assumption); have hx9 := bt_at a0 (ji7); replace p9 := eq_true p9; replace q9 := eq_true q9
         go_wp2
         go_roundg k1
         case measure => have := HK1.out; omega
         case rel => exact ⟨(wrap64 ((ji7) + 1)), (by first | rfl | (simp; done) | (simp only [← hji7] <;> (first | rfl | simp)) | (simp [*]; done)), H', ⟨by have := HK1.out; omega⟩, by repeat (first | exact Drawn0.refl _ | apply Drawn0.step)⟩
        ·
         rw [if_neg c10] at H
         have c10b0 : ((bt a0 (ji7)) == 39) = false := beq_eq_false_iff_ne.mpr c10; have c10b1 : ((bt a0 (ji7)) != 39) = true := bne_iff_ne.mpr c10; have c11b0 := eq_true (of_decide_eq_true (by first | (with_reducible assumption) | assumption) : 0 ≤ (ji7))
         by_cases c12 : (ji7) ≤ (a0.size : Int)
         ·
          rw [if_pos c12] at H
          have c12b0 := eq_true c12; have c12b1 : decide ((ji7) ≤ (a0.size : Int)) = true := decide_eq_true c12; clear c12
          obtain rfl := Option.some.inj H
          have p4 : 0 ≤ (x3_1 : Int) := of_decide_eq_true (by first | (with_reducible assumption) | assumption); have q4 : x3_1 < (a0.size : Int) := of_decide_eq_true (by first | (with_reducible assumption) | assumption); have hx4 := bt_at a0 x3_1; replace p4 := eq_true p4; replace q4 := eq_true q4; have p9 : 0 ≤ ((ji7) : Int) := of_decide_eq_true (by first | (with_reducible assumption) | assumption); have q9 : (ji7) < (a0.size : Int) := of_decide_eq_true (by first | (with_reducible assumption) | assumption); have hx9 := bt_at a0 (ji7); replace p9 := eq_true p9; replace q9 := eq_true q9
          go_wp2
          go_ret
          exact ⟨by first | rfl | (simp; done) | (simp only [← hji7] <;> (first | rfl | simp)) | (simp [*]; done), by repeat (first | exact Drawn0.refl _ | apply Drawn0.step)⟩
         ·
          rw [if_neg c12] at H
          exact absurd H (by simp)
       ·
        rw [if_neg c8] at H
        exact absurd H (by simp)
      ·
       rw [if_neg c6] at H
       have c6b0 : decide ((wrap64 (x3_1 + 1)) < (a0.size : Int)) = false := decide_eq_false c6; clear c6
       obtain ⟨ji13, hji13⟩ : ∃ j_ : Int, (wrap64 (x3_1 + 1)) = j_ := ⟨_, rfl⟩
       replace H : (if 0 ≤ (ji13) then (if (ji13) ≤ (a0.size : Int) then (some (a0.extract 0 ((ji13) : Int).toNat)) else (none)) else (none)) = some r := by first | (rw [hji13] at H; exact H) | (simp only [hji13] at H ⊢; exact H)
       (try rw [hji13] at c6b0)
       have hji13w : (IntKind.i64.wrap (x3_1 + 1)) = ji13 := (i64_w _).trans hji13
       by_cases c14 : 0 ≤ (ji13)
       ·
        rw [if_pos c14] at H
        have c14b0 := eq_true c14; have c14b1 : decide (0 ≤ (ji13)) = true := decide_eq_true c14; clear c14
        by_cases c15 : (ji13) ≤ (a0.size : Int)
        ·
         rw [if_pos c15] at H
         have c15b0 := eq_true c15; have c15b1 : decide ((ji13) ≤ (a0.size : Int)) = true := decide_eq_true c15; clear c15
         obtain rfl := Option.some.inj H
         have p4 : 0 ≤ (x3_1 : Int) := of_decide_eq_true (by first | (with_reducible assumption) | assumption); have q4 : x3_1 < (a0.size : Int) := of_decide_eq_true (by first | (with_reducible assumption) | assumption); have hx4 := bt_at a0 x3_1; replace p4 := eq_true p4; replace q4 := eq_true q4
         go_wp2
         go_ret
         exact ⟨by first | rfl | (simp; done) | (simp only [← hji13] <;> (first | rfl | simp)) | (simp [*]; done), by repeat (first | exact Drawn0.refl _ | apply Drawn0.step)⟩
        ·
         rw [if_neg c15] at H
         exact absurd H (by simp)
       ·
        rw [if_neg c14] at H
        exact absurd H (by simp)
     ·
      rw [if_neg c5] at H
      have c5b0 : ((bt a0 x3_1) == 39) = false := beq_eq_false_iff_ne.mpr c5; have c5b1 : ((bt a0 x3_1) != 39) = true := bne_iff_ne.mpr c5
      have H' := Aside0.mk H
      clear H; have p4 : 0 ≤ (x3_1 : Int) := of_decide_eq_true (by first | (with_reducible assumption) | assumption); have q4 : x3_1 < (a0.size : Int) := of_decide_eq_true (by first | (with_reducible assumption) | assumption); have hx4 := bt_at a0 x3_1; replace p4 := eq_true p4; replace q4 := eq_true q4
      go_wp2
      go_roundg k1
      case measure => have := HK1.out; omega
      case rel => exact ⟨(wrap64 (x3_1 + 1)), (by first | rfl | (simp; done) | (simp [*]; done)), H', ⟨by have := HK1.out; omega⟩, by repeat (first | exact Drawn0.refl _ | apply Drawn0.step)⟩
    ·
     rw [if_neg c3] at H
     exact absurd H (by simp)
   ·
    rw [if_neg c2] at H
    have c2b0 : decide (x3_1 < (a0.size : Int)) = false := decide_eq_false c2; clear c2
    obtain rfl := Option.some.inj H
    go_wp2
    go_ret
    exact ⟨by first | rfl | (simp; done) | (simp [*]; done), by repeat (first | exact Drawn0.refl _ | apply Drawn0.step)⟩
end Go.Proofs.YtllehkjebikgpaaGreatDoor.PA
end
section
namespace Go.Proofs.YtllehkjebikgpaaGreatDoor.PA
open Go.RowKit Go.Proofs.YtllehkjebikgpaaGreatDoorW.PrintWords Go.Proofs.YtllehkjebikgpaaGreatDoorW.PrintLast Go.Proofs.YtllehkjebikgpaaGreatDoorW.PrintMore Go.Proofs.YtllehkjebikgpaaGreatDoorX
attribute [local go_sem] max2_int min2_int max_two min_two max_three min_three max_four min_four   -- for this text's walks alone
set_option linter.unusedVariables false
set_option linter.unusedSimpArgs false

/-! ### lex_signOf: function 21 -/
def lex_signOf.l0 : Nat → ByteArray → List ByteArray → Int → Int → Option (ByteArray)
 | 0, _, _, _, _ => none
 | k + 1, x0, x5, x6, x7 => if x7 < x6 then (if 0 ≤ x7 then (if x7 < (x5.length : Int) then ((strings_HasPrefix.f x0 (rdOf ByteArray.empty x5 x7)).bind fun t271 => (if t271 = true then (some (rdOf ByteArray.empty x5 x7)) else (lex_signOf.l0 k x0 x5 x6 (wrap64 (x7 + 1))))) else (none)) else (none)) else (if 0 ≤ 1 then (if 1 ≤ (x0.size : Int) then (some (x0.extract 0 1)) else (none)) else (none))
def lex_signOf.f (k : Nat) (a0 : ByteArray) : Option (ByteArray) := (some (([(⟨#[60, 62]⟩ : ByteArray), (⟨#[60, 61]⟩ : ByteArray), (⟨#[62, 61]⟩ : ByteArray)] : List ByteArray) : List ByteArray)).bind fun y267 => (lex_signOf.l0 k a0 y267 (y267.length : Int) 0)
theorem lex_signOf.mono_l : ∀ k, (∀ y0 y1 y2 y3, LeO (lex_signOf.l0 k y0 y1 y2 y3) (lex_signOf.l0 (k + 1) y0 y1 y2 y3))
 | 0 => fun _ _ _ _ r h => by simp [lex_signOf.l0] at h
 | k + 1 => by
  have ih0 := lex_signOf.mono_l k
  ·
   intro y0 y1 y2 y3
   unfold lex_signOf.l0
   repeat' first
   | (with_reducible exact ih0 _ _ _ _)
   | (with_reducible exact LeO.refl _)
   | (with_reducible exact LeO.none _)
   | (with_reducible refine LeO.ite ?_ ?_)
   | (with_reducible refine LeO.bind ?_ (fun _ => ?_))
   | exact ih0 _ _ _ _
   | exact LeO.none _
   | refine LeO.ite ?_ ?_
   | refine LeO.bind ?_ (fun _ => ?_)
theorem lex_signOf.mono : ∀ a0 k, LeO (lex_signOf.f k a0) (lex_signOf.f (k + 1) a0) := by
 intro a0 k
 have ih0 := lex_signOf.mono_l k
 unfold lex_signOf.f
 repeat' first
   | (with_reducible exact ih0 _ _ _ _)
   | (with_reducible exact LeO.refl _)
   | (with_reducible exact LeO.none _)
   | (with_reducible refine LeO.ite ?_ ?_)
   | (with_reducible refine LeO.bind ?_ (fun _ => ?_))
   | exact ih0 _ _ _ _
   | exact LeO.none _
   | refine LeO.ite ?_ ?_
   | refine LeO.bind ?_ (fun _ => ?_)
set_option maxHeartbeats 8000000 in
set_option maxRecDepth 100000 in
theorem lex_signOf.calls (k : Nat) (a0 : ByteArray) (r : ByteArray) (w : World) (h : lex_signOf.f k a0 = some r) :
  Calls Tryz.prog 21 #[.string a0] w fun e w' => e = .returned (.string r) ∧ Below w.heap.size w w' := by
 have HB := Aside0.mk (Below.refl w.heap.size w); have H : ((some (([(⟨#[60, 62]⟩ : ByteArray), (⟨#[60, 61]⟩ : ByteArray), (⟨#[62, 61]⟩ : ByteArray)] : List ByteArray) : List ByteArray)).bind fun y267 => (lex_signOf.l0 k a0 y267 (y267.length : Int) 0)) = some r := h; clear h
 obtain ⟨y267, hy267⟩ : ∃ y_ : List ByteArray, y_ = (([(⟨#[60, 62]⟩ : ByteArray), (⟨#[60, 61]⟩ : ByteArray), (⟨#[62, 61]⟩ : ByteArray)] : List ByteArray)) := ⟨_, rfl⟩
 replace H : (lex_signOf.l0 k a0 y267 (y267.length : Int) 0) = some r := by first | (rw [hy267]; with_reducible exact H) | (have H2_ := (Option.bind_some _ _).symm.trans H; rw [hy267]; with_reducible exact H2_) | (have H2_ := (Option.bind_some _ _).symm.trans H; with_reducible exact H2_) | with_reducible exact H | (rw [hy267]; exact H) | exact H
 have Ny267 := Aside0.mk hy267; clear hy267
 have H' := Aside0.mk H
 clear H
 go_enter Tryz.func21, Tryz.ntmps21
 go_wp2_with (first | ((with_reducible refine gate_dst (N := 5) rfl ?_); refine Kd.R_lit Kd.string _ 9 ?hg (N := 5) ?hd (xs := ([(⟨#[60, 62]⟩ : ByteArray), (⟨#[60, 61]⟩ : ByteArray), (⟨#[62, 61]⟩ : ByteArray)] : List ByteArray)) (inner := [.string (⟨#[60, 62]⟩ : ByteArray), .string (⟨#[60, 61]⟩ : ByteArray), .string (⟨#[62, 61]⟩ : ByteArray)]) (ok := fun _ => True) (okp := fun _ => True) ?hr ?hp (fun _ hk => hk) trivial (Below.refl _ _) (Nat.le_refl _) (by simp) ?_; (case hd => rfl); (case hg => rfl); (case hr => first | (go_simp; done) | (go_simp; rfl)); (case hp => exact (Reps.one (show Kd.M Kd.string _ _ _ (⟨#[60, 62]⟩ : ByteArray) [.string (⟨#[60, 62]⟩ : ByteArray)] from rfl) (Reps.one (show Kd.M Kd.string _ _ _ (⟨#[60, 61]⟩ : ByteArray) [.string (⟨#[60, 61]⟩ : ByteArray)] from rfl) (Reps.one (show Kd.M Kd.string _ _ _ (⟨#[62, 61]⟩ : ByteArray) [.string (⟨#[62, 61]⟩ : ByteArray)] from rfl) (Reps.none _ _))))); intro v268 w2 ho3 hb hg_ hnew_; clear hg_ hnew_; (first | rw [← Ny267.out] at ho3 | (simp only [Int.reduceToNat] at ho3; rw [← Ny267.out] at ho3)); have HO269 := Aside0.mk (Kd.R_lower ho3 (below_size bel)); replace HB := bs hb; clear hb ho3; obtain ⟨Ao4, co4, eo4⟩ := Kd.R_slice HO269.out; subst eo4))
 go_loopg [7] k (fun kq v7 w' => ∃ (x7_1 : Int), v7 = .int .i64 x7_1 ∧ Aside0 (lex_signOf.l0 kq a0 y267 (y267.length : Int) x7_1 = some r) ∧ Aside0 (kq ≤ k) ∧ Aside0 (Kd.R Kd.string 9 w' w.heap.size (fun _ => True) (.slice Ao4 y267.length co4) y267) ∧ Aside0 (Below w.heap.size w w'))
 case atStart => exact ⟨(0), (by first | rfl | (simp; done) | (simp [*]; done)), H', ⟨Nat.le_refl _⟩, ⟨by (with_reducible repeat (first | apply Kd.R_alloc | apply Kd.R_drewN | apply Kd.R_drew)); exact HO269.out⟩, ⟨by repeat (first | (with_reducible first | exact HB.out | apply below_alloc | apply pw_below_drewN | apply below_drew1) | exact HB.out)⟩⟩
 case round =>
  clear H'
  (try clear c2); (try clear p2)
  obtain ⟨x7_1, rfl, HA, HK1, HO_5, HB⟩ := hrel
  cases gk with
  | zero => exact absurd HA.out (by simp [lex_signOf.l0])
  | succ k1 =>
   have H := HA.out; clear HA
   simp only [lex_signOf.l0] at H
   by_cases c5 : x7_1 < (y267.length : Int)
   ·
    rw [if_pos c5] at H
    have c5b0 : decide (x7_1 < (y267.length : Int)) = true := decide_eq_true c5; clear c5
    by_cases c6 : 0 ≤ x7_1
    ·
     rw [if_pos c6] at H
     have c6b0 : decide (0 ≤ x7_1) = true := decide_eq_true c6; clear c6
     by_cases c7 : x7_1 < (y267.length : Int)
     ·
      rw [if_pos c7] at H
      have c7b0 : decide (x7_1 < (y267.length : Int)) = true := decide_eq_true c7; clear c7; replace H := Option.bind_eq_some_iff.mp H
      obtain ⟨t271, A80, H⟩ := H
      replace H : (if t271 = true then (some (rdOf ByteArray.empty y267 x7_1)) else (lex_signOf.l0 k1 a0 y267 (y267.length : Int) (wrap64 (x7_1 + 1)))) = some r := H; have A8 := Aside0.mk A80; clear A80
      by_cases c9 : t271 = true
      ·
       subst c9
       have H1 : (some (rdOf ByteArray.empty y267 x7_1)) = some r := by rw [if_pos rfl] at H; exact H
       clear H; have H := H1; clear H1
       obtain rfl := Option.some.inj H
       have p270 : 0 ≤ (x7_1 : Int) := of_decide_eq_true (by first | (with_reducible assumption) | assumption); have q270 : x7_1 < (y267.length : Int) := of_decide_eq_true (by first | (with_reducible assumption) | assumption)
       obtain ⟨ad270, e270, hx270_0⟩ := Kd.at_string (Kd.R_reads' HO_5.out).2.2 x7_1 p270 q270
       cases e270
       replace p270 := eq_true p270; replace q270 := eq_true q270
       go_wp2_with (first | ((with_reducible refine gate_callee (f := 8) rfl ?_); refine gL (some 13) Tryz.func8 #[.string a0, .string (rdOf ByteArray.empty y267 x7_1)] ?_; (with_reducible refine (strings_HasPrefix.calls a0 (rdOf ByteArray.empty y267 x7_1) true _ A8.out).mono ?_); rintro e w' ⟨rfl, ⟨nd, rfl⟩⟩; refine ⟨_, rfl, ?_⟩))
       go_ret
       exact ⟨by first | rfl | (simp [errW_none, errW_some] <;> rfl) | (simp [*, errW_none, errW_some] <;> rfl), by repeat (first | (with_reducible first | exact HB.out | apply below_alloc | apply pw_below_drewN | apply below_drew1) | exact HB.out)⟩
      ·
       replace c9 := Bool.eq_false_iff.mpr c9
       subst c9
       have H1 : (lex_signOf.l0 k1 a0 y267 (y267.length : Int) (wrap64 (x7_1 + 1))) = some r := by rw [if_neg (show ¬ (false = true) by decide)] at H; exact H
       clear H; have H := H1; clear H1
       have H' := Aside0.mk H
       clear H; have p270 : 0 ≤ (x7_1 : Int) := of_decide_eq_true (by first | (with_reducible assumption) | assumption); have q270 : x7_1 < (y267.length : Int) := of_decide_eq_true (by first | (with_reducible assumption) | assumption)
       obtain ⟨ad270, e270, hx270_0⟩ := Kd.at_string (Kd.R_reads' HO_5.out).2.2 x7_1 p270 q270
       cases e270
       replace p270 := eq_true p270; replace q270 := eq_true q270
       go_wp2_with (first | ((with_reducible refine gate_callee (f := 8) rfl ?_); refine gL (some 13) Tryz.func8 #[.string a0, .string (rdOf ByteArray.empty y267 x7_1)] ?_; (with_reducible refine (strings_HasPrefix.calls a0 (rdOf ByteArray.empty y267 x7_1) false _ A8.out).mono ?_); rintro e w' ⟨rfl, ⟨nd, rfl⟩⟩; refine ⟨_, rfl, ?_⟩))
       go_roundg k1
       case measure => have := HK1.out; omega
       case rel => exact ⟨(wrap64 (x7_1 + 1)), (by first | rfl | (simp; done) | (simp [*]; done)), H', ⟨by have := HK1.out; omega⟩, ⟨by (with_reducible repeat (first | apply Kd.R_alloc | apply Kd.R_drewN | apply Kd.R_drew)); exact HO_5.out⟩, ⟨by repeat (first | (with_reducible first | exact HB.out | apply below_alloc | apply pw_below_drewN | apply below_drew1) | exact HB.out)⟩⟩
     ·
      rw [if_neg c7] at H
      exact absurd H (by simp)
    ·
     rw [if_neg c6] at H
     exact absurd H (by simp)
   ·
    rw [if_neg c5] at H
    have c5b0 : decide (x7_1 < (y267.length : Int)) = false := decide_eq_false c5; clear c5
    by_cases c10 : 0 ≤ 1
    ·
     rw [if_pos c10] at H
     have c10b0 := eq_true c10; have c10b1 : decide (0 ≤ 1) = true := decide_eq_true c10; clear c10
     by_cases c11 : 1 ≤ (a0.size : Int)
     ·
      rw [if_pos c11] at H
      have c11b0 := eq_true c11; have c11b1 : decide (1 ≤ (a0.size : Int)) = true := decide_eq_true c11; clear c11
      obtain rfl := Option.some.inj H
      go_wp2
      go_ret
      exact ⟨by first | rfl | (simp [errW_none, errW_some] <;> rfl) | (simp [*, errW_none, errW_some] <;> rfl), by repeat (first | (with_reducible first | exact HB.out | apply below_alloc | apply pw_below_drewN | apply below_drew1) | exact HB.out)⟩
     ·
      rw [if_neg c11] at H
      exact absurd H (by simp)
    ·
     rw [if_neg c10] at H
     exact absurd H (by simp)
end Go.Proofs.YtllehkjebikgpaaGreatDoor.PA
end
section
namespace Go.Proofs.YtllehkjebikgpaaGreatDoor.PA
open Go.RowKit Go.Proofs.YtllehkjebikgpaaGreatDoorW.PrintWords Go.Proofs.YtllehkjebikgpaaGreatDoorW.PrintLast Go.Proofs.YtllehkjebikgpaaGreatDoorW.PrintMore Go.Proofs.YtllehkjebikgpaaGreatDoorX
attribute [local go_sem] max2_int min2_int max_two min_two max_three min_three max_four min_four   -- for this text's walks alone
set_option linter.unusedVariables false
set_option linter.unusedSimpArgs false
/-! ### lex_literal: function 20 -/
def lex_literal.f (a0 : ByteArray) : Option (ByteArray × Int) := if a0.toList = ([] : List UInt8) then (some ((⟨#[]⟩ : ByteArray), 10)) else ((value_Parse.f a0).bind fun bt262 => (some (bt262.2.2.1, bt262.2.2.2)))
set_option maxHeartbeats 8000000 in
set_option maxRecDepth 100000 in
theorem lex_literal.calls (a0 : ByteArray) (r1 : ByteArray) (r2 : Int) (w : World) (h : lex_literal.f a0 = some (r1, r2)) (HG0 : Gw w) :
  Calls Tryz.prog 20 #[.string a0] w fun e w' => e = .returned (.tuple #[.string r1, .int .i64 r2]) ∧ Below w.heap.size w w' := by
 have HG := Aside0.mk HG0
 clear HG0
 have hu48 := Tryz.underlying48; have HB := Aside0.mk (Below.refl w.heap.size w); have H : (if a0.toList = ([] : List UInt8) then (some ((⟨#[]⟩ : ByteArray), 10)) else ((value_Parse.f a0).bind fun bt262 => (some (bt262.2.2.1, bt262.2.2.2)))) = some (r1, r2) := h; clear h
 by_cases c2 : a0.toList = ([] : List UInt8)
 ·
  rw [if_pos c2] at H
  have c2b0 : (a0.toList == ([] : List UInt8)) = true := beq_iff_eq.mpr c2; have c2b1 : (a0.toList != ([] : List UInt8)) = false := bne_eq_false_iff_eq.mpr c2; clear c2
  simp only [Option.some.injEq, Prod.mk.injEq] at H
  obtain ⟨rfl, rfl⟩ := H
  go_enter Tryz.func20, Tryz.ntmps20
  go_wp2
  go_ret2
  exact ⟨by first | rfl | (simp [errW_none, errW_some] <;> rfl) | (simp [*, errW_none, errW_some] <;> rfl), by repeat (first | (with_reducible first | exact HB.out | apply below_alloc | apply pw_below_drewN | apply below_drew1) | exact HB.out)⟩
 ·
  rw [if_neg c2] at H
  have c2b0 : (a0.toList == ([] : List UInt8)) = false := beq_eq_false_iff_ne.mpr c2; have c2b1 : (a0.toList != ([] : List UInt8)) = true := bne_iff_ne.mpr c2; replace H := Option.bind_eq_some_iff.mp H
  obtain ⟨⟨t262, t263, t264, t265⟩, A30, H⟩ := H
  replace H : (some (t264, t265)) = some (r1, r2) := H; have A3 := Aside0.mk A30; clear A30
  simp only [Option.some.injEq, Prod.mk.injEq] at H
  obtain ⟨rfl, rfl⟩ := H
  go_enter Tryz.func20, Tryz.ntmps20
  go_wp2_with (first | ((with_reducible refine gate_callee (f := 32) rfl ?_); refine gL (some 10) Tryz.func32 #[.string a0] ?_; (with_reducible refine (value_Parse.calls a0 t262 t263 t264 t265 _ A3.out (gk HG)).mono ?_); rintro e w4 ⟨rfl, hb⟩; refine ⟨_, rfl, ?_⟩; replace HB := bs hb; (try clear hb); (try clear hb2); (try clear hk); (try clear hi)) | ((with_reducible refine gate_dst (N := 4) rfl ?_); refine box_event ?hg (N := 4) ?hd (cs := #[.int .i64 0, .int .i64 0, .string (⟨#[]⟩ : ByteArray)]) (t := 48) ?hr ?_; (case hd => rfl); (case hg => rfl); (case hr => first | (go_simp; done) | (go_simp; rfl)); intro gb266 hg w5 hbox hb; have BK266 := Aside0.mk (hbox); have GW266 := bz hg; have GE266 := bz hg; replace HB := bs hb; clear hb hbox hg; have hcz6_0 : w5.cell? ⟨gb266, 0, none⟩ = some (.int .i64 0) := (blk_cell BK266.out 0).trans rfl; have hcz6_1 : w5.cell? ⟨gb266, 1, none⟩ = some (.int .i64 0) := (blk_cell BK266.out 1).trans rfl; have hcz6_2 : w5.cell? ⟨gb266, 2, none⟩ = some (.string (⟨#[]⟩ : ByteArray)) := (blk_cell BK266.out 2).trans rfl; have hfz6_0 := blk_frozen BK266.out 0; have hfz6_1 := blk_frozen BK266.out 1; have hfz6_2 := blk_frozen BK266.out 2) | ((with_reducible refine gate_store (t := 48) (p := 4) rfl ?_); refine store_event (t := 48) (p := 4) (v := ?vo_w7) (w1 := (((w5.setCell ⟨gb266, 0, none⟩ (.int .i64 t262)).setCell ⟨gb266, 1, none⟩ (.int .i64 t263)).setCell ⟨gb266, 2, none⟩ (.string t264))) ?hg ?ho ?hn ?hr ?_; (case ho => rfl); (case hg => rfl); (case hn => rfl); (case hr => first | (go_simp; done) | (go_simp; rfl)); intro w7 hw; replace BK266 : Aside0 (w7.heap[gb266]? = some (.cells #[.int .i64 t262, .int .i64 t263, .string t264] 48 (0, 0))) := bp BK266 hw; replace HB := bv hw; clear hw; have hcz8_0 : w7.cell? ⟨gb266, 0, none⟩ = some (.int .i64 t262) := (blk_cell BK266.out 0).trans rfl; have hcz8_1 : w7.cell? ⟨gb266, 1, none⟩ = some (.int .i64 t263) := (blk_cell BK266.out 1).trans rfl; have hcz8_2 : w7.cell? ⟨gb266, 2, none⟩ = some (.string t264) := (blk_cell BK266.out 2).trans rfl; have hfz8_0 := blk_frozen BK266.out 0; have hfz8_1 := blk_frozen BK266.out 1; have hfz8_2 := blk_frozen BK266.out 2))
  go_ret2
  exact ⟨by first | rfl | (simp [errW_none, errW_some] <;> rfl) | (simp [*, errW_none, errW_some] <;> rfl), by repeat (first | (with_reducible first | exact HB.out | apply below_alloc | apply pw_below_drewN | apply below_drew1 | refine below_set ?_ GE266.out) | exact HB.out)⟩
end Go.Proofs.YtllehkjebikgpaaGreatDoor.PA
end
section
namespace Go.Proofs.YtllehkjebikgpaaGreatDoor.PA
open Go.RowKit Go.Proofs.YtllehkjebikgpaaGreatDoorW.PrintWords Go.Proofs.YtllehkjebikgpaaGreatDoorW.PrintLast Go.Proofs.YtllehkjebikgpaaGreatDoorW.PrintMore Go.Proofs.YtllehkjebikgpaaGreatDoorX
attribute [local go_sem] max2_int min2_int max_two min_two max_three min_three max_four min_four   -- for this text's walks alone
set_option linter.unusedVariables false
set_option linter.unusedSimpArgs false

/-! ### lex_token: function 10 -/
def lex_token.j0 : Nat → ByteArray → ByteArray → Int → Bool → Option (Int × Int × ByteArray × Int × Int × Int)
 | 0, _, _, _, _ => none
 | k + 1, x0, x5, x14, x29 => if x29 = true then ((lex_IsWord.f k x5).bind fun t277 => (if t277 = true then (some (4, 0, x5, 0, (x5.size : Int), 0)) else ((lex_IsName.f k x5).bind fun t278 => (if t278 = true then (some (3, 0, x5, 0, (x5.size : Int), 0)) else (some (0, 0, (⟨#[]⟩ : ByteArray), 0, 0, 102)))))) else (if x14 = 5 then (if 1 ≤ (x0.size : Int) then ((lex_run.f k (x0.extract 1 x0.size)).bind fun t279 => ((lex_IsName.f k t279).bind fun t280 => (if t280 = true then (some (6, 0, t279, 0, wrap64 ((t279.size : Int) + 1), 0)) else (some (0, 0, (⟨#[]⟩ : ByteArray), 0, 0, 102))))) else (none)) else (if x14 = 6 then ((lex_quoted.f k x0).bind fun t281 => ((lex_literal.f t281).bind fun bt282 => (if bt282.2 = 0 then (some (5, 0, bt282.1, 0, (t281.size : Int), 0)) else (some (0, 0, (⟨#[]⟩ : ByteArray), 0, 0, 103))))) else (if x14 = 7 then ((lex_signOf.f k x0).bind fun t284 => (some (7, 0, t284, 0, (t284.size : Int), 0))) else (if x14 = 8 then ((lex_signOf.f k x0).bind fun t285 => (some (7, 0, t285, 0, (t285.size : Int), 0))) else (some (0, 0, (⟨#[]⟩ : ByteArray), 0, 0, 100))))))
def lex_token.f (k : Nat) (a0 : ByteArray) : Option (Int × Int × ByteArray × Int × Int × Int) := (lex_run.f k a0).bind fun t273 => (if 0 < (a0.size : Int) then ((lex_classOf.f k (bt a0 0)).bind fun t274 => (if t274 = 2 then ((lex_number.f t273).bind fun bt275 => (if bt275.2 = true then (some (2, bt275.1, (⟨#[]⟩ : ByteArray), 0, (t273.size : Int), 0)) else (some (0, 0, (⟨#[]⟩ : ByteArray), 0, 0, 101)))) else (if t274 = 3 then (lex_token.j0 k a0 t273 t274 (t274 == 3)) else (lex_token.j0 k a0 t273 t274 (t274 == 4))))) else (none))
theorem lex_token.mono_l : ∀ k, (∀ y0 y1 y2 y3, LeO (lex_token.j0 k y0 y1 y2 y3) (lex_token.j0 (k + 1) y0 y1 y2 y3))
 | 0 => fun _ _ _ _ r h => by simp [lex_token.j0] at h
 | k + 1 => by
  have ih0 := lex_token.mono_l k
  ·
   intro y0 y1 y2 y3
   unfold lex_token.j0
   repeat' first
   | (with_reducible exact ih0 _ _ _ _)
   | (with_reducible exact lex_IsName.mono _ _)
   | (with_reducible exact lex_IsWord.mono _ _)
   | (with_reducible exact lex_classOf.mono _ _)
   | (with_reducible exact lex_quoted.mono _ _)
   | (with_reducible exact lex_run.mono _ _)
   | (with_reducible exact lex_signOf.mono _ _)
   | (with_reducible exact LeO.refl _)
   | (with_reducible exact LeO.none _)
   | (with_reducible refine LeO.ite ?_ ?_)
   | (with_reducible refine LeO.bind ?_ (fun _ => ?_))
   | exact ih0 _ _ _ _
   | exact lex_IsName.mono _ _
   | exact lex_IsWord.mono _ _
   | exact lex_classOf.mono _ _
   | exact lex_quoted.mono _ _
   | exact lex_run.mono _ _
   | exact lex_signOf.mono _ _
   | exact LeO.none _
   | refine LeO.ite ?_ ?_
   | refine LeO.bind ?_ (fun _ => ?_)
theorem lex_token.mono : ∀ a0 k, LeO (lex_token.f k a0) (lex_token.f (k + 1) a0) := by
 intro a0 k
 have ih0 := lex_token.mono_l k
 unfold lex_token.f
 repeat' first
   | (with_reducible exact ih0 _ _ _ _)
   | (with_reducible exact lex_IsName.mono _ _)
   | (with_reducible exact lex_IsWord.mono _ _)
   | (with_reducible exact lex_classOf.mono _ _)
   | (with_reducible exact lex_quoted.mono _ _)
   | (with_reducible exact lex_run.mono _ _)
   | (with_reducible exact lex_signOf.mono _ _)
   | (with_reducible exact LeO.refl _)
   | (with_reducible exact LeO.none _)
   | (with_reducible refine LeO.ite ?_ ?_)
   | (with_reducible refine LeO.bind ?_ (fun _ => ?_))
   | exact ih0 _ _ _ _
   | exact lex_IsName.mono _ _
   | exact lex_IsWord.mono _ _
   | exact lex_classOf.mono _ _
   | exact lex_quoted.mono _ _
   | exact lex_run.mono _ _
   | exact lex_signOf.mono _ _
   | exact LeO.none _
   | refine LeO.ite ?_ ?_
   | refine LeO.bind ?_ (fun _ => ?_)
set_option maxHeartbeats 8000000 in
set_option maxRecDepth 100000 in
theorem lex_token.calls (k : Nat) (a0 : ByteArray) (r1 : Int) (r2 : Int) (r3 : ByteArray) (r4 : Int) (r5 : Int) (r6 : Int) (w : World) (h : lex_token.f k a0 = some (r1, r2, r3, r4, r5, r6)) (HG0 : Gw w) :
  Calls Tryz.prog 10 #[.string a0] w fun e w' => e = .returned (.tuple #[.agg #[.int .i64 r1, .int .i64 r2, .string r3, .int .i64 r4], .int .i64 r5, .int .i64 r6]) ∧ Below w.heap.size w w' := by
 have HG := Aside0.mk HG0
 clear HG0
 have hu28 := Tryz.underlying28; have HB := Aside0.mk (Below.refl w.heap.size w); have H : ((lex_run.f k a0).bind fun t273 => (if 0 < (a0.size : Int) then ((lex_classOf.f k (bt a0 0)).bind fun t274 => (if t274 = 2 then ((lex_number.f t273).bind fun bt275 => (if bt275.2 = true then (some (2, bt275.1, (⟨#[]⟩ : ByteArray), 0, (t273.size : Int), 0)) else (some (0, 0, (⟨#[]⟩ : ByteArray), 0, 0, 101)))) else (if t274 = 3 then (lex_token.j0 k a0 t273 t274 (t274 == 3)) else (lex_token.j0 k a0 t273 t274 (t274 == 4))))) else (none))) = some (r1, r2, r3, r4, r5, r6) := h; clear h; replace H := Option.bind_eq_some_iff.mp H
 obtain ⟨t273, A20, H⟩ := H
 replace H : (if 0 < (a0.size : Int) then ((lex_classOf.f k (bt a0 0)).bind fun t274 => (if t274 = 2 then ((lex_number.f t273).bind fun bt275 => (if bt275.2 = true then (some (2, bt275.1, (⟨#[]⟩ : ByteArray), 0, (t273.size : Int), 0)) else (some (0, 0, (⟨#[]⟩ : ByteArray), 0, 0, 101)))) else (if t274 = 3 then (lex_token.j0 k a0 t273 t274 (t274 == 3)) else (lex_token.j0 k a0 t273 t274 (t274 == 4))))) else (none)) = some (r1, r2, r3, r4, r5, r6) := H; have A2 := Aside0.mk A20; clear A20
 by_cases c3 : 0 < (a0.size : Int)
 ·
  rw [if_pos c3] at H
  have c3b0 : decide (0 < (a0.size : Int)) = true := decide_eq_true c3; have c3b1 : decide (0 < a0.size) = true := decide_eq_true (by omega); clear c3; replace H := Option.bind_eq_some_iff.mp H
  obtain ⟨t274, A50, H⟩ := H
  replace H : (if t274 = 2 then ((lex_number.f t273).bind fun bt275 => (if bt275.2 = true then (some (2, bt275.1, (⟨#[]⟩ : ByteArray), 0, (t273.size : Int), 0)) else (some (0, 0, (⟨#[]⟩ : ByteArray), 0, 0, 101)))) else (if t274 = 3 then (lex_token.j0 k a0 t273 t274 (t274 == 3)) else (lex_token.j0 k a0 t273 t274 (t274 == 4)))) = some (r1, r2, r3, r4, r5, r6) := H; have A5 := Aside0.mk A50; clear A50
  by_cases c6 : t274 = 2
  ·
   rw [if_pos c6] at H
   have c6b0 : (t274 == 2) = true := beq_iff_eq.mpr c6; have c6b1 : (t274 != 2) = false := bne_eq_false_iff_eq.mpr c6; clear c6; replace H := Option.bind_eq_some_iff.mp H
   obtain ⟨⟨t275, t276⟩, A70, H⟩ := H
   replace H : (if t276 = true then (some (2, t275, (⟨#[]⟩ : ByteArray), 0, (t273.size : Int), 0)) else (some (0, 0, (⟨#[]⟩ : ByteArray), 0, 0, 101))) = some (r1, r2, r3, r4, r5, r6) := H; have A7 := Aside0.mk A70; clear A70
   by_cases c8 : t276 = true
   ·
    subst c8
    have H1 : (some (2, t275, (⟨#[]⟩ : ByteArray), 0, (t273.size : Int), 0)) = some (r1, r2, r3, r4, r5, r6) := by rw [if_pos rfl] at H; exact H
    clear H; have H := H1; clear H1
    simp only [Option.some.injEq, Prod.mk.injEq] at H
    obtain ⟨rfl, rfl, rfl, rfl, rfl, rfl⟩ := H
    go_enter Tryz.func10, Tryz.ntmps10
    go_wp2_with (first | ((with_reducible refine gate_dst (N := 2) rfl ?_); refine box_event ?hg (N := 2) ?hd (cs := #[.int .i64 0, .int .i64 0, .string (⟨#[]⟩ : ByteArray), .int .i64 0]) (t := 28) ?hr ?_; (case hd => rfl); (case hg => rfl); (case hr => first | (go_simp; done) | (go_simp; rfl)); intro gb272 hg w9 hbox hb; have BK272 := Aside0.mk (hbox); have GW272 := bz hg; have GE272 := bz hg; replace HB := bs hb; clear hb hbox hg) | ((with_reducible refine gate_callee (f := 15) rfl ?_); refine gL (some 11) Tryz.func15 #[.string a0] ?_; (with_reducible refine (lex_run.calls k a0 t273 _ A2.out).mono ?_); rintro e w' ⟨rfl, ⟨nd, rfl⟩⟩; refine ⟨_, rfl, ?_⟩; (try (rw [drewN_self w9]; generalize hq_ : World.drewN w9 _ = w9; replace BK272 : Aside0 (w9.heap[gb272]? = some (.cells #[.int .i64 0, .int .i64 0, .string (⟨#[]⟩ : ByteArray), .int .i64 0] 28 (0, 0))) := ⟨by rw [← hq_]; exact (by (with_reducible repeat (first | refine blk_drewN ?_ _ | refine blk_drew ?_ | refine blk_alloc ?_ _)); exact BK272.out)⟩; replace HB : Aside0 (Below w.heap.size w w9) := ⟨by rw [← hq_]; exact bel⟩; clear hq_)); have p4 : 0 ≤ (0 : Int) := (by omega); have q4 : 0 < a0.size := (by have : (0 : Int) < (a0.size : Int) := of_decide_eq_true (by first | (with_reducible assumption) | assumption); omega); have hx4 : ∀ h : 0 < a0.size, ((a0[0]'h).toNat : Int) = bt a0 0 := bt_at a0 0; clear p4; have qi4 : (0 < (a0.size : Int)) = True := eq_true (of_decide_eq_true (by first | (with_reducible assumption) | assumption)); replace q4 := eq_true q4) | ((with_reducible refine gate_callee (f := 7) rfl ?_); refine gL (some 14) Tryz.func7 #[.int .u8 (bt a0 0)] ?_; (with_reducible refine (lex_classOf.calls k (bt a0 0) t274 _ A5.out).mono ?_); rintro e w' ⟨rfl, ⟨nd, rfl⟩⟩; refine ⟨_, rfl, ?_⟩; (try (rw [drewN_self w9]; generalize hq_ : World.drewN w9 _ = w9; replace BK272 : Aside0 (w9.heap[gb272]? = some (.cells #[.int .i64 0, .int .i64 0, .string (⟨#[]⟩ : ByteArray), .int .i64 0] 28 (0, 0))) := ⟨by rw [← hq_]; exact (by (with_reducible repeat (first | refine blk_drewN ?_ _ | refine blk_drew ?_ | refine blk_alloc ?_ _)); exact BK272.out)⟩; replace HB : Aside0 (Below w.heap.size w w9) := ⟨by rw [← hq_]; exact bel⟩; clear hq_))) | ((with_reducible refine gate_callee (f := 16) rfl ?_); refine gL (some 19) Tryz.func16 #[.string t273] ?_; (with_reducible refine (lex_number.calls t273 t275 true _ A7.out (gk HG)).mono ?_); rintro e w10 ⟨rfl, hb⟩; refine ⟨_, rfl, ?_⟩; replace BK272 := bb BK272 hb; replace HB := bs hb; (try clear hb); (try clear hb2); (try clear hk); (try clear hi); have hcz11_0 : w10.cell? ⟨gb272, 0, none⟩ = some (.int .i64 0) := (blk_cell BK272.out 0).trans rfl; have hcz11_1 : w10.cell? ⟨gb272, 1, none⟩ = some (.int .i64 0) := (blk_cell BK272.out 1).trans rfl; have hcz11_2 : w10.cell? ⟨gb272, 2, none⟩ = some (.string (⟨#[]⟩ : ByteArray)) := (blk_cell BK272.out 2).trans rfl; have hcz11_3 : w10.cell? ⟨gb272, 3, none⟩ = some (.int .i64 0) := (blk_cell BK272.out 3).trans rfl; have hfz11_0 := blk_frozen BK272.out 0; have hfz11_1 := blk_frozen BK272.out 1; have hfz11_2 := blk_frozen BK272.out 2; have hfz11_3 := blk_frozen BK272.out 3) | ((with_reducible refine gate_store (t := 28) (p := 2) rfl ?_); refine store_event (t := 28) (p := 2) (v := ?vo_w12) (w1 := ((((w10.setCell ⟨gb272, 0, none⟩ (.int .i64 2)).setCell ⟨gb272, 1, none⟩ (.int .i64 t275)).setCell ⟨gb272, 2, none⟩ (.string (⟨#[]⟩ : ByteArray))).setCell ⟨gb272, 3, none⟩ (.int .i64 0))) ?hg ?ho ?hn ?hr ?_; (case ho => rfl); (case hg => rfl); (case hn => rfl); (case hr => first | (go_simp; done) | (go_simp; rfl)); intro w12 hw; replace BK272 : Aside0 (w12.heap[gb272]? = some (.cells #[.int .i64 2, .int .i64 t275, .string (⟨#[]⟩ : ByteArray), .int .i64 0] 28 (0, 0))) := bp BK272 hw; replace HB := bv hw; clear hw))
    refine bodyPost_ret (results_ctt rfl _ _ gb272 28 #[.int .i64 2, .int .i64 t275, .string (⟨#[]⟩ : ByteArray), .int .i64 0] (0, 0) _ rfl (by (with_reducible repeat (first | refine blk_drewN ?_ _ | refine blk_drew ?_ | refine blk_alloc ?_ _)); exact BK272.out) Tryz.underlying28 rfl (by kernel_rfl)) rfl ?_
    exact ⟨by first | rfl | (simp [errW_none, errW_some] <;> rfl) | (simp [*, errW_none, errW_some] <;> rfl), by repeat (first | (with_reducible first | exact HB.out | apply below_alloc | apply pw_below_drewN | apply below_drew1 | refine below_set ?_ GE272.out) | exact HB.out)⟩
   ·
    replace c8 := Bool.eq_false_iff.mpr c8
    subst c8
    have H1 : (some (0, 0, (⟨#[]⟩ : ByteArray), 0, 0, 101)) = some (r1, r2, r3, r4, r5, r6) := by rw [if_neg (show ¬ (false = true) by decide)] at H; exact H
    clear H; have H := H1; clear H1
    simp only [Option.some.injEq, Prod.mk.injEq] at H
    obtain ⟨rfl, rfl, rfl, rfl, rfl, rfl⟩ := H
    go_enter Tryz.func10, Tryz.ntmps10
    go_wp2_with (first | ((with_reducible refine gate_dst (N := 2) rfl ?_); refine box_event ?hg (N := 2) ?hd (cs := #[.int .i64 0, .int .i64 0, .string (⟨#[]⟩ : ByteArray), .int .i64 0]) (t := 28) ?hr ?_; (case hd => rfl); (case hg => rfl); (case hr => first | (go_simp; done) | (go_simp; rfl)); intro gb272 hg w13 hbox hb; have BK272 := Aside0.mk (hbox); have GW272 := bz hg; have GE272 := bz hg; replace HB := bs hb; clear hb hbox hg) | ((with_reducible refine gate_callee (f := 15) rfl ?_); refine gL (some 11) Tryz.func15 #[.string a0] ?_; (with_reducible refine (lex_run.calls k a0 t273 _ A2.out).mono ?_); rintro e w' ⟨rfl, ⟨nd, rfl⟩⟩; refine ⟨_, rfl, ?_⟩; (try (rw [drewN_self w13]; generalize hq_ : World.drewN w13 _ = w13; replace BK272 : Aside0 (w13.heap[gb272]? = some (.cells #[.int .i64 0, .int .i64 0, .string (⟨#[]⟩ : ByteArray), .int .i64 0] 28 (0, 0))) := ⟨by rw [← hq_]; exact (by (with_reducible repeat (first | refine blk_drewN ?_ _ | refine blk_drew ?_ | refine blk_alloc ?_ _)); exact BK272.out)⟩; replace HB : Aside0 (Below w.heap.size w w13) := ⟨by rw [← hq_]; exact bel⟩; clear hq_)); have p4 : 0 ≤ (0 : Int) := (by omega); have q4 : 0 < a0.size := (by have : (0 : Int) < (a0.size : Int) := of_decide_eq_true (by first | (with_reducible assumption) | assumption); omega); have hx4 : ∀ h : 0 < a0.size, ((a0[0]'h).toNat : Int) = bt a0 0 := bt_at a0 0; clear p4; have qi4 : (0 < (a0.size : Int)) = True := eq_true (of_decide_eq_true (by first | (with_reducible assumption) | assumption)); replace q4 := eq_true q4) | ((with_reducible refine gate_callee (f := 7) rfl ?_); refine gL (some 14) Tryz.func7 #[.int .u8 (bt a0 0)] ?_; (with_reducible refine (lex_classOf.calls k (bt a0 0) t274 _ A5.out).mono ?_); rintro e w' ⟨rfl, ⟨nd, rfl⟩⟩; refine ⟨_, rfl, ?_⟩; (try (rw [drewN_self w13]; generalize hq_ : World.drewN w13 _ = w13; replace BK272 : Aside0 (w13.heap[gb272]? = some (.cells #[.int .i64 0, .int .i64 0, .string (⟨#[]⟩ : ByteArray), .int .i64 0] 28 (0, 0))) := ⟨by rw [← hq_]; exact (by (with_reducible repeat (first | refine blk_drewN ?_ _ | refine blk_drew ?_ | refine blk_alloc ?_ _)); exact BK272.out)⟩; replace HB : Aside0 (Below w.heap.size w w13) := ⟨by rw [← hq_]; exact bel⟩; clear hq_))) | ((with_reducible refine gate_callee (f := 16) rfl ?_); refine gL (some 19) Tryz.func16 #[.string t273] ?_; (with_reducible refine (lex_number.calls t273 t275 false _ A7.out (gk HG)).mono ?_); rintro e w14 ⟨rfl, hb⟩; refine ⟨_, rfl, ?_⟩; replace BK272 := bb BK272 hb; replace HB := bs hb; (try clear hb); (try clear hb2); (try clear hk); (try clear hi); have hcz15_0 : w14.cell? ⟨gb272, 0, none⟩ = some (.int .i64 0) := (blk_cell BK272.out 0).trans rfl; have hcz15_1 : w14.cell? ⟨gb272, 1, none⟩ = some (.int .i64 0) := (blk_cell BK272.out 1).trans rfl; have hcz15_2 : w14.cell? ⟨gb272, 2, none⟩ = some (.string (⟨#[]⟩ : ByteArray)) := (blk_cell BK272.out 2).trans rfl; have hcz15_3 : w14.cell? ⟨gb272, 3, none⟩ = some (.int .i64 0) := (blk_cell BK272.out 3).trans rfl; have hfz15_0 := blk_frozen BK272.out 0; have hfz15_1 := blk_frozen BK272.out 1; have hfz15_2 := blk_frozen BK272.out 2; have hfz15_3 := blk_frozen BK272.out 3) | ((with_reducible refine gate_store (t := 28) (p := 2) rfl ?_); refine store_event (t := 28) (p := 2) (v := ?vo_w16) (w1 := ((((w14.setCell ⟨gb272, 0, none⟩ (.int .i64 0)).setCell ⟨gb272, 1, none⟩ (.int .i64 0)).setCell ⟨gb272, 2, none⟩ (.string (⟨#[]⟩ : ByteArray))).setCell ⟨gb272, 3, none⟩ (.int .i64 0))) ?hg ?ho ?hn ?hr ?_; (case ho => rfl); (case hg => rfl); (case hn => rfl); (case hr => first | (go_simp; done) | (go_simp; rfl)); intro w16 hw; replace BK272 : Aside0 (w16.heap[gb272]? = some (.cells #[.int .i64 0, .int .i64 0, .string (⟨#[]⟩ : ByteArray), .int .i64 0] 28 (0, 0))) := bp BK272 hw; replace HB := bv hw; clear hw))
    refine bodyPost_ret (results_ctt rfl _ _ gb272 28 #[.int .i64 0, .int .i64 0, .string (⟨#[]⟩ : ByteArray), .int .i64 0] (0, 0) _ rfl (by (with_reducible repeat (first | refine blk_drewN ?_ _ | refine blk_drew ?_ | refine blk_alloc ?_ _)); exact BK272.out) Tryz.underlying28 rfl (by kernel_rfl)) rfl ?_
    exact ⟨by first | rfl | (simp [errW_none, errW_some] <;> rfl) | (simp [*, errW_none, errW_some] <;> rfl), by repeat (first | (with_reducible first | exact HB.out | apply below_alloc | apply pw_below_drewN | apply below_drew1 | refine below_set ?_ GE272.out) | exact HB.out)⟩
  ·
   rw [if_neg c6] at H
   have c6b0 : (t274 == 2) = false := beq_eq_false_iff_ne.mpr c6; have c6b1 : (t274 != 2) = true := bne_iff_ne.mpr c6; have HC17 := Aside0.mk H; clear H
   go_enter Tryz.func10, Tryz.ntmps10
   go_upto_if 29 with (first | ((with_reducible refine gate_dst (N := 2) rfl ?_); refine box_event ?hg (N := 2) ?hd (cs := #[.int .i64 0, .int .i64 0, .string (⟨#[]⟩ : ByteArray), .int .i64 0]) (t := 28) ?hr ?_; (case hd => rfl); (case hg => rfl); (case hr => first | (go_simp; done) | (go_simp; rfl)); intro gb272 hg w18 hbox hb; have BK272 := Aside0.mk (hbox); have GW272 := bz hg; have GE272 := bz hg; replace HB := bs hb; clear hb hbox hg) | ((with_reducible refine gate_callee (f := 15) rfl ?_); refine gL (some 11) Tryz.func15 #[.string a0] ?_; (with_reducible refine (lex_run.calls k a0 t273 _ A2.out).mono ?_); rintro e w' ⟨rfl, ⟨nd, rfl⟩⟩; refine ⟨_, rfl, ?_⟩; have p4 : 0 ≤ (0 : Int) := (by omega); have q4 : 0 < a0.size := (by have : (0 : Int) < (a0.size : Int) := of_decide_eq_true (by first | (with_reducible assumption) | assumption); omega); have hx4 : ∀ h : 0 < a0.size, ((a0[0]'h).toNat : Int) = bt a0 0 := bt_at a0 0; clear p4; have qi4 : (0 < (a0.size : Int)) = True := eq_true (of_decide_eq_true (by first | (with_reducible assumption) | assumption)); replace q4 := eq_true q4) | ((with_reducible refine gate_callee (f := 7) rfl ?_); refine gL (some 14) Tryz.func7 #[.int .u8 (bt a0 0)] ?_; (with_reducible refine (lex_classOf.calls k (bt a0 0) t274 _ A5.out).mono ?_); rintro e w' ⟨rfl, ⟨nd, rfl⟩⟩; refine ⟨_, rfl, ?_⟩))
   (try simp only [Act.put, List.setIfInBounds_toArray, List.set_cons_zero, List.set_cons_succ])
   go_cut [29] (fun v29 wc => ∃ (kq : Nat) (x29_16 : Bool), v29 = .bool x29_16 ∧ Aside0 (lex_token.j0 kq a0 t273 t274 x29_16 = some (r1, r2, r3, r4, r5, r6)) ∧ Aside0 (kq ≤ k) ∧ Aside0 (wc.heap[gb272]? = some (.cells #[.int .i64 0, .int .i64 0, .string (⟨#[]⟩ : ByteArray), .int .i64 0] 28 (0, 0))) ∧ Aside0 (Below w.heap.size w wc))
   case first =>
    have H := HC17.out; clear HC17
    by_cases c19 : t274 = 3
    ·
     rw [if_pos c19] at H
     have c19b0 : (t274 == 3) = true := beq_iff_eq.mpr c19; have c19b1 : (t274 != 3) = false := bne_eq_false_iff_eq.mpr c19; clear c19
     (first | rw [c19b0] | (simp only [i64_w, i32_w, u8_w, u32_w]; rw [c19b0]) | rw [c19b1] | skip)
     have H' := Aside0.mk H
     clear H
     go_wp2
     go_meet
     case rel => exact ⟨_, ((t274 == 3)), (by first | rfl | (simp; done) | (simp [*]; done)), H', ⟨by first | omega | exact Nat.le_refl _⟩, ⟨by (with_reducible repeat (first | refine blk_drewN ?_ _ | refine blk_drew ?_ | refine blk_alloc ?_ _)); exact BK272.out⟩, ⟨by repeat (first | (with_reducible first | exact HB.out | apply below_alloc | apply pw_below_drewN | apply below_drew1 | refine below_set ?_ GE272.out) | exact HB.out)⟩⟩
    ·
     rw [if_neg c19] at H
     have c19b0 : (t274 == 3) = false := beq_eq_false_iff_ne.mpr c19; have c19b1 : (t274 != 3) = true := bne_iff_ne.mpr c19
     (first | rw [c19b0] | (simp only [i64_w, i32_w, u8_w, u32_w]; rw [c19b0]) | rw [c19b1] | skip)
     have H' := Aside0.mk H
     clear H
     go_wp2
     go_meet
     case rel => exact ⟨_, ((t274 == 4)), (by first | rfl | (simp; done) | (simp [*]; done)), H', ⟨by first | omega | exact Nat.le_refl _⟩, ⟨by (with_reducible repeat (first | refine blk_drewN ?_ _ | refine blk_drew ?_ | refine blk_alloc ?_ _)); exact BK272.out⟩, ⟨by repeat (first | (with_reducible first | exact HB.out | apply below_alloc | apply pw_below_drewN | apply below_drew1 | refine below_set ?_ GE272.out) | exact HB.out)⟩⟩
   case rest =>
    clear HC17; (try clear c1); (try clear p2); (try clear c3); (try clear c3b0); (try clear c3b1); (try clear p4); (try clear q4); (try clear hx4); (try clear qi4); (try clear c6); (try clear c6b0); (try clear c6b1); (try clear c7); (try clear c8); (try clear c10); (try clear c15); (try clear c16); (try clear c19); (try clear c19b0); (try clear c19b1); (try clear hcz11_0); (try clear hcz11_1); (try clear hcz11_2); (try clear hcz11_3); (try clear hcz15_0); (try clear hcz15_1); (try clear hcz15_2); (try clear hcz15_3); (try clear hfz11_0); (try clear hfz11_1); (try clear hfz11_2); (try clear hfz11_3); (try clear hfz15_0); (try clear hfz15_1); (try clear hfz15_2); (try clear hfz15_3); (try clear p4); (try clear q4)
    obtain ⟨kq, x29_16, rfl, HA, HJ16, BK272, HB⟩ := hcut
    cases kq with
    | zero => exact absurd HA.out (by simp [lex_token.j0])
    | succ kj16 =>
     have H := HA.out; clear HA
     simp only [lex_token.j0] at H
     by_cases c20 : x29_16 = true
     ·
      subst c20
      have H1 : ((lex_IsWord.f kj16 t273).bind fun t277 => (if t277 = true then (some (4, 0, t273, 0, (t273.size : Int), 0)) else ((lex_IsName.f kj16 t273).bind fun t278 => (if t278 = true then (some (3, 0, t273, 0, (t273.size : Int), 0)) else (some (0, 0, (⟨#[]⟩ : ByteArray), 0, 0, 102)))))) = some (r1, r2, r3, r4, r5, r6) := by rw [if_pos rfl] at H; exact H
      clear H; have H := H1; clear H1; replace H := Option.bind_eq_some_iff.mp H
      obtain ⟨t277, A210, H⟩ := H
      replace H : (if t277 = true then (some (4, 0, t273, 0, (t273.size : Int), 0)) else ((lex_IsName.f kj16 t273).bind fun t278 => (if t278 = true then (some (3, 0, t273, 0, (t273.size : Int), 0)) else (some (0, 0, (⟨#[]⟩ : ByteArray), 0, 0, 102))))) = some (r1, r2, r3, r4, r5, r6) := H; have A21 := Aside0.mk A210; clear A210
      by_cases c22 : t277 = true
      ·
       subst c22
       have H1 : (some (4, 0, t273, 0, (t273.size : Int), 0)) = some (r1, r2, r3, r4, r5, r6) := by rw [if_pos rfl] at H; exact H
       clear H; have H := H1; clear H1
       simp only [Option.some.injEq, Prod.mk.injEq] at H
       obtain ⟨rfl, rfl, rfl, rfl, rfl, rfl⟩ := H
       go_wp2_with (first | ((with_reducible refine gate_callee (f := 17) rfl ?_); refine gL (some 34) Tryz.func17 #[.string t273] ?_; (with_reducible refine (lex_IsWord.calls kj16 t273 true _ A21.out).mono ?_); rintro e w23 ⟨rfl, hb⟩; refine ⟨_, rfl, ?_⟩; replace BK272 := bb BK272 hb; replace HB := bs hb; (try clear hb); (try clear hb2); (try clear hk); (try clear hi); have hcz24_0 : w23.cell? ⟨gb272, 0, none⟩ = some (.int .i64 0) := (blk_cell BK272.out 0).trans rfl; have hcz24_1 : w23.cell? ⟨gb272, 1, none⟩ = some (.int .i64 0) := (blk_cell BK272.out 1).trans rfl; have hcz24_2 : w23.cell? ⟨gb272, 2, none⟩ = some (.string (⟨#[]⟩ : ByteArray)) := (blk_cell BK272.out 2).trans rfl; have hcz24_3 : w23.cell? ⟨gb272, 3, none⟩ = some (.int .i64 0) := (blk_cell BK272.out 3).trans rfl; have hfz24_0 := blk_frozen BK272.out 0; have hfz24_1 := blk_frozen BK272.out 1; have hfz24_2 := blk_frozen BK272.out 2; have hfz24_3 := blk_frozen BK272.out 3) | ((with_reducible refine gate_store (t := 28) (p := 2) rfl ?_); refine store_event (t := 28) (p := 2) (v := ?vo_w25) (w1 := ((((w23.setCell ⟨gb272, 0, none⟩ (.int .i64 4)).setCell ⟨gb272, 1, none⟩ (.int .i64 0)).setCell ⟨gb272, 2, none⟩ (.string t273)).setCell ⟨gb272, 3, none⟩ (.int .i64 0))) ?hg ?ho ?hn ?hr ?_; (case ho => rfl); (case hg => rfl); (case hn => rfl); (case hr => first | (go_simp; done) | (go_simp; rfl)); intro w25 hw; replace BK272 : Aside0 (w25.heap[gb272]? = some (.cells #[.int .i64 4, .int .i64 0, .string t273, .int .i64 0] 28 (0, 0))) := bp BK272 hw; replace HB := bv hw; clear hw))
       refine bodyPost_ret (results_ctt rfl _ _ gb272 28 #[.int .i64 4, .int .i64 0, .string t273, .int .i64 0] (0, 0) _ rfl (by (with_reducible repeat (first | refine blk_drewN ?_ _ | refine blk_drew ?_ | refine blk_alloc ?_ _)); exact BK272.out) Tryz.underlying28 rfl (by kernel_rfl)) rfl ?_
       exact ⟨by first | rfl | (simp [errW_none, errW_some] <;> rfl) | (simp [*, errW_none, errW_some] <;> rfl), by repeat (first | (with_reducible first | exact HB.out | apply below_alloc | apply pw_below_drewN | apply below_drew1 | refine below_set ?_ GE272.out) | exact HB.out)⟩
      ·
       replace c22 := Bool.eq_false_iff.mpr c22
       subst c22
       have H1 : ((lex_IsName.f kj16 t273).bind fun t278 => (if t278 = true then (some (3, 0, t273, 0, (t273.size : Int), 0)) else (some (0, 0, (⟨#[]⟩ : ByteArray), 0, 0, 102)))) = some (r1, r2, r3, r4, r5, r6) := by rw [if_neg (show ¬ (false = true) by decide)] at H; exact H
       clear H; have H := H1; clear H1; replace H := Option.bind_eq_some_iff.mp H
       obtain ⟨t278, A260, H⟩ := H
       replace H : (if t278 = true then (some (3, 0, t273, 0, (t273.size : Int), 0)) else (some (0, 0, (⟨#[]⟩ : ByteArray), 0, 0, 102))) = some (r1, r2, r3, r4, r5, r6) := H; have A26 := Aside0.mk A260; clear A260
       by_cases c27 : t278 = true
       ·
        subst c27
        have H1 : (some (3, 0, t273, 0, (t273.size : Int), 0)) = some (r1, r2, r3, r4, r5, r6) := by rw [if_pos rfl] at H; exact H
        clear H; have H := H1; clear H1
        simp only [Option.some.injEq, Prod.mk.injEq] at H
        obtain ⟨rfl, rfl, rfl, rfl, rfl, rfl⟩ := H
        go_wp2_with (first | ((with_reducible refine gate_callee (f := 17) rfl ?_); refine gL (some 34) Tryz.func17 #[.string t273] ?_; (with_reducible refine (lex_IsWord.calls kj16 t273 false _ A21.out).mono ?_); rintro e w28 ⟨rfl, hb⟩; refine ⟨_, rfl, ?_⟩; replace BK272 := bb BK272 hb; replace HB := bs hb; (try clear hb); (try clear hb2); (try clear hk); (try clear hi)) | ((with_reducible refine gate_callee (f := 18) rfl ?_); refine gL (some 41) Tryz.func18 #[.string t273] ?_; (with_reducible refine (lex_IsName.calls kj16 t273 true _ A26.out).mono ?_); rintro e w' ⟨rfl, ⟨nd, rfl⟩⟩; refine ⟨_, rfl, ?_⟩; (try (rw [drewN_self w28]; generalize hq_ : World.drewN w28 _ = w28; replace BK272 : Aside0 (w28.heap[gb272]? = some (.cells #[.int .i64 0, .int .i64 0, .string (⟨#[]⟩ : ByteArray), .int .i64 0] 28 (0, 0))) := ⟨by rw [← hq_]; exact (by (with_reducible repeat (first | refine blk_drewN ?_ _ | refine blk_drew ?_ | refine blk_alloc ?_ _)); exact BK272.out)⟩; replace HB : Aside0 (Below w.heap.size w w28) := ⟨by rw [← hq_]; exact bel⟩; clear hq_)); have hcz29_0 : w28.cell? ⟨gb272, 0, none⟩ = some (.int .i64 0) := (blk_cell BK272.out 0).trans rfl; have hcz29_1 : w28.cell? ⟨gb272, 1, none⟩ = some (.int .i64 0) := (blk_cell BK272.out 1).trans rfl; have hcz29_2 : w28.cell? ⟨gb272, 2, none⟩ = some (.string (⟨#[]⟩ : ByteArray)) := (blk_cell BK272.out 2).trans rfl; have hcz29_3 : w28.cell? ⟨gb272, 3, none⟩ = some (.int .i64 0) := (blk_cell BK272.out 3).trans rfl; have hfz29_0 := blk_frozen BK272.out 0; have hfz29_1 := blk_frozen BK272.out 1; have hfz29_2 := blk_frozen BK272.out 2; have hfz29_3 := blk_frozen BK272.out 3) | ((with_reducible refine gate_store (t := 28) (p := 2) rfl ?_); refine store_event (t := 28) (p := 2) (v := ?vo_w30) (w1 := ((((w28.setCell ⟨gb272, 0, none⟩ (.int .i64 3)).setCell ⟨gb272, 1, none⟩ (.int .i64 0)).setCell ⟨gb272, 2, none⟩ (.string t273)).setCell ⟨gb272, 3, none⟩ (.int .i64 0))) ?hg ?ho ?hn ?hr ?_; (case ho => rfl); (case hg => rfl); (case hn => rfl); (case hr => first | (go_simp; done) | (go_simp; rfl)); intro w30 hw; replace BK272 : Aside0 (w30.heap[gb272]? = some (.cells #[.int .i64 3, .int .i64 0, .string t273, .int .i64 0] 28 (0, 0))) := bp BK272 hw; replace HB := bv hw; clear hw))
        refine bodyPost_ret (results_ctt rfl _ _ gb272 28 #[.int .i64 3, .int .i64 0, .string t273, .int .i64 0] (0, 0) _ rfl (by (with_reducible repeat (first | refine blk_drewN ?_ _ | refine blk_drew ?_ | refine blk_alloc ?_ _)); exact BK272.out) Tryz.underlying28 rfl (by kernel_rfl)) rfl ?_
        exact ⟨by first | rfl | (simp [errW_none, errW_some] <;> rfl) | (simp [*, errW_none, errW_some] <;> rfl), by repeat (first | (with_reducible first | exact HB.out | apply below_alloc | apply pw_below_drewN | apply below_drew1 | refine below_set ?_ GE272.out) | exact HB.out)⟩
       ·
        replace c27 := Bool.eq_false_iff.mpr c27
        subst c27
        have H1 : (some (0, 0, (⟨#[]⟩ : ByteArray), 0, 0, 102)) = some (r1, r2, r3, r4, r5, r6) := by rw [if_neg (show ¬ (false = true) by decide)] at H; exact H
        clear H; have H := H1; clear H1
        simp only [Option.some.injEq, Prod.mk.injEq] at H
        obtain ⟨rfl, rfl, rfl, rfl, rfl, rfl⟩ := H
        go_wp2_with (first | ((with_reducible refine gate_callee (f := 17) rfl ?_); refine gL (some 34) Tryz.func17 #[.string t273] ?_; (with_reducible refine (lex_IsWord.calls kj16 t273 false _ A21.out).mono ?_); rintro e w31 ⟨rfl, hb⟩; refine ⟨_, rfl, ?_⟩; replace BK272 := bb BK272 hb; replace HB := bs hb; (try clear hb); (try clear hb2); (try clear hk); (try clear hi)) | ((with_reducible refine gate_callee (f := 18) rfl ?_); refine gL (some 41) Tryz.func18 #[.string t273] ?_; (with_reducible refine (lex_IsName.calls kj16 t273 false _ A26.out).mono ?_); rintro e w' ⟨rfl, ⟨nd, rfl⟩⟩; refine ⟨_, rfl, ?_⟩; (try (rw [drewN_self w31]; generalize hq_ : World.drewN w31 _ = w31; replace BK272 : Aside0 (w31.heap[gb272]? = some (.cells #[.int .i64 0, .int .i64 0, .string (⟨#[]⟩ : ByteArray), .int .i64 0] 28 (0, 0))) := ⟨by rw [← hq_]; exact (by (with_reducible repeat (first | refine blk_drewN ?_ _ | refine blk_drew ?_ | refine blk_alloc ?_ _)); exact BK272.out)⟩; replace HB : Aside0 (Below w.heap.size w w31) := ⟨by rw [← hq_]; exact bel⟩; clear hq_)); have hcz32_0 : w31.cell? ⟨gb272, 0, none⟩ = some (.int .i64 0) := (blk_cell BK272.out 0).trans rfl; have hcz32_1 : w31.cell? ⟨gb272, 1, none⟩ = some (.int .i64 0) := (blk_cell BK272.out 1).trans rfl; have hcz32_2 : w31.cell? ⟨gb272, 2, none⟩ = some (.string (⟨#[]⟩ : ByteArray)) := (blk_cell BK272.out 2).trans rfl; have hcz32_3 : w31.cell? ⟨gb272, 3, none⟩ = some (.int .i64 0) := (blk_cell BK272.out 3).trans rfl; have hfz32_0 := blk_frozen BK272.out 0; have hfz32_1 := blk_frozen BK272.out 1; have hfz32_2 := blk_frozen BK272.out 2; have hfz32_3 := blk_frozen BK272.out 3) | ((with_reducible refine gate_store (t := 28) (p := 2) rfl ?_); refine store_event (t := 28) (p := 2) (v := ?vo_w33) (w1 := ((((w31.setCell ⟨gb272, 0, none⟩ (.int .i64 0)).setCell ⟨gb272, 1, none⟩ (.int .i64 0)).setCell ⟨gb272, 2, none⟩ (.string (⟨#[]⟩ : ByteArray))).setCell ⟨gb272, 3, none⟩ (.int .i64 0))) ?hg ?ho ?hn ?hr ?_; (case ho => rfl); (case hg => rfl); (case hn => rfl); (case hr => first | (go_simp; done) | (go_simp; rfl)); intro w33 hw; replace BK272 : Aside0 (w33.heap[gb272]? = some (.cells #[.int .i64 0, .int .i64 0, .string (⟨#[]⟩ : ByteArray), .int .i64 0] 28 (0, 0))) := bp BK272 hw; replace HB := bv hw; clear hw))
        refine bodyPost_ret (results_ctt rfl _ _ gb272 28 #[.int .i64 0, .int .i64 0, .string (⟨#[]⟩ : ByteArray), .int .i64 0] (0, 0) _ rfl (by (with_reducible repeat (first | refine blk_drewN ?_ _ | refine blk_drew ?_ | refine blk_alloc ?_ _)); exact BK272.out) Tryz.underlying28 rfl (by kernel_rfl)) rfl ?_
        exact ⟨by first | rfl | (simp [errW_none, errW_some] <;> rfl) | (simp [*, errW_none, errW_some] <;> rfl), by repeat (first | (with_reducible first | exact HB.out | apply below_alloc | apply pw_below_drewN | apply below_drew1 | refine below_set ?_ GE272.out) | exact HB.out)⟩
     ·
      replace c20 := Bool.eq_false_iff.mpr c20
      subst c20
      have H1 : (if t274 = 5 then (if 1 ≤ (a0.size : Int) then ((lex_run.f kj16 (a0.extract 1 a0.size)).bind fun t279 => ((lex_IsName.f kj16 t279).bind fun t280 => (if t280 = true then (some (6, 0, t279, 0, wrap64 ((t279.size : Int) + 1), 0)) else (some (0, 0, (⟨#[]⟩ : ByteArray), 0, 0, 102))))) else (none)) else (if t274 = 6 then ((lex_quoted.f kj16 a0).bind fun t281 => ((lex_literal.f t281).bind fun bt282 => (if bt282.2 = 0 then (some (5, 0, bt282.1, 0, (t281.size : Int), 0)) else (some (0, 0, (⟨#[]⟩ : ByteArray), 0, 0, 103))))) else (if t274 = 7 then ((lex_signOf.f kj16 a0).bind fun t284 => (some (7, 0, t284, 0, (t284.size : Int), 0))) else (if t274 = 8 then ((lex_signOf.f kj16 a0).bind fun t285 => (some (7, 0, t285, 0, (t285.size : Int), 0))) else (some (0, 0, (⟨#[]⟩ : ByteArray), 0, 0, 100)))))) = some (r1, r2, r3, r4, r5, r6) := by rw [if_neg (show ¬ (false = true) by decide)] at H; exact H
      clear H; have H := H1; clear H1
      by_cases c34 : t274 = 5
      ·
       rw [if_pos c34] at H
       have c34b0 : (t274 == 5) = true := beq_iff_eq.mpr c34; have c34b1 : (t274 != 5) = false := bne_eq_false_iff_eq.mpr c34; clear c34
       by_cases c35 : 1 ≤ (a0.size : Int)
       ·
        rw [if_pos c35] at H
        have c35b0 := eq_true c35; have c35b1 : decide (1 ≤ (a0.size : Int)) = true := decide_eq_true c35; clear c35; replace H := Option.bind_eq_some_iff.mp H
        obtain ⟨t279, A360, H⟩ := H
        replace H : ((lex_IsName.f kj16 t279).bind fun t280 => (if t280 = true then (some (6, 0, t279, 0, wrap64 ((t279.size : Int) + 1), 0)) else (some (0, 0, (⟨#[]⟩ : ByteArray), 0, 0, 102)))) = some (r1, r2, r3, r4, r5, r6) := H; have A36 := Aside0.mk A360; clear A360; replace H := Option.bind_eq_some_iff.mp H
        obtain ⟨t280, A370, H⟩ := H
        replace H : (if t280 = true then (some (6, 0, t279, 0, wrap64 ((t279.size : Int) + 1), 0)) else (some (0, 0, (⟨#[]⟩ : ByteArray), 0, 0, 102))) = some (r1, r2, r3, r4, r5, r6) := H; have A37 := Aside0.mk A370; clear A370
        by_cases c38 : t280 = true
        ·
         subst c38
         have H1 : (some (6, 0, t279, 0, wrap64 ((t279.size : Int) + 1), 0)) = some (r1, r2, r3, r4, r5, r6) := by rw [if_pos rfl] at H; exact H
         clear H; have H := H1; clear H1
         simp only [Option.some.injEq, Prod.mk.injEq] at H
         obtain ⟨rfl, rfl, rfl, rfl, rfl, rfl⟩ := H
         go_wp2_with (first | ((with_reducible refine gate_callee (f := 15) rfl ?_); refine gL (some 51) Tryz.func15 #[.string (a0.extract 1 a0.size)] ?_; (with_reducible refine (lex_run.calls kj16 (a0.extract 1 a0.size) t279 _ A36.out).mono ?_); rintro e w' ⟨rfl, ⟨nd, rfl⟩⟩; refine ⟨_, rfl, ?_⟩; (try (rw [drewN_self wc]; generalize hq_ : World.drewN wc _ = wc; replace BK272 : Aside0 (wc.heap[gb272]? = some (.cells #[.int .i64 0, .int .i64 0, .string (⟨#[]⟩ : ByteArray), .int .i64 0] 28 (0, 0))) := ⟨by rw [← hq_]; exact (by (with_reducible repeat (first | refine blk_drewN ?_ _ | refine blk_drew ?_ | refine blk_alloc ?_ _)); exact BK272.out)⟩; replace HB : Aside0 (Below w.heap.size w wc) := ⟨by rw [← hq_]; exact bel⟩; clear hq_))) | ((with_reducible refine gate_callee (f := 18) rfl ?_); refine gL (some 53) Tryz.func18 #[.string t279] ?_; (with_reducible refine (lex_IsName.calls kj16 t279 true _ A37.out).mono ?_); rintro e w' ⟨rfl, ⟨nd, rfl⟩⟩; refine ⟨_, rfl, ?_⟩; (try (rw [drewN_self wc]; generalize hq_ : World.drewN wc _ = wc; replace BK272 : Aside0 (wc.heap[gb272]? = some (.cells #[.int .i64 0, .int .i64 0, .string (⟨#[]⟩ : ByteArray), .int .i64 0] 28 (0, 0))) := ⟨by rw [← hq_]; exact (by (with_reducible repeat (first | refine blk_drewN ?_ _ | refine blk_drew ?_ | refine blk_alloc ?_ _)); exact BK272.out)⟩; replace HB : Aside0 (Below w.heap.size w wc) := ⟨by rw [← hq_]; exact bel⟩; clear hq_)); have hcz39_0 : wc.cell? ⟨gb272, 0, none⟩ = some (.int .i64 0) := (blk_cell BK272.out 0).trans rfl; have hcz39_1 : wc.cell? ⟨gb272, 1, none⟩ = some (.int .i64 0) := (blk_cell BK272.out 1).trans rfl; have hcz39_2 : wc.cell? ⟨gb272, 2, none⟩ = some (.string (⟨#[]⟩ : ByteArray)) := (blk_cell BK272.out 2).trans rfl; have hcz39_3 : wc.cell? ⟨gb272, 3, none⟩ = some (.int .i64 0) := (blk_cell BK272.out 3).trans rfl; have hfz39_0 := blk_frozen BK272.out 0; have hfz39_1 := blk_frozen BK272.out 1; have hfz39_2 := blk_frozen BK272.out 2; have hfz39_3 := blk_frozen BK272.out 3) | ((with_reducible refine gate_store (t := 28) (p := 2) rfl ?_); refine store_event (t := 28) (p := 2) (v := ?vo_w40) (w1 := ((((wc.setCell ⟨gb272, 0, none⟩ (.int .i64 6)).setCell ⟨gb272, 1, none⟩ (.int .i64 0)).setCell ⟨gb272, 2, none⟩ (.string t279)).setCell ⟨gb272, 3, none⟩ (.int .i64 0))) ?hg ?ho ?hn ?hr ?_; (case ho => rfl); (case hg => rfl); (case hn => rfl); (case hr => first | (go_simp; done) | (go_simp; rfl)); intro w40 hw; replace BK272 : Aside0 (w40.heap[gb272]? = some (.cells #[.int .i64 6, .int .i64 0, .string t279, .int .i64 0] 28 (0, 0))) := bp BK272 hw; replace HB := bv hw; clear hw))
         refine bodyPost_ret (results_ctt rfl _ _ gb272 28 #[.int .i64 6, .int .i64 0, .string t279, .int .i64 0] (0, 0) _ rfl (by (with_reducible repeat (first | refine blk_drewN ?_ _ | refine blk_drew ?_ | refine blk_alloc ?_ _)); exact BK272.out) Tryz.underlying28 rfl (by kernel_rfl)) rfl ?_
         exact ⟨by first | rfl | (simp [errW_none, errW_some] <;> rfl) | (simp [*, errW_none, errW_some] <;> rfl), by repeat (first | (with_reducible first | exact HB.out | apply below_alloc | apply pw_below_drewN | apply below_drew1 | refine below_set ?_ GE272.out) | exact HB.out)⟩
        ·
         replace c38 := Bool.eq_false_iff.mpr c38
         subst c38
         have H1 : (some (0, 0, (⟨#[]⟩ : ByteArray), 0, 0, 102)) = some (r1, r2, r3, r4, r5, r6) := by rw [if_neg (show ¬ (false = true) by decide)] at H; exact H
         clear H; have H := H1; clear H1
         simp only [Option.some.injEq, Prod.mk.injEq] at H
         obtain ⟨rfl, rfl, rfl, rfl, rfl, rfl⟩ := H
         go_wp2_with (first | ((with_reducible refine gate_callee (f := 15) rfl ?_); refine gL (some 51) Tryz.func15 #[.string (a0.extract 1 a0.size)] ?_; (with_reducible refine (lex_run.calls kj16 (a0.extract 1 a0.size) t279 _ A36.out).mono ?_); rintro e w' ⟨rfl, ⟨nd, rfl⟩⟩; refine ⟨_, rfl, ?_⟩; (try (rw [drewN_self wc]; generalize hq_ : World.drewN wc _ = wc; replace BK272 : Aside0 (wc.heap[gb272]? = some (.cells #[.int .i64 0, .int .i64 0, .string (⟨#[]⟩ : ByteArray), .int .i64 0] 28 (0, 0))) := ⟨by rw [← hq_]; exact (by (with_reducible repeat (first | refine blk_drewN ?_ _ | refine blk_drew ?_ | refine blk_alloc ?_ _)); exact BK272.out)⟩; replace HB : Aside0 (Below w.heap.size w wc) := ⟨by rw [← hq_]; exact bel⟩; clear hq_))) | ((with_reducible refine gate_callee (f := 18) rfl ?_); refine gL (some 53) Tryz.func18 #[.string t279] ?_; (with_reducible refine (lex_IsName.calls kj16 t279 false _ A37.out).mono ?_); rintro e w' ⟨rfl, ⟨nd, rfl⟩⟩; refine ⟨_, rfl, ?_⟩; (try (rw [drewN_self wc]; generalize hq_ : World.drewN wc _ = wc; replace BK272 : Aside0 (wc.heap[gb272]? = some (.cells #[.int .i64 0, .int .i64 0, .string (⟨#[]⟩ : ByteArray), .int .i64 0] 28 (0, 0))) := ⟨by rw [← hq_]; exact (by (with_reducible repeat (first | refine blk_drewN ?_ _ | refine blk_drew ?_ | refine blk_alloc ?_ _)); exact BK272.out)⟩; replace HB : Aside0 (Below w.heap.size w wc) := ⟨by rw [← hq_]; exact bel⟩; clear hq_)); have hcz41_0 : wc.cell? ⟨gb272, 0, none⟩ = some (.int .i64 0) := (blk_cell BK272.out 0).trans rfl; have hcz41_1 : wc.cell? ⟨gb272, 1, none⟩ = some (.int .i64 0) := (blk_cell BK272.out 1).trans rfl; have hcz41_2 : wc.cell? ⟨gb272, 2, none⟩ = some (.string (⟨#[]⟩ : ByteArray)) := (blk_cell BK272.out 2).trans rfl; have hcz41_3 : wc.cell? ⟨gb272, 3, none⟩ = some (.int .i64 0) := (blk_cell BK272.out 3).trans rfl; have hfz41_0 := blk_frozen BK272.out 0; have hfz41_1 := blk_frozen BK272.out 1; have hfz41_2 := blk_frozen BK272.out 2; have hfz41_3 := blk_frozen BK272.out 3) | ((with_reducible refine gate_store (t := 28) (p := 2) rfl ?_); refine store_event (t := 28) (p := 2) (v := ?vo_w42) (w1 := ((((wc.setCell ⟨gb272, 0, none⟩ (.int .i64 0)).setCell ⟨gb272, 1, none⟩ (.int .i64 0)).setCell ⟨gb272, 2, none⟩ (.string (⟨#[]⟩ : ByteArray))).setCell ⟨gb272, 3, none⟩ (.int .i64 0))) ?hg ?ho ?hn ?hr ?_; (case ho => rfl); (case hg => rfl); (case hn => rfl); (case hr => first | (go_simp; done) | (go_simp; rfl)); intro w42 hw; replace BK272 : Aside0 (w42.heap[gb272]? = some (.cells #[.int .i64 0, .int .i64 0, .string (⟨#[]⟩ : ByteArray), .int .i64 0] 28 (0, 0))) := bp BK272 hw; replace HB := bv hw; clear hw))
         refine bodyPost_ret (results_ctt rfl _ _ gb272 28 #[.int .i64 0, .int .i64 0, .string (⟨#[]⟩ : ByteArray), .int .i64 0] (0, 0) _ rfl (by (with_reducible repeat (first | refine blk_drewN ?_ _ | refine blk_drew ?_ | refine blk_alloc ?_ _)); exact BK272.out) Tryz.underlying28 rfl (by kernel_rfl)) rfl ?_
         exact ⟨by first | rfl | (simp [errW_none, errW_some] <;> rfl) | (simp [*, errW_none, errW_some] <;> rfl), by repeat (first | (with_reducible first | exact HB.out | apply below_alloc | apply pw_below_drewN | apply below_drew1 | refine below_set ?_ GE272.out) | exact HB.out)⟩
       ·
        rw [if_neg c35] at H
        exact absurd H (by simp)
      ·
       rw [if_neg c34] at H
       have c34b0 : (t274 == 5) = false := beq_eq_false_iff_ne.mpr c34; have c34b1 : (t274 != 5) = true := bne_iff_ne.mpr c34
       by_cases c43 : t274 = 6
       ·
        rw [if_pos c43] at H
        have c43b0 : (t274 == 6) = true := beq_iff_eq.mpr c43; have c43b1 : (t274 != 6) = false := bne_eq_false_iff_eq.mpr c43; clear c43; replace H := Option.bind_eq_some_iff.mp H
        obtain ⟨t281, A440, H⟩ := H
        replace H : ((lex_literal.f t281).bind fun bt282 => (if bt282.2 = 0 then (some (5, 0, bt282.1, 0, (t281.size : Int), 0)) else (some (0, 0, (⟨#[]⟩ : ByteArray), 0, 0, 103)))) = some (r1, r2, r3, r4, r5, r6) := H; have A44 := Aside0.mk A440; clear A440; replace H := Option.bind_eq_some_iff.mp H
        obtain ⟨⟨t282, t283⟩, A450, H⟩ := H
        replace H : (if t283 = 0 then (some (5, 0, t282, 0, (t281.size : Int), 0)) else (some (0, 0, (⟨#[]⟩ : ByteArray), 0, 0, 103))) = some (r1, r2, r3, r4, r5, r6) := H; have A45 := Aside0.mk A450; clear A450
        by_cases c46 : t283 = 0
        ·
         rw [if_pos c46] at H
         have c46b0 : (t283 == 0) = true := beq_iff_eq.mpr c46; have c46b1 : (t283 != 0) = false := bne_eq_false_iff_eq.mpr c46; clear c46
         simp only [Option.some.injEq, Prod.mk.injEq] at H
         obtain ⟨rfl, rfl, rfl, rfl, rfl, rfl⟩ := H
         go_wp2_with (first | ((with_reducible refine gate_callee (f := 19) rfl ?_); refine gL (some 64) Tryz.func19 #[.string a0] ?_; (with_reducible refine (lex_quoted.calls kj16 a0 t281 _ A44.out).mono ?_); rintro e w' ⟨rfl, ⟨nd, rfl⟩⟩; refine ⟨_, rfl, ?_⟩; (try (rw [drewN_self wc]; generalize hq_ : World.drewN wc _ = wc; replace BK272 : Aside0 (wc.heap[gb272]? = some (.cells #[.int .i64 0, .int .i64 0, .string (⟨#[]⟩ : ByteArray), .int .i64 0] 28 (0, 0))) := ⟨by rw [← hq_]; exact (by (with_reducible repeat (first | refine blk_drewN ?_ _ | refine blk_drew ?_ | refine blk_alloc ?_ _)); exact BK272.out)⟩; replace HB : Aside0 (Below w.heap.size w wc) := ⟨by rw [← hq_]; exact bel⟩; clear hq_))) | ((with_reducible refine gate_callee (f := 20) rfl ?_); refine gL (some 67) Tryz.func20 #[.string t281] ?_; (with_reducible refine (lex_literal.calls t281 t282 t283 _ A45.out (gk HG)).mono ?_); rintro e w47 ⟨rfl, hb⟩; refine ⟨_, rfl, ?_⟩; replace BK272 := bb BK272 hb; replace HB := bs hb; (try clear hb); (try clear hb2); (try clear hk); (try clear hi); have hcz48_0 : w47.cell? ⟨gb272, 0, none⟩ = some (.int .i64 0) := (blk_cell BK272.out 0).trans rfl; have hcz48_1 : w47.cell? ⟨gb272, 1, none⟩ = some (.int .i64 0) := (blk_cell BK272.out 1).trans rfl; have hcz48_2 : w47.cell? ⟨gb272, 2, none⟩ = some (.string (⟨#[]⟩ : ByteArray)) := (blk_cell BK272.out 2).trans rfl; have hcz48_3 : w47.cell? ⟨gb272, 3, none⟩ = some (.int .i64 0) := (blk_cell BK272.out 3).trans rfl; have hfz48_0 := blk_frozen BK272.out 0; have hfz48_1 := blk_frozen BK272.out 1; have hfz48_2 := blk_frozen BK272.out 2; have hfz48_3 := blk_frozen BK272.out 3) | ((with_reducible refine gate_store (t := 28) (p := 2) rfl ?_); refine store_event (t := 28) (p := 2) (v := ?vo_w49) (w1 := ((((w47.setCell ⟨gb272, 0, none⟩ (.int .i64 5)).setCell ⟨gb272, 1, none⟩ (.int .i64 0)).setCell ⟨gb272, 2, none⟩ (.string t282)).setCell ⟨gb272, 3, none⟩ (.int .i64 0))) ?hg ?ho ?hn ?hr ?_; (case ho => rfl); (case hg => rfl); (case hn => rfl); (case hr => first | (go_simp; done) | (go_simp; rfl)); intro w49 hw; replace BK272 : Aside0 (w49.heap[gb272]? = some (.cells #[.int .i64 5, .int .i64 0, .string t282, .int .i64 0] 28 (0, 0))) := bp BK272 hw; replace HB := bv hw; clear hw))
         refine bodyPost_ret (results_ctt rfl _ _ gb272 28 #[.int .i64 5, .int .i64 0, .string t282, .int .i64 0] (0, 0) _ rfl (by (with_reducible repeat (first | refine blk_drewN ?_ _ | refine blk_drew ?_ | refine blk_alloc ?_ _)); exact BK272.out) Tryz.underlying28 rfl (by kernel_rfl)) rfl ?_
         exact ⟨by first | rfl | (simp [errW_none, errW_some] <;> rfl) | (simp [*, errW_none, errW_some] <;> rfl), by repeat (first | (with_reducible first | exact HB.out | apply below_alloc | apply pw_below_drewN | apply below_drew1 | refine below_set ?_ GE272.out) | exact HB.out)⟩
        ·
         rw [if_neg c46] at H
         have c46b0 : (t283 == 0) = false := beq_eq_false_iff_ne.mpr c46; have c46b1 : (t283 != 0) = true := bne_iff_ne.mpr c46
         simp only [Option.some.injEq, Prod.mk.injEq] at H
         obtain ⟨rfl, rfl, rfl, rfl, rfl, rfl⟩ := H
         go_wp2_with (first | ((with_reducible refine gate_callee (f := 19) rfl ?_); refine gL (some 64) Tryz.func19 #[.string a0] ?_; (with_reducible refine (lex_quoted.calls kj16 a0 t281 _ A44.out).mono ?_); rintro e w' ⟨rfl, ⟨nd, rfl⟩⟩; refine ⟨_, rfl, ?_⟩; (try (rw [drewN_self wc]; generalize hq_ : World.drewN wc _ = wc; replace BK272 : Aside0 (wc.heap[gb272]? = some (.cells #[.int .i64 0, .int .i64 0, .string (⟨#[]⟩ : ByteArray), .int .i64 0] 28 (0, 0))) := ⟨by rw [← hq_]; exact (by (with_reducible repeat (first | refine blk_drewN ?_ _ | refine blk_drew ?_ | refine blk_alloc ?_ _)); exact BK272.out)⟩; replace HB : Aside0 (Below w.heap.size w wc) := ⟨by rw [← hq_]; exact bel⟩; clear hq_))) | ((with_reducible refine gate_callee (f := 20) rfl ?_); refine gL (some 67) Tryz.func20 #[.string t281] ?_; (with_reducible refine (lex_literal.calls t281 t282 t283 _ A45.out (gk HG)).mono ?_); rintro e w50 ⟨rfl, hb⟩; refine ⟨_, rfl, ?_⟩; replace BK272 := bb BK272 hb; replace HB := bs hb; (try clear hb); (try clear hb2); (try clear hk); (try clear hi); have hcz51_0 : w50.cell? ⟨gb272, 0, none⟩ = some (.int .i64 0) := (blk_cell BK272.out 0).trans rfl; have hcz51_1 : w50.cell? ⟨gb272, 1, none⟩ = some (.int .i64 0) := (blk_cell BK272.out 1).trans rfl; have hcz51_2 : w50.cell? ⟨gb272, 2, none⟩ = some (.string (⟨#[]⟩ : ByteArray)) := (blk_cell BK272.out 2).trans rfl; have hcz51_3 : w50.cell? ⟨gb272, 3, none⟩ = some (.int .i64 0) := (blk_cell BK272.out 3).trans rfl; have hfz51_0 := blk_frozen BK272.out 0; have hfz51_1 := blk_frozen BK272.out 1; have hfz51_2 := blk_frozen BK272.out 2; have hfz51_3 := blk_frozen BK272.out 3) | ((with_reducible refine gate_store (t := 28) (p := 2) rfl ?_); refine store_event (t := 28) (p := 2) (v := ?vo_w52) (w1 := ((((w50.setCell ⟨gb272, 0, none⟩ (.int .i64 0)).setCell ⟨gb272, 1, none⟩ (.int .i64 0)).setCell ⟨gb272, 2, none⟩ (.string (⟨#[]⟩ : ByteArray))).setCell ⟨gb272, 3, none⟩ (.int .i64 0))) ?hg ?ho ?hn ?hr ?_; (case ho => rfl); (case hg => rfl); (case hn => rfl); (case hr => first | (go_simp; done) | (go_simp; rfl)); intro w52 hw; replace BK272 : Aside0 (w52.heap[gb272]? = some (.cells #[.int .i64 0, .int .i64 0, .string (⟨#[]⟩ : ByteArray), .int .i64 0] 28 (0, 0))) := bp BK272 hw; replace HB := bv hw; clear hw))
         refine bodyPost_ret (results_ctt rfl _ _ gb272 28 #[.int .i64 0, .int .i64 0, .string (⟨#[]⟩ : ByteArray), .int .i64 0] (0, 0) _ rfl (by (with_reducible repeat (first | refine blk_drewN ?_ _ | refine blk_drew ?_ | refine blk_alloc ?_ _)); exact BK272.out) Tryz.underlying28 rfl (by kernel_rfl)) rfl ?_
         exact ⟨by first | rfl | (simp [errW_none, errW_some] <;> rfl) | (simp [*, errW_none, errW_some] <;> rfl), by repeat (first | (with_reducible first | exact HB.out | apply below_alloc | apply pw_below_drewN | apply below_drew1 | refine below_set ?_ GE272.out) | exact HB.out)⟩
       ·
        rw [if_neg c43] at H
        have c43b0 : (t274 == 6) = false := beq_eq_false_iff_ne.mpr c43; have c43b1 : (t274 != 6) = true := bne_iff_ne.mpr c43
        by_cases c53 : t274 = 7
        ·
         rw [if_pos c53] at H
         have c53b0 : (t274 == 7) = true := beq_iff_eq.mpr c53; have c53b1 : (t274 != 7) = false := bne_eq_false_iff_eq.mpr c53; clear c53; replace H := Option.bind_eq_some_iff.mp H
         obtain ⟨t284, A540, H⟩ := H
         replace H : (some (7, 0, t284, 0, (t284.size : Int), 0)) = some (r1, r2, r3, r4, r5, r6) := H; have A54 := Aside0.mk A540; clear A540
         simp only [Option.some.injEq, Prod.mk.injEq] at H
         obtain ⟨rfl, rfl, rfl, rfl, rfl, rfl⟩ := H
         go_wp2_with (first | ((with_reducible refine gate_callee (f := 21) rfl ?_); refine gL (some 81) Tryz.func21 #[.string a0] ?_; (with_reducible refine (lex_signOf.calls kj16 a0 t284 _ A54.out).mono ?_); rintro e w55 ⟨rfl, hb⟩; refine ⟨_, rfl, ?_⟩; replace BK272 := bb BK272 hb; replace HB := bs hb; (try clear hb); (try clear hb2); (try clear hk); (try clear hi); have hcz56_0 : w55.cell? ⟨gb272, 0, none⟩ = some (.int .i64 0) := (blk_cell BK272.out 0).trans rfl; have hcz56_1 : w55.cell? ⟨gb272, 1, none⟩ = some (.int .i64 0) := (blk_cell BK272.out 1).trans rfl; have hcz56_2 : w55.cell? ⟨gb272, 2, none⟩ = some (.string (⟨#[]⟩ : ByteArray)) := (blk_cell BK272.out 2).trans rfl; have hcz56_3 : w55.cell? ⟨gb272, 3, none⟩ = some (.int .i64 0) := (blk_cell BK272.out 3).trans rfl; have hfz56_0 := blk_frozen BK272.out 0; have hfz56_1 := blk_frozen BK272.out 1; have hfz56_2 := blk_frozen BK272.out 2; have hfz56_3 := blk_frozen BK272.out 3) | ((with_reducible refine gate_store (t := 28) (p := 2) rfl ?_); refine store_event (t := 28) (p := 2) (v := ?vo_w57) (w1 := ((((w55.setCell ⟨gb272, 0, none⟩ (.int .i64 7)).setCell ⟨gb272, 1, none⟩ (.int .i64 0)).setCell ⟨gb272, 2, none⟩ (.string t284)).setCell ⟨gb272, 3, none⟩ (.int .i64 0))) ?hg ?ho ?hn ?hr ?_; (case ho => rfl); (case hg => rfl); (case hn => rfl); (case hr => first | (go_simp; done) | (go_simp; rfl)); intro w57 hw; replace BK272 : Aside0 (w57.heap[gb272]? = some (.cells #[.int .i64 7, .int .i64 0, .string t284, .int .i64 0] 28 (0, 0))) := bp BK272 hw; replace HB := bv hw; clear hw))
         refine bodyPost_ret (results_ctt rfl _ _ gb272 28 #[.int .i64 7, .int .i64 0, .string t284, .int .i64 0] (0, 0) _ rfl (by (with_reducible repeat (first | refine blk_drewN ?_ _ | refine blk_drew ?_ | refine blk_alloc ?_ _)); exact BK272.out) Tryz.underlying28 rfl (by kernel_rfl)) rfl ?_
         exact ⟨by first | rfl | (simp [errW_none, errW_some] <;> rfl) | (simp [*, errW_none, errW_some] <;> rfl), by repeat (first | (with_reducible first | exact HB.out | apply below_alloc | apply pw_below_drewN | apply below_drew1 | refine below_set ?_ GE272.out) | exact HB.out)⟩
        ·
         rw [if_neg c53] at H
         have c53b0 : (t274 == 7) = false := beq_eq_false_iff_ne.mpr c53; have c53b1 : (t274 != 7) = true := bne_iff_ne.mpr c53
         by_cases c58 : t274 = 8
         ·
          rw [if_pos c58] at H
          have c58b0 : (t274 == 8) = true := beq_iff_eq.mpr c58; have c58b1 : (t274 != 8) = false := bne_eq_false_iff_eq.mpr c58; clear c58; replace H := Option.bind_eq_some_iff.mp H
          obtain ⟨t285, A590, H⟩ := H
          replace H : (some (7, 0, t285, 0, (t285.size : Int), 0)) = some (r1, r2, r3, r4, r5, r6) := H; have A59 := Aside0.mk A590; clear A590
          simp only [Option.some.injEq, Prod.mk.injEq] at H
          obtain ⟨rfl, rfl, rfl, rfl, rfl, rfl⟩ := H
          go_wp2_with (first | ((with_reducible refine gate_callee (f := 21) rfl ?_); refine gL (some 81) Tryz.func21 #[.string a0] ?_; (with_reducible refine (lex_signOf.calls kj16 a0 t285 _ A59.out).mono ?_); rintro e w60 ⟨rfl, hb⟩; refine ⟨_, rfl, ?_⟩; replace BK272 := bb BK272 hb; replace HB := bs hb; (try clear hb); (try clear hb2); (try clear hk); (try clear hi); have hcz61_0 : w60.cell? ⟨gb272, 0, none⟩ = some (.int .i64 0) := (blk_cell BK272.out 0).trans rfl; have hcz61_1 : w60.cell? ⟨gb272, 1, none⟩ = some (.int .i64 0) := (blk_cell BK272.out 1).trans rfl; have hcz61_2 : w60.cell? ⟨gb272, 2, none⟩ = some (.string (⟨#[]⟩ : ByteArray)) := (blk_cell BK272.out 2).trans rfl; have hcz61_3 : w60.cell? ⟨gb272, 3, none⟩ = some (.int .i64 0) := (blk_cell BK272.out 3).trans rfl; have hfz61_0 := blk_frozen BK272.out 0; have hfz61_1 := blk_frozen BK272.out 1; have hfz61_2 := blk_frozen BK272.out 2; have hfz61_3 := blk_frozen BK272.out 3) | ((with_reducible refine gate_store (t := 28) (p := 2) rfl ?_); refine store_event (t := 28) (p := 2) (v := ?vo_w62) (w1 := ((((w60.setCell ⟨gb272, 0, none⟩ (.int .i64 7)).setCell ⟨gb272, 1, none⟩ (.int .i64 0)).setCell ⟨gb272, 2, none⟩ (.string t285)).setCell ⟨gb272, 3, none⟩ (.int .i64 0))) ?hg ?ho ?hn ?hr ?_; (case ho => rfl); (case hg => rfl); (case hn => rfl); (case hr => first | (go_simp; done) | (go_simp; rfl)); intro w62 hw; replace BK272 : Aside0 (w62.heap[gb272]? = some (.cells #[.int .i64 7, .int .i64 0, .string t285, .int .i64 0] 28 (0, 0))) := bp BK272 hw; replace HB := bv hw; clear hw))
          refine bodyPost_ret (results_ctt rfl _ _ gb272 28 #[.int .i64 7, .int .i64 0, .string t285, .int .i64 0] (0, 0) _ rfl (by (with_reducible repeat (first | refine blk_drewN ?_ _ | refine blk_drew ?_ | refine blk_alloc ?_ _)); exact BK272.out) Tryz.underlying28 rfl (by kernel_rfl)) rfl ?_
          exact ⟨by first | rfl | (simp [errW_none, errW_some] <;> rfl) | (simp [*, errW_none, errW_some] <;> rfl), by repeat (first | (with_reducible first | exact HB.out | apply below_alloc | apply pw_below_drewN | apply below_drew1 | refine below_set ?_ GE272.out) | exact HB.out)⟩
         ·
          rw [if_neg c58] at H
          have c58b0 : (t274 == 8) = false := beq_eq_false_iff_ne.mpr c58; have c58b1 : (t274 != 8) = true := bne_iff_ne.mpr c58
          simp only [Option.some.injEq, Prod.mk.injEq] at H
          obtain ⟨rfl, rfl, rfl, rfl, rfl, rfl⟩ := H
          have hcz63_0 : wc.cell? ⟨gb272, 0, none⟩ = some (.int .i64 0) := (blk_cell BK272.out 0).trans rfl; have hcz63_1 : wc.cell? ⟨gb272, 1, none⟩ = some (.int .i64 0) := (blk_cell BK272.out 1).trans rfl; have hcz63_2 : wc.cell? ⟨gb272, 2, none⟩ = some (.string (⟨#[]⟩ : ByteArray)) := (blk_cell BK272.out 2).trans rfl; have hcz63_3 : wc.cell? ⟨gb272, 3, none⟩ = some (.int .i64 0) := (blk_cell BK272.out 3).trans rfl; have hfz63_0 := blk_frozen BK272.out 0; have hfz63_1 := blk_frozen BK272.out 1; have hfz63_2 := blk_frozen BK272.out 2; have hfz63_3 := blk_frozen BK272.out 3
          go_wp2_with (first | ((with_reducible refine gate_store (t := 28) (p := 2) rfl ?_); refine store_event (t := 28) (p := 2) (v := ?vo_w64) (w1 := ((((wc.setCell ⟨gb272, 0, none⟩ (.int .i64 0)).setCell ⟨gb272, 1, none⟩ (.int .i64 0)).setCell ⟨gb272, 2, none⟩ (.string (⟨#[]⟩ : ByteArray))).setCell ⟨gb272, 3, none⟩ (.int .i64 0))) ?hg ?ho ?hn ?hr ?_; (case ho => rfl); (case hg => rfl); (case hn => rfl); (case hr => first | (go_simp; done) | (go_simp; rfl)); intro w64 hw; replace BK272 : Aside0 (w64.heap[gb272]? = some (.cells #[.int .i64 0, .int .i64 0, .string (⟨#[]⟩ : ByteArray), .int .i64 0] 28 (0, 0))) := bp BK272 hw; replace HB := bv hw; clear hw))
          refine bodyPost_ret (results_ctt rfl _ _ gb272 28 #[.int .i64 0, .int .i64 0, .string (⟨#[]⟩ : ByteArray), .int .i64 0] (0, 0) _ rfl (by (with_reducible repeat (first | refine blk_drewN ?_ _ | refine blk_drew ?_ | refine blk_alloc ?_ _)); exact BK272.out) Tryz.underlying28 rfl (by kernel_rfl)) rfl ?_
          exact ⟨by first | rfl | (simp [errW_none, errW_some] <;> rfl) | (simp [*, errW_none, errW_some] <;> rfl), by repeat (first | (with_reducible first | exact HB.out | apply below_alloc | apply pw_below_drewN | apply below_drew1 | refine below_set ?_ GE272.out) | exact HB.out)⟩
 ·
  rw [if_neg c3] at H
  exact absurd H (by simp)
end Go.Proofs.YtllehkjebikgpaaGreatDoor.PA
end
