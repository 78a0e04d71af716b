-- Laid by a program of ours (wip/gen/xprint.py). Not trusted: Lean checks it.
import Derived.Test.YtakhnkkcllfbjaaDoorPAx0
namespace Go.Proofs.YtakhnkkcllfbjaaDoor.PA
open Go.RowKit Go.Proofs.YtakhnkkcllfbjaaDoorW.PrintWords Go.Proofs.YtakhnkkcllfbjaaDoorW.PrintLast Go.Proofs.YtakhnkkcllfbjaaDoorW.PrintMore Go.Proofs.YtakhnkkcllfbjaaDoorX
attribute [local go_sem] max2_int min2_int max_two min_two max_three min_three max_four min_four   -- for this text's walks alone
set_option linter.unusedVariables false
set_option linter.unusedSimpArgs false

/-! ### unisonref04_Name: function 34 -/
def unisonref04_Name.l0 : Nat → ByteArray → Int → Option (Bool)
 | 0, _, _ => none
 | k + 1, x0, x3 => if x3 < (x0.size : Int) then (if 0 ≤ x3 then (if (bt x0 x3) = 45 then (unisonref04_Name.l0 k x0 (wrap64 (x3 + 1))) else (if (bt x0 x3) = 46 then (unisonref04_Name.l0 k x0 (wrap64 (x3 + 1))) else (if (bt x0 x3) < 48 then (if (bt x0 x3) < 97 then (some false) else (if (bt x0 x3) > 122 then (some false) else (unisonref04_Name.l0 k x0 (wrap64 (x3 + 1))))) else (if (bt x0 x3) > 57 then (if (bt x0 x3) < 97 then (some false) else (if (bt x0 x3) > 122 then (some false) else (unisonref04_Name.l0 k x0 (wrap64 (x3 + 1))))) else (unisonref04_Name.l0 k x0 (wrap64 (x3 + 1))))))) else (none)) else (if (x0.size : Int) ≥ 1 then (some (decide ((x0.size : Int) ≤ 16))) else (some false))
def unisonref04_Name.f (k : Nat) (a0 : ByteArray) : Option (Bool) := unisonref04_Name.l0 k a0 0
theorem unisonref04_Name.mono_l : ∀ k, (∀ y0 y1, LeO (unisonref04_Name.l0 k y0 y1) (unisonref04_Name.l0 (k + 1) y0 y1))
 | 0 => fun _ _ r h => by simp [unisonref04_Name.l0] at h
 | k + 1 => by
  have ih0 := unisonref04_Name.mono_l k
  ·
   intro y0 y1
   unfold unisonref04_Name.l0
   repeat' first
   | (with_reducible exact ih0 _ _)
   | (with_reducible exact LeO.refl _)
   | (with_reducible exact LeO.none _)
   | (with_reducible refine LeO.ite ?_ ?_)
   | (with_reducible refine LeO.bind ?_ (fun _ => ?_))
   | exact ih0 _ _
   | exact LeO.none _
   | refine LeO.ite ?_ ?_
   | refine LeO.bind ?_ (fun _ => ?_)
theorem unisonref04_Name.mono : ∀ a0 k, LeO (unisonref04_Name.f k a0) (unisonref04_Name.f (k + 1) a0) := by
 intro a0 k
 have ih0 := unisonref04_Name.mono_l k
 unfold unisonref04_Name.f
 repeat' first
   | (with_reducible exact ih0 _ _)
   | (with_reducible exact LeO.refl _)
   | (with_reducible exact LeO.none _)
   | (with_reducible refine LeO.ite ?_ ?_)
   | (with_reducible refine LeO.bind ?_ (fun _ => ?_))
   | exact ih0 _ _
   | exact LeO.none _
   | refine LeO.ite ?_ ?_
   | refine LeO.bind ?_ (fun _ => ?_)
set_option maxHeartbeats 8000000 in
set_option maxRecDepth 100000 in
theorem unisonref04_Name.calls (k : Nat) (a0 : ByteArray) (r : Bool) (w : World) (h : unisonref04_Name.f k a0 = some r) :
  Calls Tryd.prog 34 #[.string a0] w fun e w' => e = .returned (.bool r) ∧ Drawn0 w w' := by
 have H : (unisonref04_Name.l0 k a0 0) = some r := h
 clear h
 have H' := Aside0.mk H
 clear H
 go_enter Tryd.func34, Tryd.ntmps34
 go_wp2
 go_loopg [3] k (fun kq v3 w' => ∃ (x3_1 : Int), v3 = .int .i64 x3_1 ∧ Aside0 (unisonref04_Name.l0 kq a0 x3_1 = some r) ∧ Aside0 (kq ≤ k) ∧ Drawn0 w w')
 case atStart => exact ⟨(0), (by first | rfl | (simp; done) | (simp [*]; done)), H', ⟨Nat.le_refl _⟩, by repeat (first | exact Drawn0.refl _ | apply Drawn0.step)⟩
 case round =>
  clear H'
  obtain ⟨x3_1, rfl, HA, HK1, ⟨m1, rfl⟩⟩ := hrel
  cases gk with
  | zero => exact absurd HA.out (by simp [unisonref04_Name.l0])
  | succ k1 =>
   have H := HA.out
   clear HA
   simp only [unisonref04_Name.l0] at H
   by_cases c2 : x3_1 < (a0.size : Int)
   ·
    rw [if_pos c2] at H
    have c2b0 : decide (x3_1 < (a0.size : Int)) = true := decide_eq_true c2
    clear c2
    by_cases c3 : 0 ≤ x3_1
    ·
     rw [if_pos c3] at H
     have c3b0 : decide (0 ≤ x3_1) = true := decide_eq_true c3
     clear c3
     by_cases c5 : (bt a0 x3_1) = 45
     ·
      rw [if_pos c5] at H
      have c5b0 : ((bt a0 x3_1) == 45) = true := beq_iff_eq.mpr c5
      have c5b1 : ((bt a0 x3_1) != 45) = false := bne_eq_false_iff_eq.mpr c5
      clear c5
      have H' := Aside0.mk H
      clear H
      have p4 : 0 ≤ (x3_1 : Int) := of_decide_eq_true (by first | (with_reducible assumption) | assumption)
      have q4 : x3_1 < (a0.size : Int) := of_decide_eq_true (by first | (with_reducible assumption) | assumption)
      have hx4 := bt_at a0 x3_1
      replace p4 := eq_true p4
      replace q4 := eq_true q4
      go_wp2
      go_roundg k1
      case measure => have := HK1.out; omega
      case rel => exact ⟨(wrap64 (x3_1 + 1)), (by first | rfl | (simp; done) | (simp [*]; done)), H', ⟨by have := HK1.out; omega⟩, by repeat (first | exact Drawn0.refl _ | apply Drawn0.step)⟩
     ·
      rw [if_neg c5] at H
      have c5b0 : ((bt a0 x3_1) == 45) = false := beq_eq_false_iff_ne.mpr c5
      have c5b1 : ((bt a0 x3_1) != 45) = true := bne_iff_ne.mpr c5
      by_cases c6 : (bt a0 x3_1) = 46
      ·
       rw [if_pos c6] at H
       have c6b0 : ((bt a0 x3_1) == 46) = true := beq_iff_eq.mpr c6
       have c6b1 : ((bt a0 x3_1) != 46) = false := bne_eq_false_iff_eq.mpr c6
       clear c6
       have H' := Aside0.mk H
       clear H
       have p4 : 0 ≤ (x3_1 : Int) := of_decide_eq_true (by first | (with_reducible assumption) | assumption)
       have q4 : x3_1 < (a0.size : Int) := of_decide_eq_true (by first | (with_reducible assumption) | assumption)
       have hx4 := bt_at a0 x3_1
       replace p4 := eq_true p4
       replace q4 := eq_true q4
       go_wp2
       go_roundg k1
       case measure => have := HK1.out; omega
       case rel => exact ⟨(wrap64 (x3_1 + 1)), (by first | rfl | (simp; done) | (simp [*]; done)), H', ⟨by have := HK1.out; omega⟩, by repeat (first | exact Drawn0.refl _ | apply Drawn0.step)⟩
      ·
       rw [if_neg c6] at H
       have c6b0 : ((bt a0 x3_1) == 46) = false := beq_eq_false_iff_ne.mpr c6
       have c6b1 : ((bt a0 x3_1) != 46) = true := bne_iff_ne.mpr c6
       by_cases c7 : (bt a0 x3_1) < 48
       ·
        rw [if_pos c7] at H
        have c7b0 : decide ((bt a0 x3_1) < 48) = true := decide_eq_true c7
        clear c7
        by_cases c8 : (bt a0 x3_1) < 97
        ·
         rw [if_pos c8] at H
         have c8b0 : decide ((bt a0 x3_1) < 97) = true := decide_eq_true c8
         clear c8
         obtain rfl := Option.some.inj H
         have p4 : 0 ≤ (x3_1 : Int) := of_decide_eq_true (by first | (with_reducible assumption) | assumption)
         have q4 : x3_1 < (a0.size : Int) := of_decide_eq_true (by first | (with_reducible assumption) | assumption)
         have hx4 := bt_at a0 x3_1
         replace p4 := eq_true p4
         replace q4 := eq_true q4
         go_wp2
         go_ret
         exact ⟨by first | rfl | (simp; done) | (simp [*]; done), by repeat (first | exact Drawn0.refl _ | apply Drawn0.step)⟩
        ·
         rw [if_neg c8] at H
         have c8b0 : decide ((bt a0 x3_1) < 97) = false := decide_eq_false c8
         clear c8
         by_cases c9 : (bt a0 x3_1) > 122
         ·
          rw [if_pos c9] at H
          have c9b0 : decide (122 < (bt a0 x3_1)) = true := decide_eq_true c9
          clear c9
          obtain rfl := Option.some.inj H
          have p4 : 0 ≤ (x3_1 : Int) := of_decide_eq_true (by first | (with_reducible assumption) | assumption)
          have q4 : x3_1 < (a0.size : Int) := of_decide_eq_true (by first | (with_reducible assumption) | assumption)
          have hx4 := bt_at a0 x3_1
          replace p4 := eq_true p4
          replace q4 := eq_true q4
          go_wp2
          go_ret
          exact ⟨by first | rfl | (simp; done) | (simp [*]; done), by repeat (first | exact Drawn0.refl _ | apply Drawn0.step)⟩
         ·
          rw [if_neg c9] at H
          have c9b0 : decide (122 < (bt a0 x3_1)) = false := decide_eq_false c9
          clear c9
          have H' := Aside0.mk H
          clear H
          have p4 : 0 ≤ (x3_1 : Int) := of_decide_eq_true (by first | (with_reducible assumption) | assumption)
          have q4 : x3_1 < (a0.size : Int) := of_decide_eq_true (by first | (with_reducible assumption) | assumption)
          have hx4 := bt_at a0 x3_1
          replace p4 := eq_true p4
          replace q4 := eq_true q4
          go_wp2
          go_roundg k1
          case measure => have := HK1.out; omega
          case rel => exact ⟨(wrap64 (x3_1 + 1)), (by first | rfl | (simp; done) | (simp [*]; done)), H', ⟨by have := HK1.out; omega⟩, by repeat (first | exact Drawn0.refl _ | apply Drawn0.step)⟩
       ·
        rw [if_neg c7] at H
        have c7b0 : decide ((bt a0 x3_1) < 48) = false := decide_eq_false c7
        clear c7
        by_cases c10 : (bt a0 x3_1) > 57
        ·
         rw [if_pos c10] at H
         have c10b0 : decide (57 < (bt a0 x3_1)) = true := decide_eq_true c10
         clear c10
         by_cases c11 : (bt a0 x3_1) < 97
         ·
          rw [if_pos c11] at H
          have c11b0 : decide ((bt a0 x3_1) < 97) = true := decide_eq_true c11
          clear c11
          obtain rfl := Option.some.inj H
          have p4 : 0 ≤ (x3_1 : Int) := of_decide_eq_true (by first | (with_reducible assumption) | assumption)
          have q4 : x3_1 < (a0.size : Int) := of_decide_eq_true (by first | (with_reducible assumption) | assumption)
          have hx4 := bt_at a0 x3_1
          replace p4 := eq_true p4
          replace q4 := eq_true q4
          go_wp2
          go_ret
          exact ⟨by first | rfl | (simp; done) | (simp [*]; done), by repeat (first | exact Drawn0.refl _ | apply Drawn0.step)⟩
         ·
          rw [if_neg c11] at H
          have c11b0 : decide ((bt a0 x3_1) < 97) = false := decide_eq_false c11
          clear c11
          by_cases c12 : (bt a0 x3_1) > 122
          ·
           rw [if_pos c12] at H
           have c12b0 : decide (122 < (bt a0 x3_1)) = true := decide_eq_true c12
           clear c12
           obtain rfl := Option.some.inj H
           have p4 : 0 ≤ (x3_1 : Int) := of_decide_eq_true (by first | (with_reducible assumption) | assumption)
           have q4 : x3_1 < (a0.size : Int) := of_decide_eq_true (by first | (with_reducible assumption) | assumption)
           have hx4 := bt_at a0 x3_1
           replace p4 := eq_true p4
           replace q4 := eq_true q4
           go_wp2
           go_ret
           exact ⟨by first | rfl | (simp; done) | (simp [*]; done), by repeat (first | exact Drawn0.refl _ | apply Drawn0.step)⟩
          ·
           rw [if_neg c12] at H
           have c12b0 : decide (122 < (bt a0 x3_1)) = false := decide_eq_false c12
           clear c12
           have H' := Aside0.mk H
           clear H
           have p4 : 0 ≤ (x3_1 : Int) := of_decide_eq_true (by first | (with_reducible assumption) | assumption)
           have q4 : x3_1 < (a0.size : Int) := of_decide_eq_true (by first | (with_reducible assumption) | assumption)
           have hx4 := bt_at a0 x3_1
           replace p4 := eq_true p4
           replace q4 := eq_true q4
           go_wp2
           go_roundg k1
           case measure => have := HK1.out; omega
           case rel => exact ⟨(wrap64 (x3_1 + 1)), (by first | rfl | (simp; done) | (simp [*]; done)), H', ⟨by have := HK1.out; omega⟩, by repeat (first | exact Drawn0.refl _ | apply Drawn0.step)⟩
        ·
         rw [if_neg c10] at H
         have c10b0 : decide (57 < (bt a0 x3_1)) = false := decide_eq_false c10
         clear c10
         have H' := Aside0.mk H
         clear H
         have p4 : 0 ≤ (x3_1 : Int) := of_decide_eq_true (by first | (with_reducible assumption) | assumption)
         have q4 : x3_1 < (a0.size : Int) := of_decide_eq_true (by first | (with_reducible assumption) | assumption)
         have hx4 := bt_at a0 x3_1
         replace p4 := eq_true p4
         replace q4 := eq_true q4
         go_wp2
         go_roundg k1
         case measure => have := HK1.out; omega
         case rel => exact ⟨(wrap64 (x3_1 + 1)), (by first | rfl | (simp; done) | (simp [*]; done)), H', ⟨by have := HK1.out; omega⟩, by repeat (first | exact Drawn0.refl _ | apply Drawn0.step)⟩
    ·
     rw [if_neg c3] at H
     exact absurd H (by simp)
   ·
    rw [if_neg c2] at H
    have c2b0 : decide (x3_1 < (a0.size : Int)) = false := decide_eq_false c2
    clear c2
    by_cases c13 : (a0.size : Int) ≥ 1
    ·
     rw [if_pos c13] at H
     have c13b0 : decide (1 ≤ (a0.size : Int)) = true := decide_eq_true c13
     have c13b1 : decide (1 ≤ a0.size) = true := decide_eq_true (by omega)
     clear c13
     obtain rfl := Option.some.inj H
     go_wp2
     go_ret
     exact ⟨by first | rfl | (simp; done) | (simp [*]; done), by repeat (first | exact Drawn0.refl _ | apply Drawn0.step)⟩
    ·
     rw [if_neg c13] at H
     have c13b0 : decide (1 ≤ (a0.size : Int)) = false := decide_eq_false c13
     have c13b1 : decide (1 ≤ a0.size) = false := decide_eq_false (by omega)
     clear c13
     obtain rfl := Option.some.inj H
     go_wp2
     go_ret
     exact ⟨by first | rfl | (simp; done) | (simp [*]; done), by repeat (first | exact Drawn0.refl _ | apply Drawn0.step)⟩

/-- A state of type 79 at block g of W; what its slices lead to came in by w0. -/
def IsS79 (w0 W : World) (g : Nat) (f0 : Int) (f1 : List (S37)) (f2 : Int) (f3 : Bool) (f4 : Int) : Prop := ∃ A1 c1, W.heap[g]? = some (.cells #[.int .i64 f0, .slice A1 f1.length c1, .int .i64 f2, .bool f3, .int .i64 f4] 79 (0, 0)) ∧ w0.heap.size ≤ g ∧ Kd.C k37 w0 A1 f1.length f1
theorem IsS79.grown {w0 W : World} {g : Nat} {f0 : Int} {f1 : List (S37)} {f2 : Int} {f3 : Bool} {f4 : Int} {W1 : World} {row : Option Nat} (h : IsS79 w0 W g f0 f1 f2 f3 f4) (hw : W.grownBy W1 row) (hne : some g ≠ row) : IsS79 w0 W1 g f0 f1 f2 f3 f4 := by
 obtain ⟨A1, c1, hb, hg, hr1⟩ := h
 exact ⟨A1, c1, blk_grown hb hw hne, hg, hr1⟩
theorem IsS79.own_neN {w0 W : World} {g : Nat} {f0 : Int} {f1 : List (S37)} {f2 : Int} {f3 : Bool} {f4 : Int} {α : Type} {d : Kd α} {e : Nat} {base : Nat} {ok : Nat → Prop} {v : Value} {xs : List α} (h : IsS79 w0 W g f0 f1 f2 f3 f4) (ho : Kd.N d e W base ok v xs) (ht : e ≠ 79) : some g ≠ v.ownBlock := by
 obtain ⟨A1, c1, hb, hg, hr1⟩ := h
 exact Kd.N_ne ho hb ht
theorem IsS79.fresh {w0 W : World} {g : Nat} {f0 : Int} {f1 : List (S37)} {f2 : Int} {f3 : Bool} {f4 : Int} (h : IsS79 w0 W g f0 f1 f2 f3 f4) : ∀ k, W.heap.size ≤ k → k ≠ g := by
 obtain ⟨A1, c1, hb, hg, hr1⟩ := h
 exact Kd.freshB hb
theorem IsS79.kept {w0 W : World} {g : Nat} {f0 : Int} {f1 : List (S37)} {f2 : Int} {f3 : Bool} {f4 : Int} {W1 : World} {S : Nat → Prop} (h : IsS79 w0 W g f0 f1 f2 f3 f4) (hk : Kept W W1 S) (hne : ¬ S g) : IsS79 w0 W1 g f0 f1 f2 f3 f4 := by
 obtain ⟨A1, c1, hb, hg, hr1⟩ := h
 exact ⟨A1, c1, blk_kept hb hk hne, hg, hr1⟩
theorem IsS79.below {w0 W : World} {g : Nat} {f0 : Int} {f1 : List (S37)} {f2 : Int} {f3 : Bool} {f4 : Int} {W1 : World} (h : IsS79 w0 W g f0 f1 f2 f3 f4) (hw : Below W.heap.size W W1) : IsS79 w0 W1 g f0 f1 f2 f3 f4 := h.grown (grown_of_below hw none) (by simp)
theorem IsS79.alloc {w0 W : World} {g : Nat} {f0 : Int} {f1 : List (S37)} {f2 : Int} {f3 : Bool} {f4 : Int} (h : IsS79 w0 W g f0 f1 f2 f3 f4) (o : Obj) : IsS79 w0 (W.alloc o) g f0 f1 f2 f3 f4 := h.below (below_alloc (Below.refl _ _) o)
theorem IsS79.drewN {w0 W : World} {g : Nat} {f0 : Int} {f1 : List (S37)} {f2 : Int} {f3 : Bool} {f4 : Int} (h : IsS79 w0 W g f0 f1 f2 f3 f4) (m : Nat) : IsS79 w0 (W.drewN m) g f0 f1 f2 f3 f4 := h
theorem IsS79.drew {w0 W : World} {g : Nat} {f0 : Int} {f1 : List (S37)} {f2 : Int} {f3 : Bool} {f4 : Int} (h : IsS79 w0 W g f0 f1 f2 f3 f4) : IsS79 w0 W.drew g f0 f1 f2 f3 f4 := h
theorem IsS79.at_ {w0 W : World} {g : Nat} {f0 : Int} {f1 : List (S37)} {f2 : Int} {f3 : Bool} {f4 : Int} {w' : World} {m : Nat} (hq : W.drewN m = w') (h : IsS79 w0 W g f0 f1 f2 f3 f4) : IsS79 w0 w' g f0 f1 f2 f3 f4 := by subst hq; exact IsS79.drewN h m
theorem IsS79.apart {w0 W : World} {g : Nat} {f0 : Int} {f1 : List (S37)} {f2 : Int} {f3 : Bool} {f4 : Int} {α : Type} {d : Kd α} {e : Nat} {base : Nat} {ok : Nat → Prop} {v : Value} {xs : List α} (h : IsS79 w0 W g f0 f1 f2 f3 f4) (ho : d.R e W base ok v xs) (ht : ∀ q, q ∈ e :: d.E → q ≠ 79) : d.R e W base (fun k => ok k ∧ k ≠ g) v xs := by
 obtain ⟨A1, c1, hb, hg, hr1⟩ := h
 exact Kd.R_types ho hb ht
theorem IsS79.own_ne {w0 W : World} {g : Nat} {f0 : Int} {f1 : List (S37)} {f2 : Int} {f3 : Bool} {f4 : Int} {α : Type} {d : Kd α} {e : Nat} {base : Nat} {ok : Nat → Prop} {v : Value} {xs : List α} (h : IsS79 w0 W g f0 f1 f2 f3 f4) (ho : d.R e W base ok v xs) (ht : e ≠ 79) : some g ≠ v.ownBlock := by
 obtain ⟨A1, c1, hb, hg, hr1⟩ := h
 exact Kd.R_ne ho hb ht
theorem IsS79.apartQ {w0 W : World} {g : Nat} {f0 : Int} {f1 : List (S37)} {f2 : Int} {f3 : Bool} {f4 : Int} {α : Type} {d : Kd α} {e : Nat} {base : Nat} {ok : Nat → Prop} {v : Value} {xs : List α} (h : IsS79 w0 W g f0 f1 f2 f3 f4) (ho : d.Q e W base ok v xs) (ht : ∀ q, q ∈ e :: d.E → q ≠ 79) : d.Q e W base (fun k => ok k ∧ k ≠ g) v xs := by
 obtain ⟨A1, c1, hb, hg, hr1⟩ := h
 exact Kd.Q_types ho hb ht
theorem IsS79.own_neQ {w0 W : World} {g : Nat} {f0 : Int} {f1 : List (S37)} {f2 : Int} {f3 : Bool} {f4 : Int} {α : Type} {d : Kd α} {e : Nat} {base : Nat} {ok : Nat → Prop} {v : Value} {xs : List α} (h : IsS79 w0 W g f0 f1 f2 f3 f4) (ho : d.Q e W base ok v xs) (ht : e ≠ 79) : some g ≠ v.ownBlock := by
 obtain ⟨A1, c1, hb, hg, hr1⟩ := h
 exact Kd.Q_ne ho hb ht
theorem IsS79.apartS {w0 W : World} {g : Nat} {f0 : Int} {f1 : List (S37)} {f2 : Int} {f3 : Bool} {f4 : Int} {α : Type} {d : Kd α} {e : Nat} {base : Nat} {ok : Nat → Prop} {v : Value} {xs : List α} (h : IsS79 w0 W g f0 f1 f2 f3 f4) (ho : d.S e W base ok v xs) (ht : ∀ q, q ∈ e :: d.E → q ≠ 79) : d.S e W base (fun k => ok k ∧ k ≠ g) v xs := by
 obtain ⟨A1, c1, hb, hg, hr1⟩ := h
 exact Kd.S_types ho hb ht
theorem IsS79.own_neS {w0 W : World} {g : Nat} {f0 : Int} {f1 : List (S37)} {f2 : Int} {f3 : Bool} {f4 : Int} {α : Type} {d : Kd α} {e : Nat} {base : Nat} {ok : Nat → Prop} {v : Value} {xs : List α} (h : IsS79 w0 W g f0 f1 f2 f3 f4) (ho : d.S e W base ok v xs) (ht : e ≠ 79) : some g ≠ v.ownBlock := by
 obtain ⟨A1, c1, hb, hg, hr1⟩ := h
 exact Kd.S_ne ho hb ht
theorem IsS79.lt {w0 W : World} {g : Nat} {f0 : Int} {f1 : List (S37)} {f2 : Int} {f3 : Bool} {f4 : Int} (h : IsS79 w0 W g f0 f1 f2 f3 f4) : g < W.heap.size := by
 obtain ⟨A1, c1, hb, hg, hr1⟩ := h
 exact blk_lt hb
theorem IsS79.ge {w0 W : World} {g : Nat} {f0 : Int} {f1 : List (S37)} {f2 : Int} {f3 : Bool} {f4 : Int} (h : IsS79 w0 W g f0 f1 f2 f3 f4) : w0.heap.size ≤ g := by
 obtain ⟨A1, c1, hb, hg, hr1⟩ := h
 exact hg
theorem IsS79.ne_blk {w0 W : World} {g : Nat} {f0 : Int} {f1 : List (S37)} {f2 : Int} {f3 : Bool} {f4 : Int} {a : Nat} {cs : Array Value} {t : TypeId} {fr : Nat × Nat} (h : IsS79 w0 W g f0 f1 f2 f3 f4) (hb2 : W.heap[a]? = some (.cells cs t fr)) (ht : t ≠ 79) : g ≠ a := by
 obtain ⟨A1, c1, hb, hg, hr1⟩ := h
 rintro rfl
 rw [hb] at hb2
 injection hb2 with hb2
 injection hb2 with _ ht2
 exact ht ht2.symm
theorem IsS79.far {w0 W : World} {g : Nat} {f0 : Int} {f1 : List (S37)} {f2 : Int} {f3 : Bool} {f4 : Int} {p : Addr} (h : IsS79 w0 W g f0 f1 f2 f3 f4) (hne : g ≠ p.block) (u : Value) : IsS79 w0 (W.setCell p u) g f0 f1 f2 f3 f4 := by
 obtain ⟨A1, c1, hb, hg, hr1⟩ := h
 exact ⟨A1, c1, blk_far hb hne u, hg, hr1⟩
theorem cellS79_0 {W : World} {g : Nat} {A1 : Option Addr} {c1 : Nat} {f0 : Int} {f1 : List (S37)} {f2 : Int} {f3 : Bool} {f4 : Int} (h : W.heap[g]? = some (.cells #[.int .i64 f0, .slice A1 f1.length c1, .int .i64 f2, .bool f3, .int .i64 f4] 79 (0, 0))) : W.cell? ⟨g, 0, none⟩ = some (.int .i64 f0) := (blk_cell h 0).trans rfl
theorem IsS79.set_0 {w0 W : World} {g : Nat} {f0 : Int} {f1 : List (S37)} {f2 : Int} {f3 : Bool} {f4 : Int} (h : IsS79 w0 W g f0 f1 f2 f3 f4) (x : Int) : IsS79 w0 (W.setCell ⟨g, 0, none⟩ (.int .i64 x)) g x f1 f2 f3 f4 := by
 obtain ⟨A1, c1, hb, hg, hr1⟩ := h
 exact ⟨A1, c1, by simpa using blk_set hb 0 (.int .i64 x), hg, hr1⟩
theorem cellS79_1 {W : World} {g : Nat} {A1 : Option Addr} {c1 : Nat} {f0 : Int} {f1 : List (S37)} {f2 : Int} {f3 : Bool} {f4 : Int} (h : W.heap[g]? = some (.cells #[.int .i64 f0, .slice A1 f1.length c1, .int .i64 f2, .bool f3, .int .i64 f4] 79 (0, 0))) : W.cell? ⟨g, 1, none⟩ = some (.slice A1 f1.length c1) := (blk_cell h 1).trans rfl
theorem cellS79_2 {W : World} {g : Nat} {A1 : Option Addr} {c1 : Nat} {f0 : Int} {f1 : List (S37)} {f2 : Int} {f3 : Bool} {f4 : Int} (h : W.heap[g]? = some (.cells #[.int .i64 f0, .slice A1 f1.length c1, .int .i64 f2, .bool f3, .int .i64 f4] 79 (0, 0))) : W.cell? ⟨g, 2, none⟩ = some (.int .i64 f2) := (blk_cell h 2).trans rfl
theorem IsS79.set_2 {w0 W : World} {g : Nat} {f0 : Int} {f1 : List (S37)} {f2 : Int} {f3 : Bool} {f4 : Int} (h : IsS79 w0 W g f0 f1 f2 f3 f4) (x : Int) : IsS79 w0 (W.setCell ⟨g, 2, none⟩ (.int .i64 x)) g f0 f1 x f3 f4 := by
 obtain ⟨A1, c1, hb, hg, hr1⟩ := h
 exact ⟨A1, c1, by simpa using blk_set hb 2 (.int .i64 x), hg, hr1⟩
theorem cellS79_3 {W : World} {g : Nat} {A1 : Option Addr} {c1 : Nat} {f0 : Int} {f1 : List (S37)} {f2 : Int} {f3 : Bool} {f4 : Int} (h : W.heap[g]? = some (.cells #[.int .i64 f0, .slice A1 f1.length c1, .int .i64 f2, .bool f3, .int .i64 f4] 79 (0, 0))) : W.cell? ⟨g, 3, none⟩ = some (.bool f3) := (blk_cell h 3).trans rfl
theorem IsS79.set_3 {w0 W : World} {g : Nat} {f0 : Int} {f1 : List (S37)} {f2 : Int} {f3 : Bool} {f4 : Int} (h : IsS79 w0 W g f0 f1 f2 f3 f4) (x : Bool) : IsS79 w0 (W.setCell ⟨g, 3, none⟩ (.bool x)) g f0 f1 f2 x f4 := by
 obtain ⟨A1, c1, hb, hg, hr1⟩ := h
 exact ⟨A1, c1, by simpa using blk_set hb 3 (.bool x), hg, hr1⟩
theorem cellS79_4 {W : World} {g : Nat} {A1 : Option Addr} {c1 : Nat} {f0 : Int} {f1 : List (S37)} {f2 : Int} {f3 : Bool} {f4 : Int} (h : W.heap[g]? = some (.cells #[.int .i64 f0, .slice A1 f1.length c1, .int .i64 f2, .bool f3, .int .i64 f4] 79 (0, 0))) : W.cell? ⟨g, 4, none⟩ = some (.int .i64 f4) := (blk_cell h 4).trans rfl
theorem IsS79.set_4 {w0 W : World} {g : Nat} {f0 : Int} {f1 : List (S37)} {f2 : Int} {f3 : Bool} {f4 : Int} (h : IsS79 w0 W g f0 f1 f2 f3 f4) (x : Int) : IsS79 w0 (W.setCell ⟨g, 4, none⟩ (.int .i64 x)) g f0 f1 f2 f3 x := by
 obtain ⟨A1, c1, hb, hg, hr1⟩ := h
 exact ⟨A1, c1, by simpa using blk_set hb 4 (.int .i64 x), hg, hr1⟩
theorem IsS79.new (w0 W : World) (A1 : Option Addr) (c1 : Nat) (f0 : Int) (f1 : List (S37)) (f2 : Int) (f3 : Bool) (f4 : Int) (hB : Below w0.heap.size w0 W) (hr1 : Kd.C k37 w0 A1 f1.length f1) : IsS79 w0 (W.alloc (.cells #[.int .i64 f0, .slice A1 f1.length c1, .int .i64 f2, .bool f3, .int .i64 f4] 79)) W.heap.size f0 f1 f2 f3 f4 := ⟨A1, c1, by simpa using heap_alloc_new W _, hB.size, hr1⟩

/-! ### unisonref04_Disk_place: function 54 -/
def unisonref04_Disk_place.l0 : Nat → ByteArray → Int → Int → List (S37) → Int → Bool → Int → Option (Int × Int × Int × Bool × Int)
 | 0, _, _, _, _, _, _, _ => none
 | k + 1, x1, x5, x1000, x1001, x1002, x1003, x1004 => if x5 < (x1001.length : Int) then (if 0 ≤ x5 then (if (Op.bytesLess (((rd_T37 x1001 x5).f0).toList) x1.toList) = true then (unisonref04_Disk_place.l0 k x1 (wrap64 (x5 + 1)) x1000 x1001 x1002 x1003 x1004) else (some (x5, x1000, x1002, x1003, x1004))) else (none)) else (some (x5, x1000, x1002, x1003, x1004))
def unisonref04_Disk_place.f (k : Nat) (s0_0 : Int) (s0_1 : List (S37)) (s0_2 : Int) (s0_3 : Bool) (s0_4 : Int) (a1 : ByteArray) : Option (Int × Int × Int × Bool × Int) := unisonref04_Disk_place.l0 k a1 0 s0_0 s0_1 s0_2 s0_3 s0_4
theorem unisonref04_Disk_place.mono_l : ∀ k, (∀ y0 y1 y2 y3 y4 y5 y6, LeO (unisonref04_Disk_place.l0 k y0 y1 y2 y3 y4 y5 y6) (unisonref04_Disk_place.l0 (k + 1) y0 y1 y2 y3 y4 y5 y6))
 | 0 => fun _ _ _ _ _ _ _ r h => by simp [unisonref04_Disk_place.l0] at h
 | k + 1 => by
  have ih0 := unisonref04_Disk_place.mono_l k
  ·
   intro y0 y1 y2 y3 y4 y5 y6
   unfold unisonref04_Disk_place.l0
   repeat' first
   | (with_reducible exact ih0 _ _ _ _ _ _ _)
   | (with_reducible exact LeO.refl _)
   | (with_reducible exact LeO.none _)
   | (with_reducible refine LeO.ite ?_ ?_)
   | (with_reducible refine LeO.bind ?_ (fun _ => ?_))
   | exact ih0 _ _ _ _ _ _ _
   | exact LeO.none _
   | refine LeO.ite ?_ ?_
   | refine LeO.bind ?_ (fun _ => ?_)
theorem unisonref04_Disk_place.mono : ∀ a0 a1 a2 a3 a4 a5 k, LeO (unisonref04_Disk_place.f k a0 a1 a2 a3 a4 a5) (unisonref04_Disk_place.f (k + 1) a0 a1 a2 a3 a4 a5) := by
 intro a0 a1 a2 a3 a4 a5 k
 have ih0 := unisonref04_Disk_place.mono_l k
 unfold unisonref04_Disk_place.f
 repeat' first
   | (with_reducible exact ih0 _ _ _ _ _ _ _)
   | (with_reducible exact LeO.refl _)
   | (with_reducible exact LeO.none _)
   | (with_reducible refine LeO.ite ?_ ?_)
   | (with_reducible refine LeO.bind ?_ (fun _ => ?_))
   | exact ih0 _ _ _ _ _ _ _
   | exact LeO.none _
   | refine LeO.ite ?_ ?_
   | refine LeO.bind ?_ (fun _ => ?_)
set_option maxHeartbeats 8000000 in
set_option maxRecDepth 100000 in
theorem unisonref04_Disk_place.calls (k : Nat) (g : Nat) (s0_0 : Int) (s0_1 : List (S37)) (s0_2 : Int) (s0_3 : Bool) (s0_4 : Int) (a1 : ByteArray) (r1 : Int) (r2 : Int) (r3 : Int) (r4 : Bool) (r5 : Int) (w0 w : World) (hI : IsS79 w0 w g s0_0 s0_1 s0_2 s0_3 s0_4) (hB : Below w0.heap.size w0 w) (h : unisonref04_Disk_place.f k s0_0 s0_1 s0_2 s0_3 s0_4 a1 = some (r1, r2, r3, r4, r5)) :
  Calls Tryd.prog 54 #[.pointer (some ⟨g, 0, none⟩), .string a1] w fun e w' => e = .returned (.int .i64 r1) ∧ IsS79 w0 w' g r2 s0_1 r3 r4 r5 ∧ Below w0.heap.size w0 w' ∧ KeepBut w w' g none := by
 have HI0 := Aside0.mk hI
 have HK := Aside0.mk (KeepBut.refl w g none)
 have HL := Aside0.mk hB.size
 clear hI
 have HW0 := Aside0.mk hB.size
 have HB := Aside0.mk hB
 clear hB
 have H : (unisonref04_Disk_place.l0 k a1 0 s0_0 s0_1 s0_2 s0_3 s0_4) = some (r1, r2, r3, r4, r5) := h
 clear h
 have H' := Aside0.mk H
 clear H
 go_enter Tryd.func54, Tryd.ntmps54
 go_wp2
 go_loopg [5] k (fun kq v5 w' => ∃ (x5_1 : Int), v5 = .int .i64 x5_1 ∧ Aside0 (unisonref04_Disk_place.l0 kq a1 x5_1 s0_0 s0_1 s0_2 s0_3 s0_4 = some (r1, r2, r3, r4, r5)) ∧ Aside0 (kq ≤ k) ∧ Aside0 (IsS79 w0 w' g s0_0 s0_1 s0_2 s0_3 s0_4) ∧ Aside0 (KeepBut w w' g none) ∧ Aside0 (Below w0.heap.size w0 w'))
 case atStart => exact ⟨(0), (by first | rfl | (simp; done) | (simp [*]; done)), H', ⟨Nat.le_refl _⟩, ⟨by repeat (first | (with_reducible first | exact HI0.out | apply IsS79.alloc | apply IsS79.drewN | apply IsS79.drew | apply IsS79.set_0 | apply IsS79.set_2 | apply IsS79.set_3 | apply IsS79.set_4) | exact HI0.out)⟩, ⟨by repeat (first | (with_reducible first | exact HK.out | apply KeepBut.set_ | apply keep_drewN | apply keep_drew | apply keep_alloc) | exact HK.out)⟩, ⟨by repeat (first | (with_reducible first | exact HB.out | apply below_alloc | apply pw_below_drewN | apply below_drew1 | refine below_set ?_ (IsS79.ge HI0.out)) | exact HB.out)⟩⟩
 case round =>
  clear H'
  try clear p2
  obtain ⟨x5_1, rfl, HA, HK1, HI0, HK, HB⟩ := hrel
  cases gk with
  | zero => exact absurd HA.out (by simp [unisonref04_Disk_place.l0])
  | succ k1 =>
   have H := HA.out
   clear HA
   simp only [unisonref04_Disk_place.l0] at H
   by_cases c3 : x5_1 < (s0_1.length : Int)
   ·
    rw [if_pos c3] at H
    have c3b0 : decide (x5_1 < (s0_1.length : Int)) = true := decide_eq_true c3
    clear c3
    by_cases c4 : 0 ≤ x5_1
    ·
     rw [if_pos c4] at H
     have c4b0 : decide (0 ≤ x5_1) = true := decide_eq_true c4
     clear c4
     by_cases c5 : (Op.bytesLess (((rd_T37 s0_1 x5_1).f0).toList) a1.toList) = true
     ·
      rw [if_pos c5] at H
      have c5b0 : (Op.bytesLess (((rd_T37 s0_1 x5_1).f0).toList) a1.toList) = true := c5
      clear c5
      have H' := Aside0.mk H
      clear H
      obtain ⟨ASz6_1, cSz6_1, HGz6, hgz6, HSz6_1⟩ := HI0.out
      have hcz6_0 := cellS79_0 HGz6
      have hcz6_1 := cellS79_1 HGz6
      have hcz6_2 := cellS79_2 HGz6
      have hcz6_3 := cellS79_3 HGz6
      have hcz6_4 := cellS79_4 HGz6
      have hfz6_0 := blk_frozen HGz6 0
      have hfz6_2 := blk_frozen HGz6 2
      have hfz6_3 := blk_frozen HGz6 3
      have hfz6_4 := blk_frozen HGz6 4
      clear HGz6 hgz6
      have p233 : 0 ≤ (x5_1 : Int) := of_decide_eq_true (by first | (with_reducible assumption) | assumption)
      have q233 : x5_1 < (s0_1.length : Int) := of_decide_eq_true (by first | (with_reducible assumption) | assumption)
      obtain ⟨ad233, e233, hx233_0, hx233_1, hx233_2⟩ := at_T37 HSz6_1 x5_1 p233 q233
      cases e233
      replace hx233_0 := pw_cell_below HB.out hx233_0
      replace hx233_1 := pw_cell_below HB.out hx233_1
      replace hx233_2 := pw_cell_below HB.out hx233_2
      replace p233 := eq_true p233
      replace q233 := eq_true q233
      go_wp2
      go_roundg k1
      case measure => have := HK1.out; omega
      case rel => exact ⟨(wrap64 (x5_1 + 1)), (by first | rfl | (simp; done) | (simp [*]; done)), H', ⟨by have := HK1.out; omega⟩, ⟨by repeat (first | (with_reducible first | exact HI0.out | apply IsS79.alloc | apply IsS79.drewN | apply IsS79.drew | apply IsS79.set_0 | apply IsS79.set_2 | apply IsS79.set_3 | apply IsS79.set_4) | exact HI0.out)⟩, ⟨by repeat (first | (with_reducible first | exact HK.out | apply KeepBut.set_ | apply keep_drewN | apply keep_drew | apply keep_alloc) | exact HK.out)⟩, ⟨by repeat (first | (with_reducible first | exact HB.out | apply below_alloc | apply pw_below_drewN | apply below_drew1 | refine below_set ?_ (IsS79.ge HI0.out)) | exact HB.out)⟩⟩
     ·
      rw [if_neg c5] at H
      have c5b0 : (Op.bytesLess (((rd_T37 s0_1 x5_1).f0).toList) a1.toList) = false := by simpa using c5
      clear c5
      simp only [Option.some.injEq, Prod.mk.injEq] at H
      obtain ⟨rfl, rfl, rfl, rfl, rfl⟩ := H
      obtain ⟨ASz7_1, cSz7_1, HGz7, hgz7, HSz7_1⟩ := HI0.out
      have hcz7_0 := cellS79_0 HGz7
      have hcz7_1 := cellS79_1 HGz7
      have hcz7_2 := cellS79_2 HGz7
      have hcz7_3 := cellS79_3 HGz7
      have hcz7_4 := cellS79_4 HGz7
      have hfz7_0 := blk_frozen HGz7 0
      have hfz7_2 := blk_frozen HGz7 2
      have hfz7_3 := blk_frozen HGz7 3
      have hfz7_4 := blk_frozen HGz7 4
      clear HGz7 hgz7
      have p233 : 0 ≤ (x5_1 : Int) := of_decide_eq_true (by first | (with_reducible assumption) | assumption)
      have q233 : x5_1 < (s0_1.length : Int) := of_decide_eq_true (by first | (with_reducible assumption) | assumption)
      obtain ⟨ad233, e233, hx233_0, hx233_1, hx233_2⟩ := at_T37 HSz7_1 x5_1 p233 q233
      cases e233
      replace hx233_0 := pw_cell_below HB.out hx233_0
      replace hx233_1 := pw_cell_below HB.out hx233_1
      replace hx233_2 := pw_cell_below HB.out hx233_2
      replace p233 := eq_true p233
      replace q233 := eq_true q233
      go_wp2
      go_ret
      exact ⟨by first | rfl | (simp [errW_none, errW_some] <;> rfl) | (simp [*, errW_none, errW_some] <;> rfl), by repeat (first | (with_reducible first | exact HI0.out | apply IsS79.alloc | apply IsS79.drewN | apply IsS79.drew | apply IsS79.set_0 | apply IsS79.set_2 | apply IsS79.set_3 | apply IsS79.set_4) | exact HI0.out), by repeat (first | (with_reducible first | exact HB.out | apply below_alloc | apply pw_below_drewN | apply below_drew1 | refine below_set ?_ (IsS79.ge HI0.out)) | exact HB.out), by repeat (first | (with_reducible first | exact HK.out | apply KeepBut.set_ | apply keep_drewN | apply keep_drew | apply keep_alloc) | exact HK.out)⟩
    ·
     rw [if_neg c4] at H
     exact absurd H (by simp)
   ·
    rw [if_neg c3] at H
    have c3b0 : decide (x5_1 < (s0_1.length : Int)) = false := decide_eq_false c3
    clear c3
    simp only [Option.some.injEq, Prod.mk.injEq] at H
    obtain ⟨rfl, rfl, rfl, rfl, rfl⟩ := H
    obtain ⟨ASz8_1, cSz8_1, HGz8, hgz8, HSz8_1⟩ := HI0.out
    have hcz8_0 := cellS79_0 HGz8
    have hcz8_1 := cellS79_1 HGz8
    have hcz8_2 := cellS79_2 HGz8
    have hcz8_3 := cellS79_3 HGz8
    have hcz8_4 := cellS79_4 HGz8
    have hfz8_0 := blk_frozen HGz8 0
    have hfz8_2 := blk_frozen HGz8 2
    have hfz8_3 := blk_frozen HGz8 3
    have hfz8_4 := blk_frozen HGz8 4
    clear HGz8 hgz8
    go_wp2
    go_ret
    exact ⟨by first | rfl | (simp [errW_none, errW_some] <;> rfl) | (simp [*, errW_none, errW_some] <;> rfl), by repeat (first | (with_reducible first | exact HI0.out | apply IsS79.alloc | apply IsS79.drewN | apply IsS79.drew | apply IsS79.set_0 | apply IsS79.set_2 | apply IsS79.set_3 | apply IsS79.set_4) | exact HI0.out), by repeat (first | (with_reducible first | exact HB.out | apply below_alloc | apply pw_below_drewN | apply below_drew1 | refine below_set ?_ (IsS79.ge HI0.out)) | exact HB.out), by repeat (first | (with_reducible first | exact HK.out | apply KeepBut.set_ | apply keep_drewN | apply keep_drew | apply keep_alloc) | exact HK.out)⟩

-- NOT PRINTED: function 35 (unisonref04_Disk_puts)

-- NOT PRINTED: function 19 (unisonref04_New)

-- NOT PRINTED: function 36 (disk_Disk_Remove)

-- NOT PRINTED: function 20 (unisonlaw04_goes)

-- NOT PRINTED: function 21 (disk_Disk_Down)

end Go.Proofs.YtakhnkkcllfbjaaDoor.PA
