-- Laid by a program of ours (wip/gen/xprint.py). Not trusted: Lean checks it.
import Derived.Test.YteehcopkljiikaaDoorPAx0
import Derived.Test.YteehcopkljiikaaDoorPAx1
import Derived.Test.YteehcopkljiikaaDoorPFRRight
namespace Go.Proofs.YteehcopkljiikaaDoor.PA
open Go.RowKit Go.Proofs.YteehcopkljiikaaDoorW.PrintWords Go.Proofs.YteehcopkljiikaaDoorW.PrintLast Go.Proofs.YteehcopkljiikaaDoorW.PrintMore Go.Proofs.YteehcopkljiikaaDoorX
attribute [local go_sem] max2_int min2_int max_two min_two max_three min_three max_four min_four   -- for this text's walks alone
set_option linter.unusedVariables false
set_option linter.unusedSimpArgs false
attribute [local go_sem high] eqA23
/-! ### unisonref01_refused: function 46 -/
mutual
def unisonref01_refused.l0 : Nat → Int → List (S23) → Int → Option (Int)
 | 0, _, _, _ => none
 | k + 1, x0, x1, x5 => if x5 < (x1.length : Int) then (if 0 ≤ x5 then ((unisonref01_Right.f ((rd_T23 x1 x5).f0) ((rd_T23 x1 x5).f1) ((rd_T23 x1 x5).f2)).bind fun t331 => (if t331 = true then (unisonref01_refused.l0 k x0 x1 (wrap64 (x5 + 1))) else (some 10))) else (none)) else (unisonref01_refused.l1 k x0 x1 0)
def unisonref01_refused.l1 : Nat → Int → List (S23) → Int → Option (Int)
 | 0, _, _, _ => none
 | k + 1, x0, x1, x7 => if x7 < (x1.length : Int) then (if 0 ≤ x7 then (if ((rd_T23 x1 x7).f0) = x0 then (unisonref01_refused.l1 k x0 x1 (wrap64 (x7 + 1))) else (if ((rd_T23 x1 x7).f0) = 0 then (unisonref01_refused.l1 k x0 x1 (wrap64 (x7 + 1))) else (some 11))) else (none)) else (some 0)
end
def unisonref01_refused.f (k : Nat) (a0 : Int) (l1 : List (S23)) : Option (Int) := unisonref01_refused.l0 k a0 l1 0
theorem unisonref01_refused.mono_l : ∀ k, (∀ y0 y1 y2, LeO (unisonref01_refused.l0 k y0 y1 y2) (unisonref01_refused.l0 (k + 1) y0 y1 y2)) ∧ (∀ y0 y1 y2, LeO (unisonref01_refused.l1 k y0 y1 y2) (unisonref01_refused.l1 (k + 1) y0 y1 y2))
 | 0 => ⟨fun _ _ _ r h => by simp [unisonref01_refused.l0] at h, fun _ _ _ r h => by simp [unisonref01_refused.l1] at h⟩
 | k + 1 => by
  obtain ⟨ih0, ih1⟩ := unisonref01_refused.mono_l k
  refine ⟨?_, ?_⟩
  ·
   intro y0 y1 y2
   unfold unisonref01_refused.l0
   repeat' first
   | (with_reducible exact ih0 _ _ _)
   | (with_reducible exact ih1 _ _ _)
   | (with_reducible exact LeO.refl _)
   | (with_reducible exact LeO.none _)
   | (with_reducible refine LeO.ite ?_ ?_)
   | (with_reducible refine LeO.bind ?_ (fun _ => ?_))
   | exact ih0 _ _ _
   | exact ih1 _ _ _
   | exact LeO.none _
   | refine LeO.ite ?_ ?_
   | refine LeO.bind ?_ (fun _ => ?_)
  ·
   intro y0 y1 y2
   unfold unisonref01_refused.l1
   repeat' first
   | (with_reducible exact ih0 _ _ _)
   | (with_reducible exact ih1 _ _ _)
   | (with_reducible exact LeO.refl _)
   | (with_reducible exact LeO.none _)
   | (with_reducible refine LeO.ite ?_ ?_)
   | (with_reducible refine LeO.bind ?_ (fun _ => ?_))
   | exact ih0 _ _ _
   | exact ih1 _ _ _
   | exact LeO.none _
   | refine LeO.ite ?_ ?_
   | refine LeO.bind ?_ (fun _ => ?_)
theorem unisonref01_refused.mono : ∀ a0 a1 k, LeO (unisonref01_refused.f k a0 a1) (unisonref01_refused.f (k + 1) a0 a1) := by
 intro a0 a1 k
 obtain ⟨ih0, ih1⟩ := unisonref01_refused.mono_l k
 unfold unisonref01_refused.f
 repeat' first
   | (with_reducible exact ih0 _ _ _)
   | (with_reducible exact ih1 _ _ _)
   | (with_reducible exact LeO.refl _)
   | (with_reducible exact LeO.none _)
   | (with_reducible refine LeO.ite ?_ ?_)
   | (with_reducible refine LeO.bind ?_ (fun _ => ?_))
   | exact ih0 _ _ _
   | exact ih1 _ _ _
   | exact LeO.none _
   | refine LeO.ite ?_ ?_
   | refine LeO.bind ?_ (fun _ => ?_)
set_option maxHeartbeats 8000000 in
set_option maxRecDepth 100000 in
theorem unisonref01_refused.calls (k : Nat) (a0 : Int) (A1 : Option Addr) (c1 : Nat) (l1 : List (S23)) (r : Int) (w : World) (hr1 : Kd.C k23 w A1 l1.length l1) (hc1 : l1.length ≤ c1) (h : unisonref01_refused.f k a0 l1 = some r) :
  Calls Tryd.prog 46 #[.int .i64 a0, .slice A1 l1.length c1] w fun e w' => e = .returned (.int .i64 r) ∧ Below w.heap.size w w' := by
 have hu23 := Tryd.underlying23; have HR1 := Aside0.mk hr1; have HC1 := Aside0.mk hc1; clear hr1 hc1; have HB := Aside0.mk (Below.refl w.heap.size w); have H : (unisonref01_refused.l0 k a0 l1 0) = some r := h; clear h
 have H' := Aside0.mk H
 clear H
 go_enter Tryd.func46, Tryd.ntmps46
 go_wp2
 go_loopg [5] k (fun kq v5 w' => ∃ (x5_1 : Int), v5 = .int .i64 x5_1 ∧ Aside0 (unisonref01_refused.l0 kq a0 l1 x5_1 = some r) ∧ Aside0 (kq ≤ k) ∧ Aside0 (Below w.heap.size w w'))
 case atStart => exact ⟨(0), (by first | rfl | (simp; done) | (simp [*]; done)), H', ⟨Nat.le_refl _⟩, ⟨by exact HB.out⟩⟩
 case round =>
  clear H'
  (try clear c1); (try clear p2)
  obtain ⟨x5_1, rfl, HA, HK1, HB⟩ := hrel
  cases gk with
  | zero => exact absurd HA.out (by simp [unisonref01_refused.l0])
  | succ k1 =>
   have H := HA.out; clear HA
   simp only [unisonref01_refused.l0] at H
   by_cases c3 : x5_1 < (l1.length : Int)
   ·
    rw [if_pos c3] at H
    have c3b0 : decide (x5_1 < (l1.length : Int)) = true := decide_eq_true c3; clear c3
    by_cases c4 : 0 ≤ x5_1
    ·
     rw [if_pos c4] at H
     have c4b0 : decide (0 ≤ x5_1) = true := decide_eq_true c4; clear c4; replace H := Option.bind_eq_some_iff.mp H
     obtain ⟨t331, A50, H⟩ := H
     replace H : (if t331 = true then (unisonref01_refused.l0 k1 a0 l1 (wrap64 (x5_1 + 1))) else (some 10)) = some r := H; have A5 := Aside0.mk A50; clear A50
     by_cases c6 : t331 = true
     ·
      subst c6
      have H1 : (unisonref01_refused.l0 k1 a0 l1 (wrap64 (x5_1 + 1))) = some r := by (first | rw [if_pos rfl] at H | rw [if_pos True.intro] at H | skip); exact H
      clear H; have H := H1; clear H1
      have H' := Aside0.mk H
      clear H; have p330 : 0 ≤ (x5_1 : Int) := of_decide_eq_true (by first | (with_reducible assumption) | assumption); have q330 : x5_1 < (l1.length : Int) := of_decide_eq_true (by first | (with_reducible assumption) | assumption)
      obtain ⟨ad330, e330, hx330_0, hx330_1, hx330_2⟩ := at_T23 HR1.out x5_1 p330 q330
      cases e330
      replace hx330_0 := (HB.out.cell (World.block_lt_of_cell? w _ hx330_0)).trans hx330_0; replace hx330_1 := (HB.out.cell (World.block_lt_of_cell? w _ hx330_1)).trans hx330_1; replace hx330_2 := (HB.out.cell (World.block_lt_of_cell? w _ hx330_2)).trans hx330_2; replace p330 := eq_true p330; replace q330 := eq_true q330
      go_wp2_with (first | ((with_reducible refine gate_callee (f := 14) rfl ?_); refine gL (some 18) Tryd.func14 #[.agg #[.int .i64 ((rd_T23 l1 x5_1).f0), .int .i64 ((rd_T23 l1 x5_1).f1), .string ((rd_T23 l1 x5_1).f2)]] ?_; (with_reducible refine (unisonref01_Right.calls ((rd_T23 l1 x5_1).f0) ((rd_T23 l1 x5_1).f1) ((rd_T23 l1 x5_1).f2) true _ A5.out).mono ?_); rintro e w7 ⟨rfl, hb⟩; refine ⟨_, rfl, ?_⟩; replace HB := Aside0.mk (below_step (by exact HB.out) hb); (try clear hb); (try clear hb2); (try clear hk); (try clear hi)))
      go_roundg k1
      case measure => have := HK1.out; omega
      case rel => exact ⟨(wrap64 (x5_1 + 1)), (by first | rfl | (simp; done) | (simp [*]; done)), H', ⟨by have := HK1.out; omega⟩, ⟨by exact HB.out⟩⟩
     ·
      replace c6 := Bool.eq_false_iff.mpr c6
      subst c6
      have H1 : (some 10) = some r := by rw [if_neg (show ¬ (false = true) by decide)] at H; exact H
      clear H; have H := H1; clear H1
      obtain rfl := Option.some.inj H
      have p330 : 0 ≤ (x5_1 : Int) := of_decide_eq_true (by first | (with_reducible assumption) | assumption); have q330 : x5_1 < (l1.length : Int) := of_decide_eq_true (by first | (with_reducible assumption) | assumption)
      obtain ⟨ad330, e330, hx330_0, hx330_1, hx330_2⟩ := at_T23 HR1.out x5_1 p330 q330
      cases e330
      replace hx330_0 := (HB.out.cell (World.block_lt_of_cell? w _ hx330_0)).trans hx330_0; replace hx330_1 := (HB.out.cell (World.block_lt_of_cell? w _ hx330_1)).trans hx330_1; replace hx330_2 := (HB.out.cell (World.block_lt_of_cell? w _ hx330_2)).trans hx330_2; replace p330 := eq_true p330; replace q330 := eq_true q330
      go_wp2_with (first | ((with_reducible refine gate_callee (f := 14) rfl ?_); refine gL (some 18) Tryd.func14 #[.agg #[.int .i64 ((rd_T23 l1 x5_1).f0), .int .i64 ((rd_T23 l1 x5_1).f1), .string ((rd_T23 l1 x5_1).f2)]] ?_; (with_reducible refine (unisonref01_Right.calls ((rd_T23 l1 x5_1).f0) ((rd_T23 l1 x5_1).f1) ((rd_T23 l1 x5_1).f2) false _ A5.out).mono ?_); rintro e w8 ⟨rfl, hb⟩; refine ⟨_, rfl, ?_⟩; replace HB := Aside0.mk (below_step (by exact HB.out) hb); (try clear hb); (try clear hb2); (try clear hk); (try clear hi)))
      go_ret
      exact ⟨by first | (simp only [ByteArray.size_extract, Nat.min_self]; rfl) | rfl | (simp [errW_none, errW_some] <;> rfl) | (simp [*, errW_none, errW_some] <;> rfl), by exact HB.out⟩
    ·
     rw [if_neg c4] at H
     exact absurd H (by simp)
   ·
    rw [if_neg c3] at H
    have c3b0 : decide (x5_1 < (l1.length : Int)) = false := decide_eq_false c3; clear c3
    have H' := Aside0.mk H
    clear H
    go_wp2
    go_loopg [7] k1 (fun kq v7 w' => ∃ (x7_2 : Int), v7 = .int .i64 x7_2 ∧ Aside0 (unisonref01_refused.l1 kq a0 l1 x7_2 = some r) ∧ Aside0 (kq ≤ k1) ∧ Aside0 (Below w.heap.size w w'))
    case atStart => exact ⟨(0), (by first | rfl | (simp; done) | (simp [*]; done)), H', ⟨Nat.le_refl _⟩, ⟨by exact HB.out⟩⟩
    case round =>
     clear H'
     (try clear c1); (try clear p2); (try clear c3); (try clear c3b0); (try clear p3); (try clear q3); (try clear hx3); (try clear c4); (try clear c4b0); (try clear c6); (try clear p6); (try clear hx330_0); (try clear hx330_1); (try clear hx330_2); (try clear p2); (try clear p330); (try clear q330)
     obtain ⟨x7_2, rfl, HA, HK2, HB⟩ := hrel
     cases gk with
     | zero => exact absurd HA.out (by simp [unisonref01_refused.l1])
     | succ k2 =>
      have H := HA.out; clear HA
      simp only [unisonref01_refused.l1] at H
      by_cases c9 : x7_2 < (l1.length : Int)
      ·
       rw [if_pos c9] at H
       have c9b0 : decide (x7_2 < (l1.length : Int)) = true := decide_eq_true c9; clear c9
       by_cases c10 : 0 ≤ x7_2
       ·
        rw [if_pos c10] at H
        have c10b0 : decide (0 ≤ x7_2) = true := decide_eq_true c10; clear c10
        by_cases c11 : ((rd_T23 l1 x7_2).f0) = a0
        ·
         rw [if_pos c11] at H
         have c11b0 : (((rd_T23 l1 x7_2).f0) == a0) = true := beq_iff_eq.mpr c11; have c11b1 : (((rd_T23 l1 x7_2).f0) != a0) = false := bne_eq_false_iff_eq.mpr c11; clear c11
         have H' := Aside0.mk H
         clear H; have p332 : 0 ≤ (x7_2 : Int) := of_decide_eq_true (by first | (with_reducible assumption) | assumption); have q332 : x7_2 < (l1.length : Int) := of_decide_eq_true (by first | (with_reducible assumption) | assumption)
         obtain ⟨ad332, e332, hx332_0, hx332_1, hx332_2⟩ := at_T23 HR1.out x7_2 p332 q332
         cases e332
         replace hx332_0 := (HB.out.cell (World.block_lt_of_cell? w _ hx332_0)).trans hx332_0; replace hx332_1 := (HB.out.cell (World.block_lt_of_cell? w _ hx332_1)).trans hx332_1; replace hx332_2 := (HB.out.cell (World.block_lt_of_cell? w _ hx332_2)).trans hx332_2; replace p332 := eq_true p332; replace q332 := eq_true q332
         go_wp2
         go_roundg k2
         case measure => have := HK1.out; have := HK2.out; omega
         case rel => exact ⟨(wrap64 (x7_2 + 1)), (by first | rfl | (simp; done) | (simp [*]; done)), H', ⟨by have := HK1.out; have := HK2.out; omega⟩, ⟨by exact HB.out⟩⟩
        ·
         rw [if_neg c11] at H
         have c11b0 : (((rd_T23 l1 x7_2).f0) == a0) = false := beq_eq_false_iff_ne.mpr c11; have c11b1 : (((rd_T23 l1 x7_2).f0) != a0) = true := bne_iff_ne.mpr c11
         by_cases c12 : ((rd_T23 l1 x7_2).f0) = 0
         ·
          rw [if_pos c12] at H
          have c12b0 : (((rd_T23 l1 x7_2).f0) == 0) = true := beq_iff_eq.mpr c12; have c12b1 : (((rd_T23 l1 x7_2).f0) != 0) = false := bne_eq_false_iff_eq.mpr c12; clear c12
          have H' := Aside0.mk H
          clear H; have p332 : 0 ≤ (x7_2 : Int) := of_decide_eq_true (by first | (with_reducible assumption) | assumption); have q332 : x7_2 < (l1.length : Int) := of_decide_eq_true (by first | (with_reducible assumption) | assumption)
          obtain ⟨ad332, e332, hx332_0, hx332_1, hx332_2⟩ := at_T23 HR1.out x7_2 p332 q332
          cases e332
          replace hx332_0 := (HB.out.cell (World.block_lt_of_cell? w _ hx332_0)).trans hx332_0; replace hx332_1 := (HB.out.cell (World.block_lt_of_cell? w _ hx332_1)).trans hx332_1; replace hx332_2 := (HB.out.cell (World.block_lt_of_cell? w _ hx332_2)).trans hx332_2; replace p332 := eq_true p332; replace q332 := eq_true q332; have p333 : 0 ≤ (x7_2 : Int) := of_decide_eq_true (by first | (with_reducible assumption) | assumption); have q333 : x7_2 < (l1.length : Int) := of_decide_eq_true (by first | (with_reducible assumption) | assumption)
          obtain ⟨ad333, e333, hx333_0, hx333_1, hx333_2⟩ := at_T23 HR1.out x7_2 p333 q333
          obtain rfl : ad332 = ad333 := (by injection e333)
          replace hx333_0 := (HB.out.cell (World.block_lt_of_cell? w _ hx333_0)).trans hx333_0; replace hx333_1 := (HB.out.cell (World.block_lt_of_cell? w _ hx333_1)).trans hx333_1; replace hx333_2 := (HB.out.cell (World.block_lt_of_cell? w _ hx333_2)).trans hx333_2; replace p333 := eq_true p333; replace q333 := eq_true q333
          go_wp2
          go_roundg k2
          case measure => have := HK1.out; have := HK2.out; omega
          case rel => exact ⟨(wrap64 (x7_2 + 1)), (by first | rfl | (simp; done) | (simp [*]; done)), H', ⟨by have := HK1.out; have := HK2.out; omega⟩, ⟨by exact HB.out⟩⟩
         ·
          rw [if_neg c12] at H
          have c12b0 : (((rd_T23 l1 x7_2).f0) == 0) = false := beq_eq_false_iff_ne.mpr c12; have c12b1 : (((rd_T23 l1 x7_2).f0) != 0) = true := bne_iff_ne.mpr c12
          obtain rfl := Option.some.inj H
          have p332 : 0 ≤ (x7_2 : Int) := of_decide_eq_true (by first | (with_reducible assumption) | assumption); have q332 : x7_2 < (l1.length : Int) := of_decide_eq_true (by first | (with_reducible assumption) | assumption)
          obtain ⟨ad332, e332, hx332_0, hx332_1, hx332_2⟩ := at_T23 HR1.out x7_2 p332 q332
          cases e332
          replace hx332_0 := (HB.out.cell (World.block_lt_of_cell? w _ hx332_0)).trans hx332_0; replace hx332_1 := (HB.out.cell (World.block_lt_of_cell? w _ hx332_1)).trans hx332_1; replace hx332_2 := (HB.out.cell (World.block_lt_of_cell? w _ hx332_2)).trans hx332_2; replace p332 := eq_true p332; replace q332 := eq_true q332; have p333 : 0 ≤ (x7_2 : Int) := of_decide_eq_true (by first | (with_reducible assumption) | assumption); have q333 : x7_2 < (l1.length : Int) := of_decide_eq_true (by first | (with_reducible assumption) | assumption)
          obtain ⟨ad333, e333, hx333_0, hx333_1, hx333_2⟩ := at_T23 HR1.out x7_2 p333 q333
          obtain rfl : ad332 = ad333 := (by injection e333)
          replace hx333_0 := (HB.out.cell (World.block_lt_of_cell? w _ hx333_0)).trans hx333_0; replace hx333_1 := (HB.out.cell (World.block_lt_of_cell? w _ hx333_1)).trans hx333_1; replace hx333_2 := (HB.out.cell (World.block_lt_of_cell? w _ hx333_2)).trans hx333_2; replace p333 := eq_true p333; replace q333 := eq_true q333
          go_wp2
          go_ret
          exact ⟨by first | (simp only [ByteArray.size_extract, Nat.min_self]; rfl) | rfl | (simp [errW_none, errW_some] <;> rfl) | (simp [*, errW_none, errW_some] <;> rfl), by repeat (first | (with_reducible first | exact HB.out | apply pA | apply pN | apply pD) | exact HB.out)⟩
       ·
        rw [if_neg c10] at H
        exact absurd H (by simp)
      ·
       rw [if_neg c9] at H
       have c9b0 : decide (x7_2 < (l1.length : Int)) = false := decide_eq_false c9; clear c9
       obtain rfl := Option.some.inj H
       go_wp2
       go_ret
       exact ⟨by first | (simp only [ByteArray.size_extract, Nat.min_self]; rfl) | rfl | (simp [errW_none, errW_some] <;> rfl) | (simp [*, errW_none, errW_some] <;> rfl), by repeat (first | (with_reducible first | exact HB.out | apply pA | apply pN | apply pD) | exact HB.out)⟩
end Go.Proofs.YteehcopkljiikaaDoor.PA
