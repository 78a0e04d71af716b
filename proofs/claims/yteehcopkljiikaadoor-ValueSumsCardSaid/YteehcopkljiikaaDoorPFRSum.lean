-- Laid by a program of ours (wip/gen/xprint.py). Not trusted: Lean checks it.
import Derived.Test.YteehcopkljiikaaDoorPAx0
import Derived.Test.YteehcopkljiikaaDoorPFRNumber
import Derived.Test.YteehcopkljiikaaDoorPFRRefused
namespace Go.Proofs.YteehcopkljiikaaDoor.PA
open Go.RowKit Go.Proofs.YteehcopkljiikaaDoorW.PrintWords Go.Proofs.YteehcopkljiikaaDoorW.PrintLast Go.Proofs.YteehcopkljiikaaDoorW.PrintMore Go.Proofs.YteehcopkljiikaaDoorX
attribute [local go_sem] max2_int min2_int max_two min_two max_three min_three max_four min_four   -- for this text's walks alone
set_option linter.unusedVariables false
set_option linter.unusedSimpArgs false

/-! ### unisonref01_Sum: function 21 -/
mutual
def unisonref01_Sum.l0 : Nat → List (S23) → Bool → Int → Int → Int → Option (Int × Int × ByteArray × Int)
 | 0, _, _, _, _, _ => none
 | k + 1, x0, x5, x6, x7, x8 => if x8 < (x0.length : Int) then (if 0 ≤ x8 then (if ((rd_T23 x0 x8).f0) = 0 then (unisonref01_Sum.l0 k x0 x5 x6 x7 (wrap64 (x8 + 1))) else (if ((rd_T23 x0 x8).f1) < 0 then (unisonref01_Sum.j1 k x0 true (wrap64 (x6 - 1)) x7 x8 (wrap64 (((rd_T23 x0 x8).f1) + 4611686018427387904))) else (unisonref01_Sum.j1 k x0 true x6 x7 x8 ((rd_T23 x0 x8).f1)))) else (none)) else (if x5 = true then (if x6 = 0 then ((unisonref01_Number.f x7).bind fun bt339 => (some (bt339.1, bt339.2.1, bt339.2.2, 0))) else (if x6 = 1 then (unisonref01_Sum.j2 k x6 x7 (x7 == 0)) else (unisonref01_Sum.j2 k x6 x7 false))) else (some (0, 0, (⟨#[]⟩ : ByteArray), 0)))
def unisonref01_Sum.j1 : Nat → List (S23) → Bool → Int → Int → Int → Int → Option (Int × Int × ByteArray × Int)
 | 0, _, _, _, _, _, _ => none
 | k + 1, x0, x5, x6, x7, x8, x9 => if x9 = 4611686018427387904 then (if (wrap64 (x7)) ≥ 4611686018427387904 then (unisonref01_Sum.l0 k x0 x5 (wrap64 ((wrap64 (x6 + 1)) + 1)) (wrap64 ((wrap64 (x7)) - 4611686018427387904)) (wrap64 (x8 + 1))) else (unisonref01_Sum.l0 k x0 x5 (wrap64 (x6 + 1)) (wrap64 (x7)) (wrap64 (x8 + 1)))) else (if (wrap64 (x7 + x9)) ≥ 4611686018427387904 then (unisonref01_Sum.l0 k x0 x5 (wrap64 (x6 + 1)) (wrap64 ((wrap64 (x7 + x9)) - 4611686018427387904)) (wrap64 (x8 + 1))) else (unisonref01_Sum.l0 k x0 x5 x6 (wrap64 (x7 + x9)) (wrap64 (x8 + 1))))
def unisonref01_Sum.j2 : Nat → Int → Int → Bool → Option (Int × Int × ByteArray × Int)
 | 0, _, _, _ => none
 | k + 1, x6, x7, x61 => if x61 = true then ((unisonref01_Number.f 4611686018427387904).bind fun bt342 => (some (bt342.1, bt342.2.1, bt342.2.2, 0))) else (if x6 = (-1) then ((unisonref01_Number.f (wrap64 (x7 - 4611686018427387904))).bind fun bt345 => (some (bt345.1, bt345.2.1, bt345.2.2, 0))) else (some (0, 0, (⟨#[]⟩ : ByteArray), 12)))
end
def unisonref01_Sum.f (k : Nat) (l0 : List (S23)) : Option (Int × Int × ByteArray × Int) := (unisonref01_refused.f k 1 l0).bind fun t336 => (if t336 = 0 then (unisonref01_Sum.l0 k l0 false 0 0 0) else (some (0, 0, (⟨#[]⟩ : ByteArray), t336)))
theorem unisonref01_Sum.mono_l : ∀ k, (∀ y0 y1 y2 y3 y4, LeO (unisonref01_Sum.l0 k y0 y1 y2 y3 y4) (unisonref01_Sum.l0 (k + 1) y0 y1 y2 y3 y4)) ∧ (∀ y0 y1 y2 y3 y4 y5, LeO (unisonref01_Sum.j1 k y0 y1 y2 y3 y4 y5) (unisonref01_Sum.j1 (k + 1) y0 y1 y2 y3 y4 y5)) ∧ (∀ y0 y1 y2, LeO (unisonref01_Sum.j2 k y0 y1 y2) (unisonref01_Sum.j2 (k + 1) y0 y1 y2))
 | 0 => ⟨fun _ _ _ _ _ r h => by simp [unisonref01_Sum.l0] at h, fun _ _ _ _ _ _ r h => by simp [unisonref01_Sum.j1] at h, fun _ _ _ r h => by simp [unisonref01_Sum.j2] at h⟩
 | k + 1 => by
  obtain ⟨ih0, ih1, ih2⟩ := unisonref01_Sum.mono_l k
  refine ⟨?_, ?_, ?_⟩
  ·
   intro y0 y1 y2 y3 y4
   unfold unisonref01_Sum.l0
   repeat' first
   | (with_reducible exact ih0 _ _ _ _ _)
   | (with_reducible exact ih1 _ _ _ _ _ _)
   | (with_reducible exact ih2 _ _ _)
   | (with_reducible exact unisonref01_refused.mono _ _ _)
   | (with_reducible exact LeO.refl _)
   | (with_reducible exact LeO.none _)
   | (with_reducible refine LeO.ite ?_ ?_)
   | (with_reducible refine LeO.bind ?_ (fun _ => ?_))
   | exact ih0 _ _ _ _ _
   | exact ih1 _ _ _ _ _ _
   | exact ih2 _ _ _
   | exact unisonref01_refused.mono _ _ _
   | exact LeO.none _
   | refine LeO.ite ?_ ?_
   | refine LeO.bind ?_ (fun _ => ?_)
  ·
   intro y0 y1 y2 y3 y4 y5
   unfold unisonref01_Sum.j1
   repeat' first
   | (with_reducible exact ih0 _ _ _ _ _)
   | (with_reducible exact ih1 _ _ _ _ _ _)
   | (with_reducible exact ih2 _ _ _)
   | (with_reducible exact unisonref01_refused.mono _ _ _)
   | (with_reducible exact LeO.refl _)
   | (with_reducible exact LeO.none _)
   | (with_reducible refine LeO.ite ?_ ?_)
   | (with_reducible refine LeO.bind ?_ (fun _ => ?_))
   | exact ih0 _ _ _ _ _
   | exact ih1 _ _ _ _ _ _
   | exact ih2 _ _ _
   | exact unisonref01_refused.mono _ _ _
   | exact LeO.none _
   | refine LeO.ite ?_ ?_
   | refine LeO.bind ?_ (fun _ => ?_)
  ·
   intro y0 y1 y2
   unfold unisonref01_Sum.j2
   repeat' first
   | (with_reducible exact ih0 _ _ _ _ _)
   | (with_reducible exact ih1 _ _ _ _ _ _)
   | (with_reducible exact ih2 _ _ _)
   | (with_reducible exact unisonref01_refused.mono _ _ _)
   | (with_reducible exact LeO.refl _)
   | (with_reducible exact LeO.none _)
   | (with_reducible refine LeO.ite ?_ ?_)
   | (with_reducible refine LeO.bind ?_ (fun _ => ?_))
   | exact ih0 _ _ _ _ _
   | exact ih1 _ _ _ _ _ _
   | exact ih2 _ _ _
   | exact unisonref01_refused.mono _ _ _
   | exact LeO.none _
   | refine LeO.ite ?_ ?_
   | refine LeO.bind ?_ (fun _ => ?_)
theorem unisonref01_Sum.mono : ∀ a0 k, LeO (unisonref01_Sum.f k a0) (unisonref01_Sum.f (k + 1) a0) := by
 intro a0 k
 obtain ⟨ih0, ih1, ih2⟩ := unisonref01_Sum.mono_l k
 unfold unisonref01_Sum.f
 repeat' first
   | (with_reducible exact ih0 _ _ _ _ _)
   | (with_reducible exact ih1 _ _ _ _ _ _)
   | (with_reducible exact ih2 _ _ _)
   | (with_reducible exact unisonref01_refused.mono _ _ _)
   | (with_reducible exact LeO.refl _)
   | (with_reducible exact LeO.none _)
   | (with_reducible refine LeO.ite ?_ ?_)
   | (with_reducible refine LeO.bind ?_ (fun _ => ?_))
   | exact ih0 _ _ _ _ _
   | exact ih1 _ _ _ _ _ _
   | exact ih2 _ _ _
   | exact unisonref01_refused.mono _ _ _
   | exact LeO.none _
   | refine LeO.ite ?_ ?_
   | refine LeO.bind ?_ (fun _ => ?_)
set_option maxHeartbeats 8000000 in
set_option maxRecDepth 100000 in
theorem unisonref01_Sum.calls (k : Nat) (A0 : Option Addr) (c0 : Nat) (l0 : List (S23)) (r1 : Int) (r2 : Int) (r3 : ByteArray) (r4 : Int) (w : World) (hr0 : Kd.C k23 w A0 l0.length l0) (hc0 : l0.length ≤ c0) (h : unisonref01_Sum.f k l0 = some (r1, r2, r3, r4)) :
  Calls Tryd.prog 21 #[.slice A0 l0.length c0] w fun e w' => e = .returned (.tuple #[.agg #[.int .i64 r1, .int .i64 r2, .string r3], .int .i64 r4]) ∧ Below w.heap.size w w' := by
 have hu23 := Tryd.underlying23; have HR0 := Aside0.mk hr0; have HC0 := Aside0.mk hc0; clear hr0 hc0; have HB := Aside0.mk (Below.refl w.heap.size w); have H : ((unisonref01_refused.f k 1 l0).bind fun t336 => (if t336 = 0 then (unisonref01_Sum.l0 k l0 false 0 0 0) else (some (0, 0, (⟨#[]⟩ : ByteArray), t336)))) = some (r1, r2, r3, r4) := h; clear h; replace H := Option.bind_eq_some_iff.mp H
 obtain ⟨t336, A20, H⟩ := H
 replace H : (if t336 = 0 then (unisonref01_Sum.l0 k l0 false 0 0 0) else (some (0, 0, (⟨#[]⟩ : ByteArray), t336))) = some (r1, r2, r3, r4) := H; have A2 := Aside0.mk A20; clear A20
 by_cases c3 : t336 = 0
 ·
  rw [if_pos c3] at H
  have c3b0 : (t336 == 0) = true := beq_iff_eq.mpr c3; have c3b1 : (t336 != 0) = false := bne_eq_false_iff_eq.mpr c3; clear c3
  have H' := Aside0.mk H
  clear H
  go_enter Tryd.func21, Tryd.ntmps21
  go_wp2_with (first | ((with_reducible refine gate_dst (N := 2) rfl ?_); refine box_event ?hg (N := 2) ?hd (cs := #[.int .i64 0, .int .i64 0, .string (⟨#[]⟩ : ByteArray)]) (t := 23) ?hr ?_; (case hd => rfl); (case hg => rfl); (case hr => first | (go_simp; done) | (go_simp; rfl)); intro gb335 hg w4 hbox hb; have BK335 := Aside0.mk (hbox); have GW335 := bz hg; have GE335 := bz hg; replace HB := bs hb; clear hb hbox hg) | ((with_reducible refine gate_callee (f := 46) rfl ?_); refine gL (some 11) Tryd.func46 #[.int .i64 1, .slice A0 l0.length c0] ?_; (with_reducible refine (unisonref01_refused.calls k 1 _ _ l0 t336 _ ?side1 ?side2 A2.out).mono ?_); (case side1 => repeat (first | exact (Kd.C_below HR0.out HB.out) | (with_reducible refine Kd.C_alloc ?_ _) | (with_reducible refine Kd.C_drewN ?_ _) | (with_reducible refine Kd.C_drew ?_))); (case side2 => exact HC0.out); rintro e w5 ⟨rfl, hb⟩; refine ⟨_, rfl, ?_⟩; replace BK335 := bb BK335 hb; replace HB := bs hb; (try clear hb); (try clear hb2); (try clear hk); (try clear hi)))
  go_loopg [5, 6, 7, 8] k (fun kq v5 v6 v7 v8 w' => ∃ (x5_1 : Bool) (x6_1 : Int) (x7_1 : Int) (x8_1 : Int), v5 = .bool x5_1 ∧ v6 = .int .i64 x6_1 ∧ v7 = .int .i64 x7_1 ∧ v8 = .int .i64 x8_1 ∧ Aside0 (unisonref01_Sum.l0 kq l0 x5_1 x6_1 x7_1 x8_1 = some (r1, r2, r3, r4)) ∧ Aside0 (kq ≤ k) ∧ Aside0 (w'.heap[gb335]? = some (.cells #[.int .i64 0, .int .i64 0, .string (⟨#[]⟩ : ByteArray)] 23 (0, 0))) ∧ Aside0 (Below w.heap.size w w'))
  case atStart => exact ⟨(false), (0), (0), (0), (by first | rfl | (simp; done) | (simp [*]; done)), (by first | rfl | (simp; done) | (simp [*]; done)), (by first | rfl | (simp; done) | (simp [*]; done)), (by first | rfl | (simp; done) | (simp [*]; done)), H', ⟨Nat.le_refl _⟩, ⟨by (with_reducible repeat (first | refine blk_drewN ?_ _ | refine blk_drew ?_ | refine blk_alloc ?_ _)); exact BK335.out⟩, ⟨by repeat (first | (with_reducible first | exact HB.out | apply below_alloc | apply pw_below_drewN | apply below_drew1 | refine below_set ?_ GE335.out) | exact HB.out)⟩⟩
  case round =>
   clear H'
   (try clear c2); (try clear p2); (try clear c3); (try clear c3b0); (try clear c3b1); (try clear c4)
   obtain ⟨x5_1, x6_1, x7_1, x8_1, rfl, rfl, rfl, rfl, HA, HK1, BK335, HB⟩ := hrel
   cases gk with
   | zero => exact absurd HA.out (by simp [unisonref01_Sum.l0])
   | succ k1 =>
    have H := HA.out; clear HA
    simp only [unisonref01_Sum.l0] at H
    by_cases c6 : x8_1 < (l0.length : Int)
    ·
     rw [if_pos c6] at H
     have c6b0 : decide (x8_1 < (l0.length : Int)) = true := decide_eq_true c6; clear c6
     by_cases c7 : 0 ≤ x8_1
     ·
      rw [if_pos c7] at H
      have c7b0 : decide (0 ≤ x8_1) = true := decide_eq_true c7; clear c7
      by_cases c8 : ((rd_T23 l0 x8_1).f0) = 0
      ·
       rw [if_pos c8] at H
       have c8b0 : (((rd_T23 l0 x8_1).f0) == 0) = true := beq_iff_eq.mpr c8; have c8b1 : (((rd_T23 l0 x8_1).f0) != 0) = false := bne_eq_false_iff_eq.mpr c8; clear c8
       have H' := Aside0.mk H
       clear H; have p337 : 0 ≤ (x8_1 : Int) := of_decide_eq_true (by first | (with_reducible assumption) | assumption); have q337 : x8_1 < (l0.length : Int) := of_decide_eq_true (by first | (with_reducible assumption) | assumption)
       obtain ⟨ad337, e337, hx337_0, hx337_1, hx337_2⟩ := at_T23 HR0.out x8_1 p337 q337
       cases e337
       replace hx337_0 := (HB.out.cell (World.block_lt_of_cell? w _ hx337_0)).trans hx337_0; replace hx337_1 := (HB.out.cell (World.block_lt_of_cell? w _ hx337_1)).trans hx337_1; replace hx337_2 := (HB.out.cell (World.block_lt_of_cell? w _ hx337_2)).trans hx337_2; replace p337 := eq_true p337; replace q337 := eq_true q337
       go_wp2
       go_roundg k1
       case measure => have := HK1.out; omega
       case rel => exact ⟨(x5_1), (x6_1), (x7_1), (wrap64 (x8_1 + 1)), (by first | rfl | (simp; done) | (simp [*]; done)), (by first | rfl | (simp; done) | (simp [*]; done)), (by first | rfl | (simp; done) | (simp [*]; done)), (by first | rfl | (simp; done) | (simp [*]; done)), H', ⟨by have := HK1.out; omega⟩, ⟨by (with_reducible repeat (first | refine blk_drewN ?_ _ | refine blk_drew ?_ | refine blk_alloc ?_ _)); exact BK335.out⟩, ⟨by repeat (first | (with_reducible first | exact HB.out | apply below_alloc | apply pw_below_drewN | apply below_drew1 | refine below_set ?_ GE335.out) | exact HB.out)⟩⟩
      ·
       rw [if_neg c8] at H
       have c8b0 : (((rd_T23 l0 x8_1).f0) == 0) = false := beq_eq_false_iff_ne.mpr c8; have c8b1 : (((rd_T23 l0 x8_1).f0) != 0) = true := bne_iff_ne.mpr c8; have HC9 := Aside0.mk H; clear H; have p337 : 0 ≤ (x8_1 : Int) := of_decide_eq_true (by first | (with_reducible assumption) | assumption); have q337 : x8_1 < (l0.length : Int) := of_decide_eq_true (by first | (with_reducible assumption) | assumption)
       obtain ⟨ad337, e337, hx337_0, hx337_1, hx337_2⟩ := at_T23 HR0.out x8_1 p337 q337
       cases e337
       replace hx337_0 := (HB.out.cell (World.block_lt_of_cell? w _ hx337_0)).trans hx337_0; replace hx337_1 := (HB.out.cell (World.block_lt_of_cell? w _ hx337_1)).trans hx337_1; replace hx337_2 := (HB.out.cell (World.block_lt_of_cell? w _ hx337_2)).trans hx337_2; replace p337 := eq_true p337; replace q337 := eq_true q337; have p338 : 0 ≤ (x8_1 : Int) := of_decide_eq_true (by first | (with_reducible assumption) | assumption); have q338 : x8_1 < (l0.length : Int) := of_decide_eq_true (by first | (with_reducible assumption) | assumption)
       obtain ⟨ad338, e338, hx338_0, hx338_1, hx338_2⟩ := at_T23 HR0.out x8_1 p338 q338
       obtain rfl : ad337 = ad338 := (by injection e338)
       replace hx338_0 := (HB.out.cell (World.block_lt_of_cell? w _ hx338_0)).trans hx338_0; replace hx338_1 := (HB.out.cell (World.block_lt_of_cell? w _ hx338_1)).trans hx338_1; replace hx338_2 := (HB.out.cell (World.block_lt_of_cell? w _ hx338_2)).trans hx338_2; replace p338 := eq_true p338; replace q338 := eq_true q338
       go_upto_if 34 with (fail)
       go_cut [6, 9] (fun v6 v9 wc => ∃ (kq : Nat) (x6_8 : Int) (x9_8 : Int), v6 = .int .i64 x6_8 ∧ v9 = .int .i64 x9_8 ∧ Aside0 (unisonref01_Sum.j1 kq l0 true x6_8 x7_1 x8_1 x9_8 = some (r1, r2, r3, r4)) ∧ Aside0 (kq ≤ k1) ∧ Aside0 (wc.heap[gb335]? = some (.cells #[.int .i64 0, .int .i64 0, .string (⟨#[]⟩ : ByteArray)] 23 (0, 0))) ∧ Aside0 (Below w.heap.size w wc))
       case first =>
        have H := HC9.out; clear HC9
        by_cases c10 : ((rd_T23 l0 x8_1).f1) < 0
        ·
         rw [if_pos c10] at H
         have c10b0 : decide (((rd_T23 l0 x8_1).f1) < 0) = true := decide_eq_true c10; clear c10
         (first | rw [c10b0] | (simp only [i64_w, i32_w, u8_w, u32_w]; rw [c10b0]) | rw [c10b1] | skip)
         have H' := Aside0.mk H
         clear H
         go_wp2
         go_meet
         case rel => exact ⟨_, (wrap64 (x6_1 - 1)), (wrap64 (((rd_T23 l0 x8_1).f1) + 4611686018427387904)), (by first | rfl | (simp; done) | (simp [*]; done)), (by first | rfl | (simp; done) | (simp [*]; done)), H', ⟨by have := HK1.out; first | omega | exact Nat.le_refl _⟩, ⟨by (with_reducible repeat (first | refine blk_drewN ?_ _ | refine blk_drew ?_ | refine blk_alloc ?_ _)); exact BK335.out⟩, ⟨by repeat (first | (with_reducible first | exact HB.out | apply below_alloc | apply pw_below_drewN | apply below_drew1 | refine below_set ?_ GE335.out) | exact HB.out)⟩⟩
        ·
         rw [if_neg c10] at H
         have c10b0 : decide (((rd_T23 l0 x8_1).f1) < 0) = false := decide_eq_false c10; clear c10
         (first | rw [c10b0] | (simp only [i64_w, i32_w, u8_w, u32_w]; rw [c10b0]) | rw [c10b1] | skip)
         have H' := Aside0.mk H
         clear H
         go_wp2
         go_meet
         case rel => exact ⟨_, (x6_1), ((rd_T23 l0 x8_1).f1), (by first | rfl | (simp; done) | (simp [*]; done)), (by first | rfl | (simp; done) | (simp [*]; done)), H', ⟨by have := HK1.out; first | omega | exact Nat.le_refl _⟩, ⟨by (with_reducible repeat (first | refine blk_drewN ?_ _ | refine blk_drew ?_ | refine blk_alloc ?_ _)); exact BK335.out⟩, ⟨by repeat (first | (with_reducible first | exact HB.out | apply below_alloc | apply pw_below_drewN | apply below_drew1 | refine below_set ?_ GE335.out) | exact HB.out)⟩⟩
       case rest =>
        clear HC9; (try clear c1); (try clear c2); (try clear p2); (try clear c3); (try clear c3b0); (try clear c3b1); (try clear p3); (try clear q3); (try clear hx3); (try clear c4); (try clear c6); (try clear c6b0); (try clear p6); (try clear c7); (try clear c7b0); (try clear c8); (try clear c8b0); (try clear c8b1); (try clear c10); (try clear c10b0); (try clear c10b1); (try clear hx337_0); (try clear hx337_1); (try clear hx337_2); (try clear hx338_0); (try clear hx338_1); (try clear hx338_2); (try clear p2); (try clear p337); (try clear p338); (try clear q337); (try clear q338)
        obtain ⟨kq, x6_8, x9_8, rfl, rfl, HA, HJ8, BK335, HB⟩ := hcut
        cases kq with
        | zero => exact absurd HA.out (by simp [unisonref01_Sum.j1])
        | succ kj8 =>
         have H := HA.out; clear HA
         simp only [unisonref01_Sum.j1] at H
         by_cases c11 : x9_8 = 4611686018427387904
         ·
          rw [if_pos c11] at H
          have c11b0 : (x9_8 == 4611686018427387904) = true := beq_iff_eq.mpr c11; have c11b1 : (x9_8 != 4611686018427387904) = false := bne_eq_false_iff_eq.mpr c11; clear c11
          by_cases c12 : (wrap64 (x7_1)) ≥ 4611686018427387904
          ·
           rw [if_pos c12] at H
           have c12b0 : decide (4611686018427387904 ≤ (wrap64 (x7_1))) = true := decide_eq_true c12; clear c12
           have H' := Aside0.mk H
           clear H
           go_wp2
           go_roundg kj8
           case measure => have := HK1.out; have := HJ8.out; omega
           case rel => exact ⟨(true), (wrap64 ((wrap64 (x6_8 + 1)) + 1)), (wrap64 ((wrap64 (x7_1)) - 4611686018427387904)), (wrap64 (x8_1 + 1)), (by first | rfl | (simp; done) | (simp [*]; done)), (by first | rfl | (simp; done) | (simp [*]; done)), (by first | rfl | (simp; done) | (simp [*]; done)), (by first | rfl | (simp; done) | (simp [*]; done)), H', ⟨by have := HK1.out; have := HJ8.out; omega⟩, ⟨by (with_reducible repeat (first | refine blk_drewN ?_ _ | refine blk_drew ?_ | refine blk_alloc ?_ _)); exact BK335.out⟩, ⟨by repeat (first | (with_reducible first | exact HB.out | apply below_alloc | apply pw_below_drewN | apply below_drew1 | refine below_set ?_ GE335.out) | exact HB.out)⟩⟩
          ·
           rw [if_neg c12] at H
           have c12b0 : decide (4611686018427387904 ≤ (wrap64 (x7_1))) = false := decide_eq_false c12; clear c12
           have H' := Aside0.mk H
           clear H
           go_wp2
           go_roundg kj8
           case measure => have := HK1.out; have := HJ8.out; omega
           case rel => exact ⟨(true), (wrap64 (x6_8 + 1)), (wrap64 (x7_1)), (wrap64 (x8_1 + 1)), (by first | rfl | (simp; done) | (simp [*]; done)), (by first | rfl | (simp; done) | (simp [*]; done)), (by first | rfl | (simp; done) | (simp [*]; done)), (by first | rfl | (simp; done) | (simp [*]; done)), H', ⟨by have := HK1.out; have := HJ8.out; omega⟩, ⟨by (with_reducible repeat (first | refine blk_drewN ?_ _ | refine blk_drew ?_ | refine blk_alloc ?_ _)); exact BK335.out⟩, ⟨by repeat (first | (with_reducible first | exact HB.out | apply below_alloc | apply pw_below_drewN | apply below_drew1 | refine below_set ?_ GE335.out) | exact HB.out)⟩⟩
         ·
          rw [if_neg c11] at H
          have c11b0 : (x9_8 == 4611686018427387904) = false := beq_eq_false_iff_ne.mpr c11; have c11b1 : (x9_8 != 4611686018427387904) = true := bne_iff_ne.mpr c11
          by_cases c13 : (wrap64 (x7_1 + x9_8)) ≥ 4611686018427387904
          ·
           rw [if_pos c13] at H
           have c13b0 : decide (4611686018427387904 ≤ (wrap64 (x7_1 + x9_8))) = true := decide_eq_true c13; clear c13
           have H' := Aside0.mk H
           clear H
           go_wp2
           go_roundg kj8
           case measure => have := HK1.out; have := HJ8.out; omega
           case rel => exact ⟨(true), (wrap64 (x6_8 + 1)), (wrap64 ((wrap64 (x7_1 + x9_8)) - 4611686018427387904)), (wrap64 (x8_1 + 1)), (by first | rfl | (simp; done) | (simp [*]; done)), (by first | rfl | (simp; done) | (simp [*]; done)), (by first | rfl | (simp; done) | (simp [*]; done)), (by first | rfl | (simp; done) | (simp [*]; done)), H', ⟨by have := HK1.out; have := HJ8.out; omega⟩, ⟨by (with_reducible repeat (first | refine blk_drewN ?_ _ | refine blk_drew ?_ | refine blk_alloc ?_ _)); exact BK335.out⟩, ⟨by repeat (first | (with_reducible first | exact HB.out | apply below_alloc | apply pw_below_drewN | apply below_drew1 | refine below_set ?_ GE335.out) | exact HB.out)⟩⟩
          ·
           rw [if_neg c13] at H
           have c13b0 : decide (4611686018427387904 ≤ (wrap64 (x7_1 + x9_8))) = false := decide_eq_false c13; clear c13
           have H' := Aside0.mk H
           clear H
           go_wp2
           go_roundg kj8
           case measure => have := HK1.out; have := HJ8.out; omega
           case rel => exact ⟨(true), (x6_8), (wrap64 (x7_1 + x9_8)), (wrap64 (x8_1 + 1)), (by first | rfl | (simp; done) | (simp [*]; done)), (by first | rfl | (simp; done) | (simp [*]; done)), (by first | rfl | (simp; done) | (simp [*]; done)), (by first | rfl | (simp; done) | (simp [*]; done)), H', ⟨by have := HK1.out; have := HJ8.out; omega⟩, ⟨by (with_reducible repeat (first | refine blk_drewN ?_ _ | refine blk_drew ?_ | refine blk_alloc ?_ _)); exact BK335.out⟩, ⟨by repeat (first | (with_reducible first | exact HB.out | apply below_alloc | apply pw_below_drewN | apply below_drew1 | refine below_set ?_ GE335.out) | exact HB.out)⟩⟩
     ·
      rw [if_neg c7] at H
      exact absurd H (by simp)
    ·
     rw [if_neg c6] at H
     have c6b0 : decide (x8_1 < (l0.length : Int)) = false := decide_eq_false c6; clear c6
     by_cases c14 : x5_1 = true
     ·
      subst c14
      have H1 : (if x6_1 = 0 then ((unisonref01_Number.f x7_1).bind fun bt339 => (some (bt339.1, bt339.2.1, bt339.2.2, 0))) else (if x6_1 = 1 then (unisonref01_Sum.j2 k1 x6_1 x7_1 (x7_1 == 0)) else (unisonref01_Sum.j2 k1 x6_1 x7_1 false))) = some (r1, r2, r3, r4) := by rw [if_pos rfl] at H; exact H
      clear H; have H := H1; clear H1
      by_cases c15 : x6_1 = 0
      ·
       rw [if_pos c15] at H
       have c15b0 : (x6_1 == 0) = true := beq_iff_eq.mpr c15; have c15b1 : (x6_1 != 0) = false := bne_eq_false_iff_eq.mpr c15; clear c15; replace H := Option.bind_eq_some_iff.mp H
       obtain ⟨⟨t339, t340, t341⟩, A160, H⟩ := H
       replace H : (some (t339, t340, t341, 0)) = some (r1, r2, r3, r4) := H; have A16 := Aside0.mk A160; clear A160
       simp only [Option.some.injEq, Prod.mk.injEq] at H
       obtain ⟨rfl, rfl, rfl, rfl⟩ := H
       go_wp2_with (first | ((with_reducible refine gate_callee (f := 47) rfl ?_); refine gL (some 60) Tryd.func47 #[.int .i64 x7_1] ?_; (with_reducible refine (unisonref01_Number.calls x7_1 t339 t340 t341 _ A16.out).mono ?_); rintro e w17 ⟨rfl, hb⟩; refine ⟨_, rfl, ?_⟩; replace BK335 := bb BK335 hb; replace HB := bs hb; (try clear hb); (try clear hb2); (try clear hk); (try clear hi); have hcz18_0 : w17.cell? ⟨gb335, 0, none⟩ = some (.int .i64 0) := (blk_cell BK335.out 0).trans rfl; have hcz18_1 : w17.cell? ⟨gb335, 1, none⟩ = some (.int .i64 0) := (blk_cell BK335.out 1).trans rfl; have hcz18_2 : w17.cell? ⟨gb335, 2, none⟩ = some (.string (⟨#[]⟩ : ByteArray)) := (blk_cell BK335.out 2).trans rfl; have hfz18_0 := blk_frozen BK335.out 0; have hfz18_1 := blk_frozen BK335.out 1; have hfz18_2 := blk_frozen BK335.out 2) | ((with_reducible refine gate_store (t := 23) (p := 2) rfl ?_); refine store_event (t := 23) (p := 2) (v := ?vo_w19) (w1 := (((w17.setCell ⟨gb335, 0, none⟩ (.int .i64 t339)).setCell ⟨gb335, 1, none⟩ (.int .i64 t340)).setCell ⟨gb335, 2, none⟩ (.string t341))) ?hg ?ho ?hn ?hr ?_; (case ho => rfl); (case hg => rfl); (case hn => rfl); (case hr => first | (go_simp; done) | (go_simp; rfl)); intro w19 hw; replace BK335 : Aside0 (w19.heap[gb335]? = some (.cells #[.int .i64 t339, .int .i64 t340, .string t341] 23 (0, 0))) := bp BK335 hw; replace HB := bv hw; clear hw))
       refine bodyPost_ret (results_ct rfl _ _ gb335 23 #[.int .i64 t339, .int .i64 t340, .string t341] (0, 0) _ rfl (by (with_reducible repeat (first | refine blk_drewN ?_ _ | refine blk_drew ?_ | refine blk_alloc ?_ _)); exact BK335.out) Tryd.underlying23 rfl (by kernel_rfl)) rfl ?_
       exact ⟨by first | rfl | (simp [errW_none, errW_some] <;> rfl) | (simp [*, errW_none, errW_some] <;> rfl), by repeat (first | (with_reducible first | exact HB.out | apply below_alloc | apply pw_below_drewN | apply below_drew1 | refine below_set ?_ GE335.out) | exact HB.out)⟩
      ·
       rw [if_neg c15] at H
       have c15b0 : (x6_1 == 0) = false := beq_eq_false_iff_ne.mpr c15; have c15b1 : (x6_1 != 0) = true := bne_iff_ne.mpr c15; have HC20 := Aside0.mk H; clear H
       go_upto_region 27 with (fail)
       go_cut [61] (fun v61 wc => ∃ (kq : Nat) (x61_19 : Bool), v61 = .bool x61_19 ∧ Aside0 (unisonref01_Sum.j2 kq x6_1 x7_1 x61_19 = some (r1, r2, r3, r4)) ∧ Aside0 (kq ≤ k1) ∧ Aside0 (wc.heap[gb335]? = some (.cells #[.int .i64 0, .int .i64 0, .string (⟨#[]⟩ : ByteArray)] 23 (0, 0))) ∧ Aside0 (Below w.heap.size w wc))
       case first =>
        have H := HC20.out; clear HC20
        by_cases c21 : x6_1 = 1
        ·
         rw [if_pos c21] at H
         have c21b0 : (x6_1 == 1) = true := beq_iff_eq.mpr c21; have c21b1 : (x6_1 != 1) = false := bne_eq_false_iff_eq.mpr c21; clear c21
         (first | rw [c21b0] | (simp only [i64_w, i32_w, u8_w, u32_w]; rw [c21b0]) | rw [c21b1] | skip)
         have H' := Aside0.mk H
         clear H
         go_wp2
         go_meet
         case rel => exact ⟨_, ((x7_1 == 0)), (by first | rfl | (simp; done) | (simp [*]; done)), H', ⟨by have := HK1.out; first | omega | exact Nat.le_refl _⟩, ⟨by (with_reducible repeat (first | refine blk_drewN ?_ _ | refine blk_drew ?_ | refine blk_alloc ?_ _)); exact BK335.out⟩, ⟨by repeat (first | (with_reducible first | exact HB.out | apply below_alloc | apply pw_below_drewN | apply below_drew1 | refine below_set ?_ GE335.out) | exact HB.out)⟩⟩
        ·
         rw [if_neg c21] at H
         have c21b0 : (x6_1 == 1) = false := beq_eq_false_iff_ne.mpr c21; have c21b1 : (x6_1 != 1) = true := bne_iff_ne.mpr c21
         (first | rw [c21b0] | (simp only [i64_w, i32_w, u8_w, u32_w]; rw [c21b0]) | rw [c21b1] | skip)
         have H' := Aside0.mk H
         clear H
         go_wp2
         go_meet
         case rel => exact ⟨_, (false), (by first | rfl | (simp; done) | (simp [*]; done)), H', ⟨by have := HK1.out; first | omega | exact Nat.le_refl _⟩, ⟨by (with_reducible repeat (first | refine blk_drewN ?_ _ | refine blk_drew ?_ | refine blk_alloc ?_ _)); exact BK335.out⟩, ⟨by repeat (first | (with_reducible first | exact HB.out | apply below_alloc | apply pw_below_drewN | apply below_drew1 | refine below_set ?_ GE335.out) | exact HB.out)⟩⟩
       case rest =>
        clear HC20; (try clear c1); (try clear c2); (try clear p2); (try clear c3); (try clear c3b0); (try clear c3b1); (try clear p3); (try clear q3); (try clear hx3); (try clear c4); (try clear c6); (try clear c6b0); (try clear p6); (try clear c7); (try clear c7b0); (try clear c8); (try clear c8b0); (try clear c8b1); (try clear c10); (try clear c10b0); (try clear c10b1); (try clear c11); (try clear c11b0); (try clear c11b1); (try clear c12); (try clear c12b0); (try clear c13); (try clear c13b0); (try clear c14); (try clear c15); (try clear c15b0); (try clear c15b1); (try clear c21); (try clear c21b0); (try clear c21b1); (try clear hcz18_0); (try clear hcz18_1); (try clear hcz18_2); (try clear hfz18_0); (try clear hfz18_1); (try clear hfz18_2); (try clear hx337_0); (try clear hx337_1); (try clear hx337_2); (try clear hx338_0); (try clear hx338_1); (try clear hx338_2); (try clear p2); (try clear p3); (try clear p337); (try clear p338); (try clear p6); (try clear q3); (try clear q337); (try clear q338)
        obtain ⟨kq, x61_19, rfl, HA, HJ19, BK335, HB⟩ := hcut
        cases kq with
        | zero => exact absurd HA.out (by simp [unisonref01_Sum.j2])
        | succ kj19 =>
         have H := HA.out; clear HA
         simp only [unisonref01_Sum.j2] at H
         by_cases c22 : x61_19 = true
         ·
          subst c22
          have H1 : ((unisonref01_Number.f 4611686018427387904).bind fun bt342 => (some (bt342.1, bt342.2.1, bt342.2.2, 0))) = some (r1, r2, r3, r4) := by rw [if_pos rfl] at H; exact H
          clear H; have H := H1; clear H1; replace H := Option.bind_eq_some_iff.mp H
          obtain ⟨⟨t342, t343, t344⟩, A230, H⟩ := H
          replace H : (some (t342, t343, t344, 0)) = some (r1, r2, r3, r4) := H; have A23 := Aside0.mk A230; clear A230
          simp only [Option.some.injEq, Prod.mk.injEq] at H
          obtain ⟨rfl, rfl, rfl, rfl⟩ := H
          go_wp2_with (first | ((with_reducible refine gate_callee (f := 47) rfl ?_); refine gL (some 68) Tryd.func47 #[.int .i64 4611686018427387904] ?_; (with_reducible refine (unisonref01_Number.calls 4611686018427387904 t342 t343 t344 _ A23.out).mono ?_); rintro e w24 ⟨rfl, hb⟩; refine ⟨_, rfl, ?_⟩; replace BK335 := bb BK335 hb; replace HB := bs hb; (try clear hb); (try clear hb2); (try clear hk); (try clear hi); have hcz25_0 : w24.cell? ⟨gb335, 0, none⟩ = some (.int .i64 0) := (blk_cell BK335.out 0).trans rfl; have hcz25_1 : w24.cell? ⟨gb335, 1, none⟩ = some (.int .i64 0) := (blk_cell BK335.out 1).trans rfl; have hcz25_2 : w24.cell? ⟨gb335, 2, none⟩ = some (.string (⟨#[]⟩ : ByteArray)) := (blk_cell BK335.out 2).trans rfl; have hfz25_0 := blk_frozen BK335.out 0; have hfz25_1 := blk_frozen BK335.out 1; have hfz25_2 := blk_frozen BK335.out 2) | ((with_reducible refine gate_store (t := 23) (p := 2) rfl ?_); refine store_event (t := 23) (p := 2) (v := ?vo_w26) (w1 := (((w24.setCell ⟨gb335, 0, none⟩ (.int .i64 t342)).setCell ⟨gb335, 1, none⟩ (.int .i64 t343)).setCell ⟨gb335, 2, none⟩ (.string t344))) ?hg ?ho ?hn ?hr ?_; (case ho => rfl); (case hg => rfl); (case hn => rfl); (case hr => first | (go_simp; done) | (go_simp; rfl)); intro w26 hw; replace BK335 : Aside0 (w26.heap[gb335]? = some (.cells #[.int .i64 t342, .int .i64 t343, .string t344] 23 (0, 0))) := bp BK335 hw; replace HB := bv hw; clear hw))
          refine bodyPost_ret (results_ct rfl _ _ gb335 23 #[.int .i64 t342, .int .i64 t343, .string t344] (0, 0) _ rfl (by (with_reducible repeat (first | refine blk_drewN ?_ _ | refine blk_drew ?_ | refine blk_alloc ?_ _)); exact BK335.out) Tryd.underlying23 rfl (by kernel_rfl)) rfl ?_
          exact ⟨by first | rfl | (simp [errW_none, errW_some] <;> rfl) | (simp [*, errW_none, errW_some] <;> rfl), by repeat (first | (with_reducible first | exact HB.out | apply below_alloc | apply pw_below_drewN | apply below_drew1 | refine below_set ?_ GE335.out) | exact HB.out)⟩
         ·
          replace c22 := Bool.eq_false_iff.mpr c22
          subst c22
          have H1 : (if x6_1 = (-1) then ((unisonref01_Number.f (wrap64 (x7_1 - 4611686018427387904))).bind fun bt345 => (some (bt345.1, bt345.2.1, bt345.2.2, 0))) else (some (0, 0, (⟨#[]⟩ : ByteArray), 12))) = some (r1, r2, r3, r4) := by rw [if_neg (show ¬ (false = true) by decide)] at H; exact H
          clear H; have H := H1; clear H1
          by_cases c27 : x6_1 = (-1)
          ·
           rw [if_pos c27] at H
           have c27b0 : (x6_1 == (-1)) = true := beq_iff_eq.mpr c27; have c27b1 : (x6_1 != (-1)) = false := bne_eq_false_iff_eq.mpr c27; clear c27; replace H := Option.bind_eq_some_iff.mp H
           obtain ⟨⟨t345, t346, t347⟩, A280, H⟩ := H
           replace H : (some (t345, t346, t347, 0)) = some (r1, r2, r3, r4) := H; have A28 := Aside0.mk A280; clear A280
           simp only [Option.some.injEq, Prod.mk.injEq] at H
           obtain ⟨rfl, rfl, rfl, rfl⟩ := H
           go_wp2_with (first | ((with_reducible refine gate_callee (f := 47) rfl ?_); refine gL (some 74) Tryd.func47 #[.int .i64 (wrap64 (x7_1 - 4611686018427387904))] ?_; (with_reducible refine (unisonref01_Number.calls (wrap64 (x7_1 - 4611686018427387904)) t345 t346 t347 _ A28.out).mono ?_); rintro e w29 ⟨rfl, hb⟩; refine ⟨_, rfl, ?_⟩; replace BK335 := bb BK335 hb; replace HB := bs hb; (try clear hb); (try clear hb2); (try clear hk); (try clear hi); have hcz30_0 : w29.cell? ⟨gb335, 0, none⟩ = some (.int .i64 0) := (blk_cell BK335.out 0).trans rfl; have hcz30_1 : w29.cell? ⟨gb335, 1, none⟩ = some (.int .i64 0) := (blk_cell BK335.out 1).trans rfl; have hcz30_2 : w29.cell? ⟨gb335, 2, none⟩ = some (.string (⟨#[]⟩ : ByteArray)) := (blk_cell BK335.out 2).trans rfl; have hfz30_0 := blk_frozen BK335.out 0; have hfz30_1 := blk_frozen BK335.out 1; have hfz30_2 := blk_frozen BK335.out 2) | ((with_reducible refine gate_store (t := 23) (p := 2) rfl ?_); refine store_event (t := 23) (p := 2) (v := ?vo_w31) (w1 := (((w29.setCell ⟨gb335, 0, none⟩ (.int .i64 t345)).setCell ⟨gb335, 1, none⟩ (.int .i64 t346)).setCell ⟨gb335, 2, none⟩ (.string t347))) ?hg ?ho ?hn ?hr ?_; (case ho => rfl); (case hg => rfl); (case hn => rfl); (case hr => first | (go_simp; done) | (go_simp; rfl)); intro w31 hw; replace BK335 : Aside0 (w31.heap[gb335]? = some (.cells #[.int .i64 t345, .int .i64 t346, .string t347] 23 (0, 0))) := bp BK335 hw; replace HB := bv hw; clear hw))
           refine bodyPost_ret (results_ct rfl _ _ gb335 23 #[.int .i64 t345, .int .i64 t346, .string t347] (0, 0) _ rfl (by (with_reducible repeat (first | refine blk_drewN ?_ _ | refine blk_drew ?_ | refine blk_alloc ?_ _)); exact BK335.out) Tryd.underlying23 rfl (by kernel_rfl)) rfl ?_
           exact ⟨by first | rfl | (simp [errW_none, errW_some] <;> rfl) | (simp [*, errW_none, errW_some] <;> rfl), by repeat (first | (with_reducible first | exact HB.out | apply below_alloc | apply pw_below_drewN | apply below_drew1 | refine below_set ?_ GE335.out) | exact HB.out)⟩
          ·
           rw [if_neg c27] at H
           have c27b0 : (x6_1 == (-1)) = false := beq_eq_false_iff_ne.mpr c27; have c27b1 : (x6_1 != (-1)) = true := bne_iff_ne.mpr c27
           simp only [Option.some.injEq, Prod.mk.injEq] at H
           obtain ⟨rfl, rfl, rfl, rfl⟩ := H
           have hcz32_0 : wc.cell? ⟨gb335, 0, none⟩ = some (.int .i64 0) := (blk_cell BK335.out 0).trans rfl; have hcz32_1 : wc.cell? ⟨gb335, 1, none⟩ = some (.int .i64 0) := (blk_cell BK335.out 1).trans rfl; have hcz32_2 : wc.cell? ⟨gb335, 2, none⟩ = some (.string (⟨#[]⟩ : ByteArray)) := (blk_cell BK335.out 2).trans rfl; have hfz32_0 := blk_frozen BK335.out 0; have hfz32_1 := blk_frozen BK335.out 1; have hfz32_2 := blk_frozen BK335.out 2
           go_wp2_with (first | ((with_reducible refine gate_store (t := 23) (p := 2) rfl ?_); refine store_event (t := 23) (p := 2) (v := ?vo_w33) (w1 := (((wc.setCell ⟨gb335, 0, none⟩ (.int .i64 0)).setCell ⟨gb335, 1, none⟩ (.int .i64 0)).setCell ⟨gb335, 2, none⟩ (.string (⟨#[]⟩ : ByteArray)))) ?hg ?ho ?hn ?hr ?_; (case ho => rfl); (case hg => rfl); (case hn => rfl); (case hr => first | (go_simp; done) | (go_simp; rfl)); intro w33 hw; replace BK335 : Aside0 (w33.heap[gb335]? = some (.cells #[.int .i64 0, .int .i64 0, .string (⟨#[]⟩ : ByteArray)] 23 (0, 0))) := bp BK335 hw; replace HB := bv hw; clear hw))
           refine bodyPost_ret (results_ct rfl _ _ gb335 23 #[.int .i64 0, .int .i64 0, .string (⟨#[]⟩ : ByteArray)] (0, 0) _ rfl (by (with_reducible repeat (first | refine blk_drewN ?_ _ | refine blk_drew ?_ | refine blk_alloc ?_ _)); exact BK335.out) Tryd.underlying23 rfl (by kernel_rfl)) rfl ?_
           exact ⟨by first | rfl | (simp [errW_none, errW_some] <;> rfl) | (simp [*, errW_none, errW_some] <;> rfl), by repeat (first | (with_reducible first | exact HB.out | apply below_alloc | apply pw_below_drewN | apply below_drew1 | refine below_set ?_ GE335.out) | exact HB.out)⟩
     ·
      replace c14 := Bool.eq_false_iff.mpr c14
      subst c14
      have H1 : (some (0, 0, (⟨#[]⟩ : ByteArray), 0)) = some (r1, r2, r3, r4) := by rw [if_neg (show ¬ (false = true) by decide)] at H; exact H
      clear H; have H := H1; clear H1
      simp only [Option.some.injEq, Prod.mk.injEq] at H
      obtain ⟨rfl, rfl, rfl, rfl⟩ := H
      have hcz34_0 : wr.cell? ⟨gb335, 0, none⟩ = some (.int .i64 0) := (blk_cell BK335.out 0).trans rfl; have hcz34_1 : wr.cell? ⟨gb335, 1, none⟩ = some (.int .i64 0) := (blk_cell BK335.out 1).trans rfl; have hcz34_2 : wr.cell? ⟨gb335, 2, none⟩ = some (.string (⟨#[]⟩ : ByteArray)) := (blk_cell BK335.out 2).trans rfl; have hfz34_0 := blk_frozen BK335.out 0; have hfz34_1 := blk_frozen BK335.out 1; have hfz34_2 := blk_frozen BK335.out 2
      go_wp2_with (first | ((with_reducible refine gate_store (t := 23) (p := 2) rfl ?_); refine store_event (t := 23) (p := 2) (v := ?vo_w35) (w1 := (((wr.setCell ⟨gb335, 0, none⟩ (.int .i64 0)).setCell ⟨gb335, 1, none⟩ (.int .i64 0)).setCell ⟨gb335, 2, none⟩ (.string (⟨#[]⟩ : ByteArray)))) ?hg ?ho ?hn ?hr ?_; (case ho => rfl); (case hg => rfl); (case hn => rfl); (case hr => first | (go_simp; done) | (go_simp; rfl)); intro w35 hw; replace BK335 : Aside0 (w35.heap[gb335]? = some (.cells #[.int .i64 0, .int .i64 0, .string (⟨#[]⟩ : ByteArray)] 23 (0, 0))) := bp BK335 hw; replace HB := bv hw; clear hw))
      refine bodyPost_ret (results_ct rfl _ _ gb335 23 #[.int .i64 0, .int .i64 0, .string (⟨#[]⟩ : ByteArray)] (0, 0) _ rfl (by (with_reducible repeat (first | refine blk_drewN ?_ _ | refine blk_drew ?_ | refine blk_alloc ?_ _)); exact BK335.out) Tryd.underlying23 rfl (by kernel_rfl)) rfl ?_
      exact ⟨by first | rfl | (simp [errW_none, errW_some] <;> rfl) | (simp [*, errW_none, errW_some] <;> rfl), by repeat (first | (with_reducible first | exact HB.out | apply below_alloc | apply pw_below_drewN | apply below_drew1 | refine below_set ?_ GE335.out) | exact HB.out)⟩
 ·
  rw [if_neg c3] at H
  have c3b0 : (t336 == 0) = false := beq_eq_false_iff_ne.mpr c3; have c3b1 : (t336 != 0) = true := bne_iff_ne.mpr c3
  simp only [Option.some.injEq, Prod.mk.injEq] at H
  obtain ⟨rfl, rfl, rfl, rfl⟩ := H
  go_enter Tryd.func21, Tryd.ntmps21
  go_wp2_with (first | ((with_reducible refine gate_dst (N := 2) rfl ?_); refine box_event ?hg (N := 2) ?hd (cs := #[.int .i64 0, .int .i64 0, .string (⟨#[]⟩ : ByteArray)]) (t := 23) ?hr ?_; (case hd => rfl); (case hg => rfl); (case hr => first | (go_simp; done) | (go_simp; rfl)); intro gb335 hg w36 hbox hb; have BK335 := Aside0.mk (hbox); have GW335 := bz hg; have GE335 := bz hg; replace HB := bs hb; clear hb hbox hg) | ((with_reducible refine gate_callee (f := 46) rfl ?_); refine gL (some 11) Tryd.func46 #[.int .i64 1, .slice A0 l0.length c0] ?_; (with_reducible refine (unisonref01_refused.calls k 1 _ _ l0 t336 _ ?side1 ?side2 A2.out).mono ?_); (case side1 => repeat (first | exact (Kd.C_below HR0.out HB.out) | (with_reducible refine Kd.C_alloc ?_ _) | (with_reducible refine Kd.C_drewN ?_ _) | (with_reducible refine Kd.C_drew ?_))); (case side2 => exact HC0.out); rintro e w37 ⟨rfl, hb⟩; refine ⟨_, rfl, ?_⟩; replace BK335 := bb BK335 hb; replace HB := bs hb; (try clear hb); (try clear hb2); (try clear hk); (try clear hi); have hcz38_0 : w37.cell? ⟨gb335, 0, none⟩ = some (.int .i64 0) := (blk_cell BK335.out 0).trans rfl; have hcz38_1 : w37.cell? ⟨gb335, 1, none⟩ = some (.int .i64 0) := (blk_cell BK335.out 1).trans rfl; have hcz38_2 : w37.cell? ⟨gb335, 2, none⟩ = some (.string (⟨#[]⟩ : ByteArray)) := (blk_cell BK335.out 2).trans rfl; have hfz38_0 := blk_frozen BK335.out 0; have hfz38_1 := blk_frozen BK335.out 1; have hfz38_2 := blk_frozen BK335.out 2) | ((with_reducible refine gate_store (t := 23) (p := 2) rfl ?_); refine store_event (t := 23) (p := 2) (v := ?vo_w39) (w1 := (((w37.setCell ⟨gb335, 0, none⟩ (.int .i64 0)).setCell ⟨gb335, 1, none⟩ (.int .i64 0)).setCell ⟨gb335, 2, none⟩ (.string (⟨#[]⟩ : ByteArray)))) ?hg ?ho ?hn ?hr ?_; (case ho => rfl); (case hg => rfl); (case hn => rfl); (case hr => first | (go_simp; done) | (go_simp; rfl)); intro w39 hw; replace BK335 : Aside0 (w39.heap[gb335]? = some (.cells #[.int .i64 0, .int .i64 0, .string (⟨#[]⟩ : ByteArray)] 23 (0, 0))) := bp BK335 hw; replace HB := bv hw; clear hw))
  refine bodyPost_ret (results_ct rfl _ _ gb335 23 #[.int .i64 0, .int .i64 0, .string (⟨#[]⟩ : ByteArray)] (0, 0) _ rfl (by (with_reducible repeat (first | refine blk_drewN ?_ _ | refine blk_drew ?_ | refine blk_alloc ?_ _)); exact BK335.out) Tryd.underlying23 rfl (by kernel_rfl)) rfl ?_
  exact ⟨by first | rfl | (simp [errW_none, errW_some] <;> rfl) | (simp [*, errW_none, errW_some] <;> rfl), by repeat (first | (with_reducible first | exact HB.out | apply below_alloc | apply pw_below_drewN | apply below_drew1 | refine below_set ?_ GE335.out) | exact HB.out)⟩
end Go.Proofs.YteehcopkljiikaaDoor.PA
