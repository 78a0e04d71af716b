-- Laid by a program of ours (wip/gen/xprint.py). Not trusted: Lean checks it.
import Derived.Test.YteehcopkljiikaaDoorPAx0
import Derived.Test.YteehcopkljiikaaDoorPAx1
import Derived.Test.YteehcopkljiikaaDoorPFLAwake
import Derived.Test.YteehcopkljiikaaDoorPFValueCompare
import Derived.Test.YteehcopkljiikaaDoorPFValueOrder
namespace Go.Proofs.YteehcopkljiikaaDoor.PA
open Go.RowKit Go.Proofs.YteehcopkljiikaaDoorW.PrintWords Go.Proofs.YteehcopkljiikaaDoorW.PrintLast Go.Proofs.YteehcopkljiikaaDoorW.PrintMore Go.Proofs.YteehcopkljiikaaDoorX
attribute [local go_sem] max2_int min2_int max_two min_two max_three min_three max_four min_four   -- for this text's walks alone
set_option linter.unusedVariables false
set_option linter.unusedSimpArgs false
attribute [local go_sem high] eqA23
/-! ### unisonlaw01_ValueOrderly: function 5 -/
mutual
def unisonlaw01_ValueOrderly.j0 : Nat → Bool → Int → Int → Int → Int → Int → Int → Int → ByteArray → Int → Int → ByteArray → Option (Bool)
 | 0, _, _, _, _, _, _, _, _, _, _, _, _ => none
 | k + 1, x7, x8, x9, x10, x11, x12, x375000, x375001, x375002, x376000, x376001, x376002 => if x8 = (wrap64 (-x9)) then (if x12 = 0 then (if ((x8 == 0) != (x375000 == x376000 && (x375001 == x376001 && (x375002.toList == x376002.toList)))) = true then (unisonlaw01_ValueOrderly.j1 k x7 x8 true x375000 x375001 x375002 x376000 x376001 x376002) else (if x8 < (-1) then (unisonlaw01_ValueOrderly.j1 k x7 x8 true x375000 x375001 x375002 x376000 x376001 x376002) else (if x8 > 1 then (unisonlaw01_ValueOrderly.j1 k x7 x8 true x375000 x375001 x375002 x376000 x376001 x376002) else (if x8 ≤ 0 then (if x10 ≤ 0 then (if x11 > 0 then (unisonlaw01_ValueOrderly.j1 k x7 x8 true x375000 x375001 x375002 x376000 x376001 x376002) else (if x8 < 0 then (unisonlaw01_ValueOrderly.j1 k x7 x8 (decide (x11 ≥ 0)) x375000 x375001 x375002 x376000 x376001 x376002) else (unisonlaw01_ValueOrderly.j1 k x7 x8 false x375000 x375001 x375002 x376000 x376001 x376002))) else (if x8 < 0 then (unisonlaw01_ValueOrderly.j1 k x7 x8 false x375000 x375001 x375002 x376000 x376001 x376002) else (unisonlaw01_ValueOrderly.j1 k x7 x8 false x375000 x375001 x375002 x376000 x376001 x376002))) else (if x8 < 0 then (if x10 ≤ 0 then (unisonlaw01_ValueOrderly.j1 k x7 x8 (decide (x11 ≥ 0)) x375000 x375001 x375002 x376000 x376001 x376002) else (unisonlaw01_ValueOrderly.j1 k x7 x8 false x375000 x375001 x375002 x376000 x376001 x376002)) else (unisonlaw01_ValueOrderly.j1 k x7 x8 false x375000 x375001 x375002 x376000 x376001 x376002)))))) else (unisonlaw01_ValueOrderly.j1 k x7 x8 true x375000 x375001 x375002 x376000 x376001 x376002)) else (unisonlaw01_ValueOrderly.j1 k x7 x8 true x375000 x375001 x375002 x376000 x376001 x376002)
def unisonlaw01_ValueOrderly.j1 : Nat → Bool → Int → Bool → Int → Int → ByteArray → Int → Int → ByteArray → Option (Bool)
 | 0, _, _, _, _, _, _, _, _, _ => none
 | k + 1, x7, x8, x80, x375000, x375001, x375002, x376000, x376001, x376002 => if x80 = true then (none) else ((value_Compare.f k 3 x375000 x375001 x375002 x376000 x376001 x376002).bind fun bt383 => ((value_Compare.f k 6 x375000 x375001 x375002 x376000 x376001 x376002).bind fun bt388 => (if bt383.2.2.2 = bt388.2.2.2 then (if bt383.2.2.2 = 0 then (if x375000 = 0 then (if x7 = true then (if (bt383.1 == bt388.1 && (bt383.2.1 == bt388.2.1 && (bt383.2.2.1.toList == bt388.2.2.1.toList))) = true then (some (bt383.1 == 0 && (bt383.2.1 == 0 && (bt383.2.2.1.toList == ([] : List UInt8))))) else (none)) else (none)) else (if x376000 = 0 then (if x7 = true then (if (bt383.1 == bt388.1 && (bt383.2.1 == bt388.2.1 && (bt383.2.2.1.toList == bt388.2.2.1.toList))) = true then (some (bt383.1 == 0 && (bt383.2.1 == 0 && (bt383.2.2.1.toList == ([] : List UInt8))))) else (none)) else (none)) else (unisonlaw01_ValueOrderly.j2 k x7 x8 bt383.1 bt383.2.1 bt383.2.2.1 bt388.1 bt388.2.1 bt388.2.2.1))) else (if x7 = true then (if (bt383.1 == bt388.1 && (bt383.2.1 == bt388.2.1 && (bt383.2.2.1.toList == bt388.2.2.1.toList))) = true then (some (bt383.1 == 0 && (bt383.2.1 == 0 && (bt383.2.2.1.toList == ([] : List UInt8))))) else (none)) else (none))) else (none))))
def unisonlaw01_ValueOrderly.j2 : Nat → Bool → Int → Int → Int → ByteArray → Int → Int → ByteArray → Option (Bool)
 | 0, _, _, _, _, _, _, _, _ => none
 | k + 1, x7, x8, x388000, x388001, x388002, x393000, x393001, x393002 => if x7 = true then (if ((x388001 == 1) == (decide (x8 < 0))) = true then (if (wrap64 (x388001 + x393001)) = 1 then (if x388000 = 2 then (some (x393000 == 2)) else (none)) else (none)) else (none)) else (none)
end
def unisonlaw01_ValueOrderly.f (k : Nat) (a0_0 : Int) (a0_1 : Int) (a0_2 : ByteArray) (a1_0 : Int) (a1_1 : Int) (a1_2 : ByteArray) (a2_0 : Int) (a2_1 : Int) (a2_2 : ByteArray) : Option (Bool) := (unisonlaw01_awake.f k).bind fun t377 => ((value_Order.f k a0_0 a0_1 a0_2 a1_0 a1_1 a1_2).bind fun t378 => ((value_Order.f k a1_0 a1_1 a1_2 a0_0 a0_1 a0_2).bind fun t379 => ((value_Order.f k a1_0 a1_1 a1_2 a2_0 a2_1 a2_2).bind fun t380 => ((value_Order.f k a0_0 a0_1 a0_2 a2_0 a2_1 a2_2).bind fun t381 => ((value_Order.f k a0_0 a0_1 a0_2 a0_0 a0_1 a0_2).bind fun t382 => (unisonlaw01_ValueOrderly.j0 k t377 t378 t379 t380 t381 t382 a0_0 a0_1 a0_2 a1_0 a1_1 a1_2))))))
theorem unisonlaw01_ValueOrderly.mono_l : ∀ k, (∀ y0 y1 y2 y3 y4 y5 y6 y7 y8 y9 y10 y11, LeO (unisonlaw01_ValueOrderly.j0 k y0 y1 y2 y3 y4 y5 y6 y7 y8 y9 y10 y11) (unisonlaw01_ValueOrderly.j0 (k + 1) y0 y1 y2 y3 y4 y5 y6 y7 y8 y9 y10 y11)) ∧ (∀ y0 y1 y2 y3 y4 y5 y6 y7 y8, LeO (unisonlaw01_ValueOrderly.j1 k y0 y1 y2 y3 y4 y5 y6 y7 y8) (unisonlaw01_ValueOrderly.j1 (k + 1) y0 y1 y2 y3 y4 y5 y6 y7 y8)) ∧ (∀ y0 y1 y2 y3 y4 y5 y6 y7, LeO (unisonlaw01_ValueOrderly.j2 k y0 y1 y2 y3 y4 y5 y6 y7) (unisonlaw01_ValueOrderly.j2 (k + 1) y0 y1 y2 y3 y4 y5 y6 y7))
 | 0 => ⟨fun _ _ _ _ _ _ _ _ _ _ _ _ r h => by simp [unisonlaw01_ValueOrderly.j0] at h, fun _ _ _ _ _ _ _ _ _ r h => by simp [unisonlaw01_ValueOrderly.j1] at h, fun _ _ _ _ _ _ _ _ r h => by simp [unisonlaw01_ValueOrderly.j2] at h⟩
 | k + 1 => by
  obtain ⟨ih0, ih1, ih2⟩ := unisonlaw01_ValueOrderly.mono_l k
  refine ⟨?_, ?_, ?_⟩
  ·
   intro y0 y1 y2 y3 y4 y5 y6 y7 y8 y9 y10 y11
   unfold unisonlaw01_ValueOrderly.j0
   repeat' first
   | (with_reducible exact ih0 _ _ _ _ _ _ _ _ _ _ _ _)
   | (with_reducible exact ih1 _ _ _ _ _ _ _ _ _)
   | (with_reducible exact ih2 _ _ _ _ _ _ _ _)
   | (with_reducible exact unisonlaw01_awake.mono _)
   | (with_reducible exact value_Compare.mono _ _ _ _ _ _ _ _)
   | (with_reducible exact value_Order.mono _ _ _ _ _ _ _)
   | (with_reducible exact LeO.refl _)
   | (with_reducible exact LeO.none _)
   | (with_reducible refine LeO.ite ?_ ?_)
   | (with_reducible refine LeO.bind ?_ (fun _ => ?_))
   | exact ih0 _ _ _ _ _ _ _ _ _ _ _ _
   | exact ih1 _ _ _ _ _ _ _ _ _
   | exact ih2 _ _ _ _ _ _ _ _
   | exact unisonlaw01_awake.mono _
   | exact value_Compare.mono _ _ _ _ _ _ _ _
   | exact value_Order.mono _ _ _ _ _ _ _
   | exact LeO.none _
   | refine LeO.ite ?_ ?_
   | refine LeO.bind ?_ (fun _ => ?_)
  ·
   intro y0 y1 y2 y3 y4 y5 y6 y7 y8
   unfold unisonlaw01_ValueOrderly.j1
   repeat' first
   | (with_reducible exact ih0 _ _ _ _ _ _ _ _ _ _ _ _)
   | (with_reducible exact ih1 _ _ _ _ _ _ _ _ _)
   | (with_reducible exact ih2 _ _ _ _ _ _ _ _)
   | (with_reducible exact unisonlaw01_awake.mono _)
   | (with_reducible exact value_Compare.mono _ _ _ _ _ _ _ _)
   | (with_reducible exact value_Order.mono _ _ _ _ _ _ _)
   | (with_reducible exact LeO.refl _)
   | (with_reducible exact LeO.none _)
   | (with_reducible refine LeO.ite ?_ ?_)
   | (with_reducible refine LeO.bind ?_ (fun _ => ?_))
   | exact ih0 _ _ _ _ _ _ _ _ _ _ _ _
   | exact ih1 _ _ _ _ _ _ _ _ _
   | exact ih2 _ _ _ _ _ _ _ _
   | exact unisonlaw01_awake.mono _
   | exact value_Compare.mono _ _ _ _ _ _ _ _
   | exact value_Order.mono _ _ _ _ _ _ _
   | exact LeO.none _
   | refine LeO.ite ?_ ?_
   | refine LeO.bind ?_ (fun _ => ?_)
  ·
   intro y0 y1 y2 y3 y4 y5 y6 y7
   unfold unisonlaw01_ValueOrderly.j2
   repeat' first
   | (with_reducible exact ih0 _ _ _ _ _ _ _ _ _ _ _ _)
   | (with_reducible exact ih1 _ _ _ _ _ _ _ _ _)
   | (with_reducible exact ih2 _ _ _ _ _ _ _ _)
   | (with_reducible exact unisonlaw01_awake.mono _)
   | (with_reducible exact value_Compare.mono _ _ _ _ _ _ _ _)
   | (with_reducible exact value_Order.mono _ _ _ _ _ _ _)
   | (with_reducible exact LeO.refl _)
   | (with_reducible exact LeO.none _)
   | (with_reducible refine LeO.ite ?_ ?_)
   | (with_reducible refine LeO.bind ?_ (fun _ => ?_))
   | exact ih0 _ _ _ _ _ _ _ _ _ _ _ _
   | exact ih1 _ _ _ _ _ _ _ _ _
   | exact ih2 _ _ _ _ _ _ _ _
   | exact unisonlaw01_awake.mono _
   | exact value_Compare.mono _ _ _ _ _ _ _ _
   | exact value_Order.mono _ _ _ _ _ _ _
   | exact LeO.none _
   | refine LeO.ite ?_ ?_
   | refine LeO.bind ?_ (fun _ => ?_)
theorem unisonlaw01_ValueOrderly.mono : ∀ a0 a1 a2 a3 a4 a5 a6 a7 a8 k, LeO (unisonlaw01_ValueOrderly.f k a0 a1 a2 a3 a4 a5 a6 a7 a8) (unisonlaw01_ValueOrderly.f (k + 1) a0 a1 a2 a3 a4 a5 a6 a7 a8) := by
 intro a0 a1 a2 a3 a4 a5 a6 a7 a8 k
 obtain ⟨ih0, ih1, ih2⟩ := unisonlaw01_ValueOrderly.mono_l k
 unfold unisonlaw01_ValueOrderly.f
 repeat' first
   | (with_reducible exact ih0 _ _ _ _ _ _ _ _ _ _ _ _)
   | (with_reducible exact ih1 _ _ _ _ _ _ _ _ _)
   | (with_reducible exact ih2 _ _ _ _ _ _ _ _)
   | (with_reducible exact unisonlaw01_awake.mono _)
   | (with_reducible exact value_Compare.mono _ _ _ _ _ _ _ _)
   | (with_reducible exact value_Order.mono _ _ _ _ _ _ _)
   | (with_reducible exact LeO.refl _)
   | (with_reducible exact LeO.none _)
   | (with_reducible refine LeO.ite ?_ ?_)
   | (with_reducible refine LeO.bind ?_ (fun _ => ?_))
   | exact ih0 _ _ _ _ _ _ _ _ _ _ _ _
   | exact ih1 _ _ _ _ _ _ _ _ _
   | exact ih2 _ _ _ _ _ _ _ _
   | exact unisonlaw01_awake.mono _
   | exact value_Compare.mono _ _ _ _ _ _ _ _
   | exact value_Order.mono _ _ _ _ _ _ _
   | exact LeO.none _
   | refine LeO.ite ?_ ?_
   | refine LeO.bind ?_ (fun _ => ?_)
set_option maxHeartbeats 8000000 in
set_option maxRecDepth 100000 in
theorem unisonlaw01_ValueOrderly.calls (k : Nat) (a0_0 : Int) (a0_1 : Int) (a0_2 : ByteArray) (a1_0 : Int) (a1_1 : Int) (a1_2 : ByteArray) (a2_0 : Int) (a2_1 : Int) (a2_2 : ByteArray) (r : Bool) (w : World) (h : unisonlaw01_ValueOrderly.f k a0_0 a0_1 a0_2 a1_0 a1_1 a1_2 a2_0 a2_1 a2_2 = some r) :
  Calls Tryd.prog 5 #[.agg #[.int .i64 a0_0, .int .i64 a0_1, .string a0_2], .agg #[.int .i64 a1_0, .int .i64 a1_1, .string a1_2], .agg #[.int .i64 a2_0, .int .i64 a2_1, .string a2_2]] w fun e w' => e = .returned (.bool r) ∧ Below w.heap.size w w' := by
 have hu23 := Tryd.underlying23
 have HB := Aside0.mk (Below.refl w.heap.size w)
 have H : ((unisonlaw01_awake.f k).bind fun t377 => ((value_Order.f k a0_0 a0_1 a0_2 a1_0 a1_1 a1_2).bind fun t378 => ((value_Order.f k a1_0 a1_1 a1_2 a0_0 a0_1 a0_2).bind fun t379 => ((value_Order.f k a1_0 a1_1 a1_2 a2_0 a2_1 a2_2).bind fun t380 => ((value_Order.f k a0_0 a0_1 a0_2 a2_0 a2_1 a2_2).bind fun t381 => ((value_Order.f k a0_0 a0_1 a0_2 a0_0 a0_1 a0_2).bind fun t382 => (unisonlaw01_ValueOrderly.j0 k t377 t378 t379 t380 t381 t382 a0_0 a0_1 a0_2 a1_0 a1_1 a1_2))))))) = some r := h
 clear h
 replace H := Option.bind_eq_some_iff.mp H
 obtain ⟨t377, A40, H⟩ := H
 replace H : ((value_Order.f k a0_0 a0_1 a0_2 a1_0 a1_1 a1_2).bind fun t378 => ((value_Order.f k a1_0 a1_1 a1_2 a0_0 a0_1 a0_2).bind fun t379 => ((value_Order.f k a1_0 a1_1 a1_2 a2_0 a2_1 a2_2).bind fun t380 => ((value_Order.f k a0_0 a0_1 a0_2 a2_0 a2_1 a2_2).bind fun t381 => ((value_Order.f k a0_0 a0_1 a0_2 a0_0 a0_1 a0_2).bind fun t382 => (unisonlaw01_ValueOrderly.j0 k t377 t378 t379 t380 t381 t382 a0_0 a0_1 a0_2 a1_0 a1_1 a1_2)))))) = some r := H
 have A4 := Aside0.mk A40
 clear A40
 replace H := Option.bind_eq_some_iff.mp H
 obtain ⟨t378, A50, H⟩ := H
 replace H : ((value_Order.f k a1_0 a1_1 a1_2 a0_0 a0_1 a0_2).bind fun t379 => ((value_Order.f k a1_0 a1_1 a1_2 a2_0 a2_1 a2_2).bind fun t380 => ((value_Order.f k a0_0 a0_1 a0_2 a2_0 a2_1 a2_2).bind fun t381 => ((value_Order.f k a0_0 a0_1 a0_2 a0_0 a0_1 a0_2).bind fun t382 => (unisonlaw01_ValueOrderly.j0 k t377 t378 t379 t380 t381 t382 a0_0 a0_1 a0_2 a1_0 a1_1 a1_2))))) = some r := H
 have A5 := Aside0.mk A50
 clear A50
 replace H := Option.bind_eq_some_iff.mp H
 obtain ⟨t379, A60, H⟩ := H
 replace H : ((value_Order.f k a1_0 a1_1 a1_2 a2_0 a2_1 a2_2).bind fun t380 => ((value_Order.f k a0_0 a0_1 a0_2 a2_0 a2_1 a2_2).bind fun t381 => ((value_Order.f k a0_0 a0_1 a0_2 a0_0 a0_1 a0_2).bind fun t382 => (unisonlaw01_ValueOrderly.j0 k t377 t378 t379 t380 t381 t382 a0_0 a0_1 a0_2 a1_0 a1_1 a1_2)))) = some r := H
 have A6 := Aside0.mk A60
 clear A60
 replace H := Option.bind_eq_some_iff.mp H
 obtain ⟨t380, A70, H⟩ := H
 replace H : ((value_Order.f k a0_0 a0_1 a0_2 a2_0 a2_1 a2_2).bind fun t381 => ((value_Order.f k a0_0 a0_1 a0_2 a0_0 a0_1 a0_2).bind fun t382 => (unisonlaw01_ValueOrderly.j0 k t377 t378 t379 t380 t381 t382 a0_0 a0_1 a0_2 a1_0 a1_1 a1_2))) = some r := H
 have A7 := Aside0.mk A70
 clear A70
 replace H := Option.bind_eq_some_iff.mp H
 obtain ⟨t381, A80, H⟩ := H
 replace H : ((value_Order.f k a0_0 a0_1 a0_2 a0_0 a0_1 a0_2).bind fun t382 => (unisonlaw01_ValueOrderly.j0 k t377 t378 t379 t380 t381 t382 a0_0 a0_1 a0_2 a1_0 a1_1 a1_2)) = some r := H
 have A8 := Aside0.mk A80
 clear A80
 have HC9 := Aside0.mk H
 clear H
 go_enter Tryd.func5, Tryd.ntmps5
 go_upto_region 6 with (first | ((with_reducible refine gate_dst (N := 3) rfl ?_); refine box_event ?hg (N := 3) ?hd (cs := #[.int .i64 a0_0, .int .i64 a0_1, .string a0_2]) (t := 23) ?hr ?_; (case hd => rfl); (case hg => rfl); (case hr => first | (go_simp; done) | (go_simp; rfl)); intro gb374 hg w10 hbox hb; have n0_ := Aside0.mk (below_step (by repeat (first | (with_reducible first | exact HB.out | apply below_alloc | apply pw_below_drewN | apply below_drew1) | exact HB.out)) hb); have n1_ := Aside0.mk (hbox); have n2_ := Aside0.mk ((by rw [hg]; exact (below_size (by repeat (first | (with_reducible first | exact HB.out | apply below_alloc | apply pw_below_drewN | apply below_drew1) | exact HB.out))) : w.heap.size ≤ gb374)); have n3_ := Aside0.mk ((by rw [hg]; exact (below_size (by repeat (first | (with_reducible first | exact HB.out | apply below_alloc | apply pw_below_drewN | apply below_drew1) | exact HB.out))) : w.heap.size ≤ gb374)); clear HB; have HB := n0_; have BK374 := n1_; have GW374 := n2_; have GE374 := n3_; clear n0_ n1_ n2_ n3_; clear hb hbox hg) | ((with_reducible refine gate_dst (N := 4) rfl ?_); refine box_event ?hg (N := 4) ?hd (cs := #[.int .i64 a1_0, .int .i64 a1_1, .string a1_2]) (t := 23) ?hr ?_; (case hd => rfl); (case hg => rfl); (case hr => first | (go_simp; done) | (go_simp; rfl)); intro gb375 hg w11 hbox hb; have n0_ := Aside0.mk (blk_below (g := gb374) (o := .cells #[.int .i64 a0_0, .int .i64 a0_1, .string a0_2] 23 (0, 0)) (by (with_reducible repeat (first | refine blk_drewN ?_ _ | refine blk_drew ?_ | refine blk_alloc ?_ _)); exact BK374.out) hb); have n1_ := Aside0.mk (below_step (by repeat (first | (with_reducible first | exact HB.out | apply below_alloc | apply pw_below_drewN | apply below_drew1 | refine below_set ?_ GE374.out) | exact HB.out)) hb); have n2_ := Aside0.mk (hbox); have n3_ := Aside0.mk ((by rw [hg]; exact (below_size (by repeat (first | (with_reducible first | exact HB.out | apply below_alloc | apply pw_below_drewN | apply below_drew1 | refine below_set ?_ GE374.out) | exact HB.out))) : w.heap.size ≤ gb375)); have n4_ := Aside0.mk ((by rw [hg]; exact (below_size (by repeat (first | (with_reducible first | exact HB.out | apply below_alloc | apply pw_below_drewN | apply below_drew1 | refine below_set ?_ GE374.out) | exact HB.out))) : w.heap.size ≤ gb375)); have n5_ := Aside0.mk ((by rw [hg]; exact Nat.ne_of_lt (blk_lt (g := gb374) (o := .cells #[.int .i64 a0_0, .int .i64 a0_1, .string a0_2] 23 (0, 0)) (by (with_reducible repeat (first | refine blk_drewN ?_ _ | refine blk_drew ?_ | refine blk_alloc ?_ _)); exact BK374.out)) : gb374 ≠ gb375)); have n6_ := Aside0.mk ((by rw [hg]; exact Nat.ne_of_gt (blk_lt (g := gb374) (o := .cells #[.int .i64 a0_0, .int .i64 a0_1, .string a0_2] 23 (0, 0)) (by (with_reducible repeat (first | refine blk_drewN ?_ _ | refine blk_drew ?_ | refine blk_alloc ?_ _)); exact BK374.out)) : gb375 ≠ gb374)); clear BK374; clear HB; have BK374 := n0_; have HB := n1_; have BK375 := n2_; have GW375 := n3_; have GE375 := n4_; have NB374_375 := n5_; have NB375_374 := n6_; clear n0_ n1_ n2_ n3_ n4_ n5_ n6_; clear hb hbox hg) | ((with_reducible refine gate_dst (N := 5) rfl ?_); refine box_event ?hg (N := 5) ?hd (cs := #[.int .i64 a2_0, .int .i64 a2_1, .string a2_2]) (t := 23) ?hr ?_; (case hd => rfl); (case hg => rfl); (case hr => first | (go_simp; done) | (go_simp; rfl)); intro gb376 hg w12 hbox hb; have n0_ := Aside0.mk (blk_below (g := gb374) (o := .cells #[.int .i64 a0_0, .int .i64 a0_1, .string a0_2] 23 (0, 0)) (by (with_reducible repeat (first | refine blk_drewN ?_ _ | refine blk_drew ?_ | refine blk_alloc ?_ _)); exact BK374.out) hb); have n1_ := Aside0.mk (blk_below (g := gb375) (o := .cells #[.int .i64 a1_0, .int .i64 a1_1, .string a1_2] 23 (0, 0)) (by (with_reducible repeat (first | refine blk_drewN ?_ _ | refine blk_drew ?_ | refine blk_alloc ?_ _)); exact BK375.out) hb); have n2_ := Aside0.mk (below_step (by repeat (first | (with_reducible first | exact HB.out | apply below_alloc | apply pw_below_drewN | apply below_drew1 | refine below_set ?_ GE374.out | refine below_set ?_ GE375.out) | exact HB.out)) hb); have n3_ := Aside0.mk (hbox); have n4_ := Aside0.mk ((by rw [hg]; exact (below_size (by repeat (first | (with_reducible first | exact HB.out | apply below_alloc | apply pw_below_drewN | apply below_drew1 | refine below_set ?_ GE374.out | refine below_set ?_ GE375.out) | exact HB.out))) : w.heap.size ≤ gb376)); have n5_ := Aside0.mk ((by rw [hg]; exact (below_size (by repeat (first | (with_reducible first | exact HB.out | apply below_alloc | apply pw_below_drewN | apply below_drew1 | refine below_set ?_ GE374.out | refine below_set ?_ GE375.out) | exact HB.out))) : w.heap.size ≤ gb376)); have n6_ := Aside0.mk ((by rw [hg]; exact Nat.ne_of_lt (blk_lt (g := gb374) (o := .cells #[.int .i64 a0_0, .int .i64 a0_1, .string a0_2] 23 (0, 0)) (by (with_reducible repeat (first | refine blk_drewN ?_ _ | refine blk_drew ?_ | refine blk_alloc ?_ _)); exact BK374.out)) : gb374 ≠ gb376)); have n7_ := Aside0.mk ((by rw [hg]; exact Nat.ne_of_gt (blk_lt (g := gb374) (o := .cells #[.int .i64 a0_0, .int .i64 a0_1, .string a0_2] 23 (0, 0)) (by (with_reducible repeat (first | refine blk_drewN ?_ _ | refine blk_drew ?_ | refine blk_alloc ?_ _)); exact BK374.out)) : gb376 ≠ gb374)); have n8_ := Aside0.mk ((by rw [hg]; exact Nat.ne_of_lt (blk_lt (g := gb375) (o := .cells #[.int .i64 a1_0, .int .i64 a1_1, .string a1_2] 23 (0, 0)) (by (with_reducible repeat (first | refine blk_drewN ?_ _ | refine blk_drew ?_ | refine blk_alloc ?_ _)); exact BK375.out)) : gb375 ≠ gb376)); have n9_ := Aside0.mk ((by rw [hg]; exact Nat.ne_of_gt (blk_lt (g := gb375) (o := .cells #[.int .i64 a1_0, .int .i64 a1_1, .string a1_2] 23 (0, 0)) (by (with_reducible repeat (first | refine blk_drewN ?_ _ | refine blk_drew ?_ | refine blk_alloc ?_ _)); exact BK375.out)) : gb376 ≠ gb375)); clear BK374; clear BK375; clear HB; have BK374 := n0_; have BK375 := n1_; have HB := n2_; have BK376 := n3_; have GW376 := n4_; have GE376 := n5_; have NB374_376 := n6_; have NB376_374 := n7_; have NB375_376 := n8_; have NB376_375 := n9_; clear n0_ n1_ n2_ n3_ n4_ n5_ n6_ n7_ n8_ n9_; clear hb hbox hg) | ((with_reducible refine gate_callee (f := 12) rfl ?_); refine goesL_ (some 17) rfl rfl Tryd.func12 (by kernel_rfl) rfl #[] rfl (by (try simp only [List.map_toArray, List.map_cons, List.map_nil]); first | done | rfl | (simp only [List.length_drop, List.length_take]; rfl)) ?_; (with_reducible refine (unisonlaw01_awake.calls k  t377 _ A4.out).mono ?_); rintro e w13 ⟨rfl, hb⟩; refine ⟨_, rfl, ?_⟩; have n0_ := Aside0.mk (blk_below (g := gb374) (o := .cells #[.int .i64 a0_0, .int .i64 a0_1, .string a0_2] 23 (0, 0)) (by (with_reducible repeat (first | refine blk_drewN ?_ _ | refine blk_drew ?_ | refine blk_alloc ?_ _)); exact BK374.out) hb); have n1_ := Aside0.mk (blk_below (g := gb375) (o := .cells #[.int .i64 a1_0, .int .i64 a1_1, .string a1_2] 23 (0, 0)) (by (with_reducible repeat (first | refine blk_drewN ?_ _ | refine blk_drew ?_ | refine blk_alloc ?_ _)); exact BK375.out) hb); have n2_ := Aside0.mk (blk_below (g := gb376) (o := .cells #[.int .i64 a2_0, .int .i64 a2_1, .string a2_2] 23 (0, 0)) (by (with_reducible repeat (first | refine blk_drewN ?_ _ | refine blk_drew ?_ | refine blk_alloc ?_ _)); exact BK376.out) hb); have n3_ := Aside0.mk (below_step (by repeat (first | (with_reducible first | exact HB.out | apply below_alloc | apply pw_below_drewN | apply below_drew1 | refine below_set ?_ GE374.out | refine below_set ?_ GE375.out | refine below_set ?_ GE376.out) | exact HB.out)) hb); clear BK374; clear BK375; clear BK376; clear HB; have BK374 := n0_; have BK375 := n1_; have BK376 := n2_; have HB := n3_; clear n0_ n1_ n2_ n3_; (try clear hb); (try clear hb2); (try clear hk); (try clear hi); have hnb14 := NB374_375.out; have hnc14 := NB375_374.out; have hnb15 := NB374_376.out; have hnc15 := NB376_374.out; have hcz16_0 : w13.cell? ⟨gb374, 0, none⟩ = some (.int .i64 a0_0) := (blk_cell BK374.out 0).trans rfl; have hcz16_1 : w13.cell? ⟨gb374, 1, none⟩ = some (.int .i64 a0_1) := (blk_cell BK374.out 1).trans rfl; have hcz16_2 : w13.cell? ⟨gb374, 2, none⟩ = some (.string a0_2) := (blk_cell BK374.out 2).trans rfl; have hfz16_0 := blk_frozen BK374.out 0; have hfz16_1 := blk_frozen BK374.out 1; have hfz16_2 := blk_frozen BK374.out 2; have hnb17 := NB375_376.out; have hnc17 := NB376_375.out; have hcz18_0 : w13.cell? ⟨gb375, 0, none⟩ = some (.int .i64 a1_0) := (blk_cell BK375.out 0).trans rfl; have hcz18_1 : w13.cell? ⟨gb375, 1, none⟩ = some (.int .i64 a1_1) := (blk_cell BK375.out 1).trans rfl; have hcz18_2 : w13.cell? ⟨gb375, 2, none⟩ = some (.string a1_2) := (blk_cell BK375.out 2).trans rfl; have hfz18_0 := blk_frozen BK375.out 0; have hfz18_1 := blk_frozen BK375.out 1; have hfz18_2 := blk_frozen BK375.out 2) | ((with_reducible refine gate_callee (f := 15) rfl ?_); refine goesL_ (some 20) rfl rfl Tryd.func15 (by kernel_rfl) rfl #[.agg #[.int .i64 a0_0, .int .i64 a0_1, .string a0_2], .agg #[.int .i64 a1_0, .int .i64 a1_1, .string a1_2]] rfl (by (try simp only [List.map_toArray, List.map_cons, List.map_nil]); first | done | rfl | (simp only [List.length_drop, List.length_take]; rfl)) ?_; (with_reducible refine (value_Order.calls k a0_0 a0_1 a0_2 a1_0 a1_1 a1_2 t378 _ A5.out).mono ?_); rintro e w19 ⟨rfl, hb⟩; refine ⟨_, rfl, ?_⟩; have n0_ := Aside0.mk (blk_below (g := gb374) (o := .cells #[.int .i64 a0_0, .int .i64 a0_1, .string a0_2] 23 (0, 0)) (by (with_reducible repeat (first | refine blk_drewN ?_ _ | refine blk_drew ?_ | refine blk_alloc ?_ _)); exact BK374.out) hb); have n1_ := Aside0.mk (blk_below (g := gb375) (o := .cells #[.int .i64 a1_0, .int .i64 a1_1, .string a1_2] 23 (0, 0)) (by (with_reducible repeat (first | refine blk_drewN ?_ _ | refine blk_drew ?_ | refine blk_alloc ?_ _)); exact BK375.out) hb); have n2_ := Aside0.mk (blk_below (g := gb376) (o := .cells #[.int .i64 a2_0, .int .i64 a2_1, .string a2_2] 23 (0, 0)) (by (with_reducible repeat (first | refine blk_drewN ?_ _ | refine blk_drew ?_ | refine blk_alloc ?_ _)); exact BK376.out) hb); have n3_ := Aside0.mk (below_step (by repeat (first | (with_reducible first | exact HB.out | apply below_alloc | apply pw_below_drewN | apply below_drew1 | refine below_set ?_ GE374.out | refine below_set ?_ GE375.out | refine below_set ?_ GE376.out) | exact HB.out)) hb); clear BK374; clear BK375; clear BK376; clear HB; have BK374 := n0_; have BK375 := n1_; have BK376 := n2_; have HB := n3_; clear n0_ n1_ n2_ n3_; (try clear hb); (try clear hb2); (try clear hk); (try clear hi); have hcz20_0 : w19.cell? ⟨gb375, 0, none⟩ = some (.int .i64 a1_0) := (blk_cell BK375.out 0).trans rfl; have hcz20_1 : w19.cell? ⟨gb375, 1, none⟩ = some (.int .i64 a1_1) := (blk_cell BK375.out 1).trans rfl; have hcz20_2 : w19.cell? ⟨gb375, 2, none⟩ = some (.string a1_2) := (blk_cell BK375.out 2).trans rfl; have hfz20_0 := blk_frozen BK375.out 0; have hfz20_1 := blk_frozen BK375.out 1; have hfz20_2 := blk_frozen BK375.out 2; have hcz21_0 : w19.cell? ⟨gb374, 0, none⟩ = some (.int .i64 a0_0) := (blk_cell BK374.out 0).trans rfl; have hcz21_1 : w19.cell? ⟨gb374, 1, none⟩ = some (.int .i64 a0_1) := (blk_cell BK374.out 1).trans rfl; have hcz21_2 : w19.cell? ⟨gb374, 2, none⟩ = some (.string a0_2) := (blk_cell BK374.out 2).trans rfl; have hfz21_0 := blk_frozen BK374.out 0; have hfz21_1 := blk_frozen BK374.out 1; have hfz21_2 := blk_frozen BK374.out 2) | ((with_reducible refine gate_callee (f := 15) rfl ?_); refine goesL_ (some 23) rfl rfl Tryd.func15 (by kernel_rfl) rfl #[.agg #[.int .i64 a1_0, .int .i64 a1_1, .string a1_2], .agg #[.int .i64 a0_0, .int .i64 a0_1, .string a0_2]] rfl (by (try simp only [List.map_toArray, List.map_cons, List.map_nil]); first | done | rfl | (simp only [List.length_drop, List.length_take]; rfl)) ?_; (with_reducible refine (value_Order.calls k a1_0 a1_1 a1_2 a0_0 a0_1 a0_2 t379 _ A6.out).mono ?_); rintro e w22 ⟨rfl, hb⟩; refine ⟨_, rfl, ?_⟩; have n0_ := Aside0.mk (blk_below (g := gb374) (o := .cells #[.int .i64 a0_0, .int .i64 a0_1, .string a0_2] 23 (0, 0)) (by (with_reducible repeat (first | refine blk_drewN ?_ _ | refine blk_drew ?_ | refine blk_alloc ?_ _)); exact BK374.out) hb); have n1_ := Aside0.mk (blk_below (g := gb375) (o := .cells #[.int .i64 a1_0, .int .i64 a1_1, .string a1_2] 23 (0, 0)) (by (with_reducible repeat (first | refine blk_drewN ?_ _ | refine blk_drew ?_ | refine blk_alloc ?_ _)); exact BK375.out) hb); have n2_ := Aside0.mk (blk_below (g := gb376) (o := .cells #[.int .i64 a2_0, .int .i64 a2_1, .string a2_2] 23 (0, 0)) (by (with_reducible repeat (first | refine blk_drewN ?_ _ | refine blk_drew ?_ | refine blk_alloc ?_ _)); exact BK376.out) hb); have n3_ := Aside0.mk (below_step (by repeat (first | (with_reducible first | exact HB.out | apply below_alloc | apply pw_below_drewN | apply below_drew1 | refine below_set ?_ GE374.out | refine below_set ?_ GE375.out | refine below_set ?_ GE376.out) | exact HB.out)) hb); clear BK374; clear BK375; clear BK376; clear HB; have BK374 := n0_; have BK375 := n1_; have BK376 := n2_; have HB := n3_; clear n0_ n1_ n2_ n3_; (try clear hb); (try clear hb2); (try clear hk); (try clear hi); have hcz23_0 : w22.cell? ⟨gb375, 0, none⟩ = some (.int .i64 a1_0) := (blk_cell BK375.out 0).trans rfl; have hcz23_1 : w22.cell? ⟨gb375, 1, none⟩ = some (.int .i64 a1_1) := (blk_cell BK375.out 1).trans rfl; have hcz23_2 : w22.cell? ⟨gb375, 2, none⟩ = some (.string a1_2) := (blk_cell BK375.out 2).trans rfl; have hfz23_0 := blk_frozen BK375.out 0; have hfz23_1 := blk_frozen BK375.out 1; have hfz23_2 := blk_frozen BK375.out 2; have hcz24_0 : w22.cell? ⟨gb376, 0, none⟩ = some (.int .i64 a2_0) := (blk_cell BK376.out 0).trans rfl; have hcz24_1 : w22.cell? ⟨gb376, 1, none⟩ = some (.int .i64 a2_1) := (blk_cell BK376.out 1).trans rfl; have hcz24_2 : w22.cell? ⟨gb376, 2, none⟩ = some (.string a2_2) := (blk_cell BK376.out 2).trans rfl; have hfz24_0 := blk_frozen BK376.out 0; have hfz24_1 := blk_frozen BK376.out 1; have hfz24_2 := blk_frozen BK376.out 2) | ((with_reducible refine gate_callee (f := 15) rfl ?_); refine goesL_ (some 26) rfl rfl Tryd.func15 (by kernel_rfl) rfl #[.agg #[.int .i64 a1_0, .int .i64 a1_1, .string a1_2], .agg #[.int .i64 a2_0, .int .i64 a2_1, .string a2_2]] rfl (by (try simp only [List.map_toArray, List.map_cons, List.map_nil]); first | done | rfl | (simp only [List.length_drop, List.length_take]; rfl)) ?_; (with_reducible refine (value_Order.calls k a1_0 a1_1 a1_2 a2_0 a2_1 a2_2 t380 _ A7.out).mono ?_); rintro e w25 ⟨rfl, hb⟩; refine ⟨_, rfl, ?_⟩; have n0_ := Aside0.mk (blk_below (g := gb374) (o := .cells #[.int .i64 a0_0, .int .i64 a0_1, .string a0_2] 23 (0, 0)) (by (with_reducible repeat (first | refine blk_drewN ?_ _ | refine blk_drew ?_ | refine blk_alloc ?_ _)); exact BK374.out) hb); have n1_ := Aside0.mk (blk_below (g := gb375) (o := .cells #[.int .i64 a1_0, .int .i64 a1_1, .string a1_2] 23 (0, 0)) (by (with_reducible repeat (first | refine blk_drewN ?_ _ | refine blk_drew ?_ | refine blk_alloc ?_ _)); exact BK375.out) hb); have n2_ := Aside0.mk (blk_below (g := gb376) (o := .cells #[.int .i64 a2_0, .int .i64 a2_1, .string a2_2] 23 (0, 0)) (by (with_reducible repeat (first | refine blk_drewN ?_ _ | refine blk_drew ?_ | refine blk_alloc ?_ _)); exact BK376.out) hb); have n3_ := Aside0.mk (below_step (by repeat (first | (with_reducible first | exact HB.out | apply below_alloc | apply pw_below_drewN | apply below_drew1 | refine below_set ?_ GE374.out | refine below_set ?_ GE375.out | refine below_set ?_ GE376.out) | exact HB.out)) hb); clear BK374; clear BK375; clear BK376; clear HB; have BK374 := n0_; have BK375 := n1_; have BK376 := n2_; have HB := n3_; clear n0_ n1_ n2_ n3_; (try clear hb); (try clear hb2); (try clear hk); (try clear hi); have hcz26_0 : w25.cell? ⟨gb374, 0, none⟩ = some (.int .i64 a0_0) := (blk_cell BK374.out 0).trans rfl; have hcz26_1 : w25.cell? ⟨gb374, 1, none⟩ = some (.int .i64 a0_1) := (blk_cell BK374.out 1).trans rfl; have hcz26_2 : w25.cell? ⟨gb374, 2, none⟩ = some (.string a0_2) := (blk_cell BK374.out 2).trans rfl; have hfz26_0 := blk_frozen BK374.out 0; have hfz26_1 := blk_frozen BK374.out 1; have hfz26_2 := blk_frozen BK374.out 2; have hcz27_0 : w25.cell? ⟨gb376, 0, none⟩ = some (.int .i64 a2_0) := (blk_cell BK376.out 0).trans rfl; have hcz27_1 : w25.cell? ⟨gb376, 1, none⟩ = some (.int .i64 a2_1) := (blk_cell BK376.out 1).trans rfl; have hcz27_2 : w25.cell? ⟨gb376, 2, none⟩ = some (.string a2_2) := (blk_cell BK376.out 2).trans rfl; have hfz27_0 := blk_frozen BK376.out 0; have hfz27_1 := blk_frozen BK376.out 1; have hfz27_2 := blk_frozen BK376.out 2) | ((with_reducible refine gate_callee (f := 15) rfl ?_); refine goesL_ (some 29) rfl rfl Tryd.func15 (by kernel_rfl) rfl #[.agg #[.int .i64 a0_0, .int .i64 a0_1, .string a0_2], .agg #[.int .i64 a2_0, .int .i64 a2_1, .string a2_2]] rfl (by (try simp only [List.map_toArray, List.map_cons, List.map_nil]); first | done | rfl | (simp only [List.length_drop, List.length_take]; rfl)) ?_; (with_reducible refine (value_Order.calls k a0_0 a0_1 a0_2 a2_0 a2_1 a2_2 t381 _ A8.out).mono ?_); rintro e w28 ⟨rfl, hb⟩; refine ⟨_, rfl, ?_⟩; have n0_ := Aside0.mk (blk_below (g := gb374) (o := .cells #[.int .i64 a0_0, .int .i64 a0_1, .string a0_2] 23 (0, 0)) (by (with_reducible repeat (first | refine blk_drewN ?_ _ | refine blk_drew ?_ | refine blk_alloc ?_ _)); exact BK374.out) hb); have n1_ := Aside0.mk (blk_below (g := gb375) (o := .cells #[.int .i64 a1_0, .int .i64 a1_1, .string a1_2] 23 (0, 0)) (by (with_reducible repeat (first | refine blk_drewN ?_ _ | refine blk_drew ?_ | refine blk_alloc ?_ _)); exact BK375.out) hb); have n2_ := Aside0.mk (blk_below (g := gb376) (o := .cells #[.int .i64 a2_0, .int .i64 a2_1, .string a2_2] 23 (0, 0)) (by (with_reducible repeat (first | refine blk_drewN ?_ _ | refine blk_drew ?_ | refine blk_alloc ?_ _)); exact BK376.out) hb); have n3_ := Aside0.mk (below_step (by repeat (first | (with_reducible first | exact HB.out | apply below_alloc | apply pw_below_drewN | apply below_drew1 | refine below_set ?_ GE374.out | refine below_set ?_ GE375.out | refine below_set ?_ GE376.out) | exact HB.out)) hb); clear BK374; clear BK375; clear BK376; clear HB; have BK374 := n0_; have BK375 := n1_; have BK376 := n2_; have HB := n3_; clear n0_ n1_ n2_ n3_; (try clear hb); (try clear hb2); (try clear hk); (try clear hi)))
 (try simp only [Act.put, List.setIfInBounds_toArray, List.set_cons_zero, List.set_cons_succ])
 go_cut [12] (fun v12 wc => ∃ (kq : Nat) (x12_8 : Int), v12 = .int .i64 x12_8 ∧ Aside0 (unisonlaw01_ValueOrderly.j0 kq t377 t378 t379 t380 t381 x12_8 a0_0 a0_1 a0_2 a1_0 a1_1 a1_2 = some r) ∧ Aside0 (kq ≤ k) ∧ Aside0 (wc.heap[gb374]? = some (.cells #[.int .i64 a0_0, .int .i64 a0_1, .string a0_2] 23 (0, 0))) ∧ Aside0 (wc.heap[gb375]? = some (.cells #[.int .i64 a1_0, .int .i64 a1_1, .string a1_2] 23 (0, 0))) ∧ Aside0 (wc.heap[gb376]? = some (.cells #[.int .i64 a2_0, .int .i64 a2_1, .string a2_2] 23 (0, 0))) ∧ Aside0 (Below w.heap.size w wc))
 case first =>
  have H := HC9.out
  clear HC9
  replace H := Option.bind_eq_some_iff.mp H
  obtain ⟨t382, A290, H⟩ := H
  replace H : (unisonlaw01_ValueOrderly.j0 k t377 t378 t379 t380 t381 t382 a0_0 a0_1 a0_2 a1_0 a1_1 a1_2) = some r := H
  have A29 := Aside0.mk A290
  clear A290
  have H' := Aside0.mk H
  clear H
  have hnb30 := NB374_375.out
  have hnc30 := NB375_374.out
  have hnb31 := NB374_376.out
  have hnc31 := NB376_374.out
  have hcz32_0 : w28.cell? ⟨gb374, 0, none⟩ = some (.int .i64 a0_0) := (blk_cell BK374.out 0).trans rfl
  have hcz32_1 : w28.cell? ⟨gb374, 1, none⟩ = some (.int .i64 a0_1) := (blk_cell BK374.out 1).trans rfl
  have hcz32_2 : w28.cell? ⟨gb374, 2, none⟩ = some (.string a0_2) := (blk_cell BK374.out 2).trans rfl
  have hfz32_0 := blk_frozen BK374.out 0
  have hfz32_1 := blk_frozen BK374.out 1
  have hfz32_2 := blk_frozen BK374.out 2
  go_wp2_with (first | ((with_reducible refine gate_callee (f := 15) rfl ?_); refine goesL_ (some 32) rfl rfl Tryd.func15 (by kernel_rfl) rfl #[.agg #[.int .i64 a0_0, .int .i64 a0_1, .string a0_2], .agg #[.int .i64 a0_0, .int .i64 a0_1, .string a0_2]] rfl (by (try simp only [List.map_toArray, List.map_cons, List.map_nil]); first | done | rfl | (simp only [List.length_drop, List.length_take]; rfl)) ?_; (with_reducible refine (value_Order.calls k a0_0 a0_1 a0_2 a0_0 a0_1 a0_2 t382 _ A29.out).mono ?_); rintro e w33 ⟨rfl, hb⟩; refine ⟨_, rfl, ?_⟩; have n0_ := Aside0.mk (blk_below (g := gb374) (o := .cells #[.int .i64 a0_0, .int .i64 a0_1, .string a0_2] 23 (0, 0)) (by (with_reducible repeat (first | refine blk_drewN ?_ _ | refine blk_drew ?_ | refine blk_alloc ?_ _)); exact BK374.out) hb); have n1_ := Aside0.mk (blk_below (g := gb375) (o := .cells #[.int .i64 a1_0, .int .i64 a1_1, .string a1_2] 23 (0, 0)) (by (with_reducible repeat (first | refine blk_drewN ?_ _ | refine blk_drew ?_ | refine blk_alloc ?_ _)); exact BK375.out) hb); have n2_ := Aside0.mk (blk_below (g := gb376) (o := .cells #[.int .i64 a2_0, .int .i64 a2_1, .string a2_2] 23 (0, 0)) (by (with_reducible repeat (first | refine blk_drewN ?_ _ | refine blk_drew ?_ | refine blk_alloc ?_ _)); exact BK376.out) hb); have n3_ := Aside0.mk (below_step (by repeat (first | (with_reducible first | exact HB.out | apply below_alloc | apply pw_below_drewN | apply below_drew1 | refine below_set ?_ GE374.out | refine below_set ?_ GE375.out | refine below_set ?_ GE376.out) | exact HB.out)) hb); clear BK374; clear BK375; clear BK376; clear HB; have BK374 := n0_; have BK375 := n1_; have BK376 := n2_; have HB := n3_; clear n0_ n1_ n2_ n3_; (try clear hb); (try clear hb2); (try clear hk); (try clear hi)))
  go_meet
  case rel => exact ⟨_, (t382), (by first | rfl | (simp; done) | (simp [*]; done)), H', ⟨by first | omega | exact Nat.le_refl _⟩, ⟨by (with_reducible repeat (first | refine blk_drewN ?_ _ | refine blk_drew ?_ | refine blk_alloc ?_ _)); exact BK374.out⟩, ⟨by (with_reducible repeat (first | refine blk_drewN ?_ _ | refine blk_drew ?_ | refine blk_alloc ?_ _)); exact BK375.out⟩, ⟨by (with_reducible repeat (first | refine blk_drewN ?_ _ | refine blk_drew ?_ | refine blk_alloc ?_ _)); exact BK376.out⟩, ⟨by repeat (first | (with_reducible first | exact HB.out | apply below_alloc | apply pw_below_drewN | apply below_drew1 | refine below_set ?_ GE374.out | refine below_set ?_ GE375.out | refine below_set ?_ GE376.out) | exact HB.out)⟩⟩
 case rest =>
  clear HC9
  try clear c1
  try clear p2
  try clear c3
  try clear c5
  try clear c12
  try clear c14
  try clear c15
  try clear c17
  try clear c30
  try clear c31
  try clear hcz16_0
  try clear hcz16_1
  try clear hcz16_2
  try clear hcz18_0
  try clear hcz18_1
  try clear hcz18_2
  try clear hcz20_0
  try clear hcz20_1
  try clear hcz20_2
  try clear hcz21_0
  try clear hcz21_1
  try clear hcz21_2
  try clear hcz23_0
  try clear hcz23_1
  try clear hcz23_2
  try clear hcz24_0
  try clear hcz24_1
  try clear hcz24_2
  try clear hcz26_0
  try clear hcz26_1
  try clear hcz26_2
  try clear hcz27_0
  try clear hcz27_1
  try clear hcz27_2
  try clear hcz32_0
  try clear hcz32_1
  try clear hcz32_2
  try clear hfz16_0
  try clear hfz16_1
  try clear hfz16_2
  try clear hfz18_0
  try clear hfz18_1
  try clear hfz18_2
  try clear hfz20_0
  try clear hfz20_1
  try clear hfz20_2
  try clear hfz21_0
  try clear hfz21_1
  try clear hfz21_2
  try clear hfz23_0
  try clear hfz23_1
  try clear hfz23_2
  try clear hfz24_0
  try clear hfz24_1
  try clear hfz24_2
  try clear hfz26_0
  try clear hfz26_1
  try clear hfz26_2
  try clear hfz27_0
  try clear hfz27_1
  try clear hfz27_2
  try clear hfz32_0
  try clear hfz32_1
  try clear hfz32_2
  obtain ⟨kq, x12_8, rfl, HA, HJ8, BK374, BK375, BK376, HB⟩ := hcut
  cases kq with
  | zero => exact absurd HA.out (by simp [unisonlaw01_ValueOrderly.j0])
  | succ kj8 =>
   have H := HA.out
   clear HA
   simp only [unisonlaw01_ValueOrderly.j0] at H
   have HC34 := Aside0.mk H
   clear H
   go_upto_region 7 with (fail)
   go_cut [80] (fun v80 wc => ∃ (kq : Nat) (x80_33 : Bool), v80 = .bool x80_33 ∧ Aside0 (unisonlaw01_ValueOrderly.j1 kq t377 t378 x80_33 a0_0 a0_1 a0_2 a1_0 a1_1 a1_2 = some r) ∧ Aside0 (kq ≤ kj8) ∧ Aside0 (wc.heap[gb374]? = some (.cells #[.int .i64 a0_0, .int .i64 a0_1, .string a0_2] 23 (0, 0))) ∧ Aside0 (wc.heap[gb375]? = some (.cells #[.int .i64 a1_0, .int .i64 a1_1, .string a1_2] 23 (0, 0))) ∧ Aside0 (wc.heap[gb376]? = some (.cells #[.int .i64 a2_0, .int .i64 a2_1, .string a2_2] 23 (0, 0))) ∧ Aside0 (Below w.heap.size w wc))
   case first =>
    have H := HC34.out
    clear HC34
    by_cases c35 : t378 = (wrap64 (-t379))
    ·
     rw [if_pos c35] at H
     have c35b0 : (t378 == (wrap64 (-t379))) = true := beq_iff_eq.mpr c35
     have c35b1 : (t378 != (wrap64 (-t379))) = false := bne_eq_false_iff_eq.mpr c35
     clear c35
     (first | rw [c35b0] | (simp only [i64_w, i32_w, u8_w, u32_w]; rw [c35b0]) | rw [c35b1] | skip)
     by_cases c36 : x12_8 = 0
     ·
      rw [if_pos c36] at H
      have c36b0 : (x12_8 == 0) = true := beq_iff_eq.mpr c36
      have c36b1 : (x12_8 != 0) = false := bne_eq_false_iff_eq.mpr c36
      clear c36
      by_cases c37 : ((t378 == 0) != (a0_0 == a1_0 && (a0_1 == a1_1 && (a0_2.toList == a1_2.toList)))) = true
      ·
       rw [if_pos c37] at H
       have c37b0 : ((t378 == 0) != (a0_0 == a1_0 && (a0_1 == a1_1 && (a0_2.toList == a1_2.toList)))) = true := c37
       (try (have c37b1 : decide ((t378 == 0) = (a0_0 == a1_0 && (a0_1 == a1_1 && (a0_2.toList == a1_2.toList)))) = false := by simpa using c37))
       (try (have c37b2 : ((t378 == 0) == (a0_0 == a1_0 && (a0_1 == a1_1 && (a0_2.toList == a1_2.toList)))) = false := by simpa using c37))
       (try (have c37b3 : ¬ ((t378 == 0) = (a0_0 == a1_0 && (a0_1 == a1_1 && (a0_2.toList == a1_2.toList)))) := by simpa using c37))
       clear c37
       have H' := Aside0.mk H
       clear H
       have hnb38 := NB374_375.out
       have hnc38 := NB375_374.out
       have hnb39 := NB374_376.out
       have hnc39 := NB376_374.out
       have hcz40_0 : wc.cell? ⟨gb374, 0, none⟩ = some (.int .i64 a0_0) := (blk_cell BK374.out 0).trans rfl
       have hcz40_1 : wc.cell? ⟨gb374, 1, none⟩ = some (.int .i64 a0_1) := (blk_cell BK374.out 1).trans rfl
       have hcz40_2 : wc.cell? ⟨gb374, 2, none⟩ = some (.string a0_2) := (blk_cell BK374.out 2).trans rfl
       have hfz40_0 := blk_frozen BK374.out 0
       have hfz40_1 := blk_frozen BK374.out 1
       have hfz40_2 := blk_frozen BK374.out 2
       have hnb41 := NB375_376.out
       have hnc41 := NB376_375.out
       have hcz42_0 : wc.cell? ⟨gb375, 0, none⟩ = some (.int .i64 a1_0) := (blk_cell BK375.out 0).trans rfl
       have hcz42_1 : wc.cell? ⟨gb375, 1, none⟩ = some (.int .i64 a1_1) := (blk_cell BK375.out 1).trans rfl
       have hcz42_2 : wc.cell? ⟨gb375, 2, none⟩ = some (.string a1_2) := (blk_cell BK375.out 2).trans rfl
       have hfz42_0 := blk_frozen BK375.out 0
       have hfz42_1 := blk_frozen BK375.out 1
       have hfz42_2 := blk_frozen BK375.out 2
       go_wp2
       go_meet
       case rel => exact ⟨_, (true), (by first | rfl | (simp; done) | (simp [*]; done)), H', ⟨by have := HJ8.out; first | omega | exact Nat.le_refl _⟩, ⟨by (with_reducible repeat (first | refine blk_drewN ?_ _ | refine blk_drew ?_ | refine blk_alloc ?_ _)); exact BK374.out⟩, ⟨by (with_reducible repeat (first | refine blk_drewN ?_ _ | refine blk_drew ?_ | refine blk_alloc ?_ _)); exact BK375.out⟩, ⟨by (with_reducible repeat (first | refine blk_drewN ?_ _ | refine blk_drew ?_ | refine blk_alloc ?_ _)); exact BK376.out⟩, ⟨by repeat (first | (with_reducible first | exact HB.out | apply below_alloc | apply pw_below_drewN | apply below_drew1 | refine below_set ?_ GE374.out | refine below_set ?_ GE375.out | refine below_set ?_ GE376.out) | exact HB.out)⟩⟩
      ·
       rw [if_neg c37] at H
       have c37b0 : ((t378 == 0) != (a0_0 == a1_0 && (a0_1 == a1_1 && (a0_2.toList == a1_2.toList)))) = false := by simpa using c37
       (try (have c37b1 : decide ((t378 == 0) = (a0_0 == a1_0 && (a0_1 == a1_1 && (a0_2.toList == a1_2.toList)))) = true := by simpa using c37))
       (try (have c37b2 : ((t378 == 0) == (a0_0 == a1_0 && (a0_1 == a1_1 && (a0_2.toList == a1_2.toList)))) = true := by simpa using c37))
       clear c37
       by_cases c43 : t378 < (-1)
       ·
        rw [if_pos c43] at H
        have c43b0 : decide (t378 < (-1)) = true := decide_eq_true c43
        clear c43
        have H' := Aside0.mk H
        clear H
        have hnb44 := NB374_375.out
        have hnc44 := NB375_374.out
        have hnb45 := NB374_376.out
        have hnc45 := NB376_374.out
        have hcz46_0 : wc.cell? ⟨gb374, 0, none⟩ = some (.int .i64 a0_0) := (blk_cell BK374.out 0).trans rfl
        have hcz46_1 : wc.cell? ⟨gb374, 1, none⟩ = some (.int .i64 a0_1) := (blk_cell BK374.out 1).trans rfl
        have hcz46_2 : wc.cell? ⟨gb374, 2, none⟩ = some (.string a0_2) := (blk_cell BK374.out 2).trans rfl
        have hfz46_0 := blk_frozen BK374.out 0
        have hfz46_1 := blk_frozen BK374.out 1
        have hfz46_2 := blk_frozen BK374.out 2
        have hnb47 := NB375_376.out
        have hnc47 := NB376_375.out
        have hcz48_0 : wc.cell? ⟨gb375, 0, none⟩ = some (.int .i64 a1_0) := (blk_cell BK375.out 0).trans rfl
        have hcz48_1 : wc.cell? ⟨gb375, 1, none⟩ = some (.int .i64 a1_1) := (blk_cell BK375.out 1).trans rfl
        have hcz48_2 : wc.cell? ⟨gb375, 2, none⟩ = some (.string a1_2) := (blk_cell BK375.out 2).trans rfl
        have hfz48_0 := blk_frozen BK375.out 0
        have hfz48_1 := blk_frozen BK375.out 1
        have hfz48_2 := blk_frozen BK375.out 2
        go_wp2
        go_meet
        case rel => exact ⟨_, (true), (by first | rfl | (simp; done) | (simp [*]; done)), H', ⟨by have := HJ8.out; first | omega | exact Nat.le_refl _⟩, ⟨by (with_reducible repeat (first | refine blk_drewN ?_ _ | refine blk_drew ?_ | refine blk_alloc ?_ _)); exact BK374.out⟩, ⟨by (with_reducible repeat (first | refine blk_drewN ?_ _ | refine blk_drew ?_ | refine blk_alloc ?_ _)); exact BK375.out⟩, ⟨by (with_reducible repeat (first | refine blk_drewN ?_ _ | refine blk_drew ?_ | refine blk_alloc ?_ _)); exact BK376.out⟩, ⟨by repeat (first | (with_reducible first | exact HB.out | apply below_alloc | apply pw_below_drewN | apply below_drew1 | refine below_set ?_ GE374.out | refine below_set ?_ GE375.out | refine below_set ?_ GE376.out) | exact HB.out)⟩⟩
       ·
        rw [if_neg c43] at H
        have c43b0 : decide (t378 < (-1)) = false := decide_eq_false c43
        clear c43
        by_cases c49 : t378 > 1
        ·
         rw [if_pos c49] at H
         have c49b0 : decide (1 < t378) = true := decide_eq_true c49
         clear c49
         have H' := Aside0.mk H
         clear H
         have hnb50 := NB374_375.out
         have hnc50 := NB375_374.out
         have hnb51 := NB374_376.out
         have hnc51 := NB376_374.out
         have hcz52_0 : wc.cell? ⟨gb374, 0, none⟩ = some (.int .i64 a0_0) := (blk_cell BK374.out 0).trans rfl
         have hcz52_1 : wc.cell? ⟨gb374, 1, none⟩ = some (.int .i64 a0_1) := (blk_cell BK374.out 1).trans rfl
         have hcz52_2 : wc.cell? ⟨gb374, 2, none⟩ = some (.string a0_2) := (blk_cell BK374.out 2).trans rfl
         have hfz52_0 := blk_frozen BK374.out 0
         have hfz52_1 := blk_frozen BK374.out 1
         have hfz52_2 := blk_frozen BK374.out 2
         have hnb53 := NB375_376.out
         have hnc53 := NB376_375.out
         have hcz54_0 : wc.cell? ⟨gb375, 0, none⟩ = some (.int .i64 a1_0) := (blk_cell BK375.out 0).trans rfl
         have hcz54_1 : wc.cell? ⟨gb375, 1, none⟩ = some (.int .i64 a1_1) := (blk_cell BK375.out 1).trans rfl
         have hcz54_2 : wc.cell? ⟨gb375, 2, none⟩ = some (.string a1_2) := (blk_cell BK375.out 2).trans rfl
         have hfz54_0 := blk_frozen BK375.out 0
         have hfz54_1 := blk_frozen BK375.out 1
         have hfz54_2 := blk_frozen BK375.out 2
         go_wp2
         go_meet
         case rel => exact ⟨_, (true), (by first | rfl | (simp; done) | (simp [*]; done)), H', ⟨by have := HJ8.out; first | omega | exact Nat.le_refl _⟩, ⟨by (with_reducible repeat (first | refine blk_drewN ?_ _ | refine blk_drew ?_ | refine blk_alloc ?_ _)); exact BK374.out⟩, ⟨by (with_reducible repeat (first | refine blk_drewN ?_ _ | refine blk_drew ?_ | refine blk_alloc ?_ _)); exact BK375.out⟩, ⟨by (with_reducible repeat (first | refine blk_drewN ?_ _ | refine blk_drew ?_ | refine blk_alloc ?_ _)); exact BK376.out⟩, ⟨by repeat (first | (with_reducible first | exact HB.out | apply below_alloc | apply pw_below_drewN | apply below_drew1 | refine below_set ?_ GE374.out | refine below_set ?_ GE375.out | refine below_set ?_ GE376.out) | exact HB.out)⟩⟩
        ·
         rw [if_neg c49] at H
         have c49b0 : decide (1 < t378) = false := decide_eq_false c49
         clear c49
         by_cases c55 : t378 ≤ 0
         ·
          rw [if_pos c55] at H
          have c55b0 : decide (t378 ≤ 0) = true := decide_eq_true c55
          clear c55
          by_cases c56 : t380 ≤ 0
          ·
           rw [if_pos c56] at H
           have c56b0 : decide (t380 ≤ 0) = true := decide_eq_true c56
           clear c56
           by_cases c57 : t381 > 0
           ·
            rw [if_pos c57] at H
            have c57b0 : decide (0 < t381) = true := decide_eq_true c57
            clear c57
            have H' := Aside0.mk H
            clear H
            have hnb58 := NB374_375.out
            have hnc58 := NB375_374.out
            have hnb59 := NB374_376.out
            have hnc59 := NB376_374.out
            have hcz60_0 : wc.cell? ⟨gb374, 0, none⟩ = some (.int .i64 a0_0) := (blk_cell BK374.out 0).trans rfl
            have hcz60_1 : wc.cell? ⟨gb374, 1, none⟩ = some (.int .i64 a0_1) := (blk_cell BK374.out 1).trans rfl
            have hcz60_2 : wc.cell? ⟨gb374, 2, none⟩ = some (.string a0_2) := (blk_cell BK374.out 2).trans rfl
            have hfz60_0 := blk_frozen BK374.out 0
            have hfz60_1 := blk_frozen BK374.out 1
            have hfz60_2 := blk_frozen BK374.out 2
            have hnb61 := NB375_376.out
            have hnc61 := NB376_375.out
            have hcz62_0 : wc.cell? ⟨gb375, 0, none⟩ = some (.int .i64 a1_0) := (blk_cell BK375.out 0).trans rfl
            have hcz62_1 : wc.cell? ⟨gb375, 1, none⟩ = some (.int .i64 a1_1) := (blk_cell BK375.out 1).trans rfl
            have hcz62_2 : wc.cell? ⟨gb375, 2, none⟩ = some (.string a1_2) := (blk_cell BK375.out 2).trans rfl
            have hfz62_0 := blk_frozen BK375.out 0
            have hfz62_1 := blk_frozen BK375.out 1
            have hfz62_2 := blk_frozen BK375.out 2
            go_wp2
            go_meet
            case rel => exact ⟨_, (true), (by first | rfl | (simp; done) | (simp [*]; done)), H', ⟨by have := HJ8.out; first | omega | exact Nat.le_refl _⟩, ⟨by (with_reducible repeat (first | refine blk_drewN ?_ _ | refine blk_drew ?_ | refine blk_alloc ?_ _)); exact BK374.out⟩, ⟨by (with_reducible repeat (first | refine blk_drewN ?_ _ | refine blk_drew ?_ | refine blk_alloc ?_ _)); exact BK375.out⟩, ⟨by (with_reducible repeat (first | refine blk_drewN ?_ _ | refine blk_drew ?_ | refine blk_alloc ?_ _)); exact BK376.out⟩, ⟨by repeat (first | (with_reducible first | exact HB.out | apply below_alloc | apply pw_below_drewN | apply below_drew1 | refine below_set ?_ GE374.out | refine below_set ?_ GE375.out | refine below_set ?_ GE376.out) | exact HB.out)⟩⟩
           ·
            rw [if_neg c57] at H
            have c57b0 : decide (0 < t381) = false := decide_eq_false c57
            clear c57
            by_cases c63 : t378 < 0
            ·
             rw [if_pos c63] at H
             have c63b0 : decide (t378 < 0) = true := decide_eq_true c63
             clear c63
             have H' := Aside0.mk H
             clear H
             have hnb64 := NB374_375.out
             have hnc64 := NB375_374.out
             have hnb65 := NB374_376.out
             have hnc65 := NB376_374.out
             have hcz66_0 : wc.cell? ⟨gb374, 0, none⟩ = some (.int .i64 a0_0) := (blk_cell BK374.out 0).trans rfl
             have hcz66_1 : wc.cell? ⟨gb374, 1, none⟩ = some (.int .i64 a0_1) := (blk_cell BK374.out 1).trans rfl
             have hcz66_2 : wc.cell? ⟨gb374, 2, none⟩ = some (.string a0_2) := (blk_cell BK374.out 2).trans rfl
             have hfz66_0 := blk_frozen BK374.out 0
             have hfz66_1 := blk_frozen BK374.out 1
             have hfz66_2 := blk_frozen BK374.out 2
             have hnb67 := NB375_376.out
             have hnc67 := NB376_375.out
             have hcz68_0 : wc.cell? ⟨gb375, 0, none⟩ = some (.int .i64 a1_0) := (blk_cell BK375.out 0).trans rfl
             have hcz68_1 : wc.cell? ⟨gb375, 1, none⟩ = some (.int .i64 a1_1) := (blk_cell BK375.out 1).trans rfl
             have hcz68_2 : wc.cell? ⟨gb375, 2, none⟩ = some (.string a1_2) := (blk_cell BK375.out 2).trans rfl
             have hfz68_0 := blk_frozen BK375.out 0
             have hfz68_1 := blk_frozen BK375.out 1
             have hfz68_2 := blk_frozen BK375.out 2
             go_wp2
             go_meet
             case rel => exact ⟨_, (decide (t381 ≥ 0)), (by first | rfl | (simp; done) | (simp [*]; done)), H', ⟨by have := HJ8.out; first | omega | exact Nat.le_refl _⟩, ⟨by (with_reducible repeat (first | refine blk_drewN ?_ _ | refine blk_drew ?_ | refine blk_alloc ?_ _)); exact BK374.out⟩, ⟨by (with_reducible repeat (first | refine blk_drewN ?_ _ | refine blk_drew ?_ | refine blk_alloc ?_ _)); exact BK375.out⟩, ⟨by (with_reducible repeat (first | refine blk_drewN ?_ _ | refine blk_drew ?_ | refine blk_alloc ?_ _)); exact BK376.out⟩, ⟨by repeat (first | (with_reducible first | exact HB.out | apply below_alloc | apply pw_below_drewN | apply below_drew1 | refine below_set ?_ GE374.out | refine below_set ?_ GE375.out | refine below_set ?_ GE376.out) | exact HB.out)⟩⟩
            ·
             rw [if_neg c63] at H
             have c63b0 : decide (t378 < 0) = false := decide_eq_false c63
             clear c63
             have H' := Aside0.mk H
             clear H
             have hnb69 := NB374_375.out
             have hnc69 := NB375_374.out
             have hnb70 := NB374_376.out
             have hnc70 := NB376_374.out
             have hcz71_0 : wc.cell? ⟨gb374, 0, none⟩ = some (.int .i64 a0_0) := (blk_cell BK374.out 0).trans rfl
             have hcz71_1 : wc.cell? ⟨gb374, 1, none⟩ = some (.int .i64 a0_1) := (blk_cell BK374.out 1).trans rfl
             have hcz71_2 : wc.cell? ⟨gb374, 2, none⟩ = some (.string a0_2) := (blk_cell BK374.out 2).trans rfl
             have hfz71_0 := blk_frozen BK374.out 0
             have hfz71_1 := blk_frozen BK374.out 1
             have hfz71_2 := blk_frozen BK374.out 2
             have hnb72 := NB375_376.out
             have hnc72 := NB376_375.out
             have hcz73_0 : wc.cell? ⟨gb375, 0, none⟩ = some (.int .i64 a1_0) := (blk_cell BK375.out 0).trans rfl
             have hcz73_1 : wc.cell? ⟨gb375, 1, none⟩ = some (.int .i64 a1_1) := (blk_cell BK375.out 1).trans rfl
             have hcz73_2 : wc.cell? ⟨gb375, 2, none⟩ = some (.string a1_2) := (blk_cell BK375.out 2).trans rfl
             have hfz73_0 := blk_frozen BK375.out 0
             have hfz73_1 := blk_frozen BK375.out 1
             have hfz73_2 := blk_frozen BK375.out 2
             go_wp2
             go_meet
             case rel => exact ⟨_, (false), (by first | rfl | (simp; done) | (simp [*]; done)), H', ⟨by have := HJ8.out; first | omega | exact Nat.le_refl _⟩, ⟨by (with_reducible repeat (first | refine blk_drewN ?_ _ | refine blk_drew ?_ | refine blk_alloc ?_ _)); exact BK374.out⟩, ⟨by (with_reducible repeat (first | refine blk_drewN ?_ _ | refine blk_drew ?_ | refine blk_alloc ?_ _)); exact BK375.out⟩, ⟨by (with_reducible repeat (first | refine blk_drewN ?_ _ | refine blk_drew ?_ | refine blk_alloc ?_ _)); exact BK376.out⟩, ⟨by repeat (first | (with_reducible first | exact HB.out | apply below_alloc | apply pw_below_drewN | apply below_drew1 | refine below_set ?_ GE374.out | refine below_set ?_ GE375.out | refine below_set ?_ GE376.out) | exact HB.out)⟩⟩
          ·
           rw [if_neg c56] at H
           have c56b0 : decide (t380 ≤ 0) = false := decide_eq_false c56
           clear c56
           by_cases c74 : t378 < 0
           ·
            rw [if_pos c74] at H
            have c74b0 : decide (t378 < 0) = true := decide_eq_true c74
            clear c74
            have H' := Aside0.mk H
            clear H
            have hnb75 := NB374_375.out
            have hnc75 := NB375_374.out
            have hnb76 := NB374_376.out
            have hnc76 := NB376_374.out
            have hcz77_0 : wc.cell? ⟨gb374, 0, none⟩ = some (.int .i64 a0_0) := (blk_cell BK374.out 0).trans rfl
            have hcz77_1 : wc.cell? ⟨gb374, 1, none⟩ = some (.int .i64 a0_1) := (blk_cell BK374.out 1).trans rfl
            have hcz77_2 : wc.cell? ⟨gb374, 2, none⟩ = some (.string a0_2) := (blk_cell BK374.out 2).trans rfl
            have hfz77_0 := blk_frozen BK374.out 0
            have hfz77_1 := blk_frozen BK374.out 1
            have hfz77_2 := blk_frozen BK374.out 2
            have hnb78 := NB375_376.out
            have hnc78 := NB376_375.out
            have hcz79_0 : wc.cell? ⟨gb375, 0, none⟩ = some (.int .i64 a1_0) := (blk_cell BK375.out 0).trans rfl
            have hcz79_1 : wc.cell? ⟨gb375, 1, none⟩ = some (.int .i64 a1_1) := (blk_cell BK375.out 1).trans rfl
            have hcz79_2 : wc.cell? ⟨gb375, 2, none⟩ = some (.string a1_2) := (blk_cell BK375.out 2).trans rfl
            have hfz79_0 := blk_frozen BK375.out 0
            have hfz79_1 := blk_frozen BK375.out 1
            have hfz79_2 := blk_frozen BK375.out 2
            go_wp2
            go_meet
            case rel => exact ⟨_, (false), (by first | rfl | (simp; done) | (simp [*]; done)), H', ⟨by have := HJ8.out; first | omega | exact Nat.le_refl _⟩, ⟨by (with_reducible repeat (first | refine blk_drewN ?_ _ | refine blk_drew ?_ | refine blk_alloc ?_ _)); exact BK374.out⟩, ⟨by (with_reducible repeat (first | refine blk_drewN ?_ _ | refine blk_drew ?_ | refine blk_alloc ?_ _)); exact BK375.out⟩, ⟨by (with_reducible repeat (first | refine blk_drewN ?_ _ | refine blk_drew ?_ | refine blk_alloc ?_ _)); exact BK376.out⟩, ⟨by repeat (first | (with_reducible first | exact HB.out | apply below_alloc | apply pw_below_drewN | apply below_drew1 | refine below_set ?_ GE374.out | refine below_set ?_ GE375.out | refine below_set ?_ GE376.out) | exact HB.out)⟩⟩
           ·
            rw [if_neg c74] at H
            have c74b0 : decide (t378 < 0) = false := decide_eq_false c74
            clear c74
            have H' := Aside0.mk H
            clear H
            have hnb80 := NB374_375.out
            have hnc80 := NB375_374.out
            have hnb81 := NB374_376.out
            have hnc81 := NB376_374.out
            have hcz82_0 : wc.cell? ⟨gb374, 0, none⟩ = some (.int .i64 a0_0) := (blk_cell BK374.out 0).trans rfl
            have hcz82_1 : wc.cell? ⟨gb374, 1, none⟩ = some (.int .i64 a0_1) := (blk_cell BK374.out 1).trans rfl
            have hcz82_2 : wc.cell? ⟨gb374, 2, none⟩ = some (.string a0_2) := (blk_cell BK374.out 2).trans rfl
            have hfz82_0 := blk_frozen BK374.out 0
            have hfz82_1 := blk_frozen BK374.out 1
            have hfz82_2 := blk_frozen BK374.out 2
            have hnb83 := NB375_376.out
            have hnc83 := NB376_375.out
            have hcz84_0 : wc.cell? ⟨gb375, 0, none⟩ = some (.int .i64 a1_0) := (blk_cell BK375.out 0).trans rfl
            have hcz84_1 : wc.cell? ⟨gb375, 1, none⟩ = some (.int .i64 a1_1) := (blk_cell BK375.out 1).trans rfl
            have hcz84_2 : wc.cell? ⟨gb375, 2, none⟩ = some (.string a1_2) := (blk_cell BK375.out 2).trans rfl
            have hfz84_0 := blk_frozen BK375.out 0
            have hfz84_1 := blk_frozen BK375.out 1
            have hfz84_2 := blk_frozen BK375.out 2
            go_wp2
            go_meet
            case rel => exact ⟨_, (false), (by first | rfl | (simp; done) | (simp [*]; done)), H', ⟨by have := HJ8.out; first | omega | exact Nat.le_refl _⟩, ⟨by (with_reducible repeat (first | refine blk_drewN ?_ _ | refine blk_drew ?_ | refine blk_alloc ?_ _)); exact BK374.out⟩, ⟨by (with_reducible repeat (first | refine blk_drewN ?_ _ | refine blk_drew ?_ | refine blk_alloc ?_ _)); exact BK375.out⟩, ⟨by (with_reducible repeat (first | refine blk_drewN ?_ _ | refine blk_drew ?_ | refine blk_alloc ?_ _)); exact BK376.out⟩, ⟨by repeat (first | (with_reducible first | exact HB.out | apply below_alloc | apply pw_below_drewN | apply below_drew1 | refine below_set ?_ GE374.out | refine below_set ?_ GE375.out | refine below_set ?_ GE376.out) | exact HB.out)⟩⟩
         ·
          rw [if_neg c55] at H
          have c55b0 : decide (t378 ≤ 0) = false := decide_eq_false c55
          clear c55
          by_cases c85 : t378 < 0
          ·
           rw [if_pos c85] at H
           have c85b0 : decide (t378 < 0) = true := decide_eq_true c85
           clear c85
           by_cases c86 : t380 ≤ 0
           ·
            rw [if_pos c86] at H
            have c86b0 : decide (t380 ≤ 0) = true := decide_eq_true c86
            clear c86
            have H' := Aside0.mk H
            clear H
            have hnb87 := NB374_375.out
            have hnc87 := NB375_374.out
            have hnb88 := NB374_376.out
            have hnc88 := NB376_374.out
            have hcz89_0 : wc.cell? ⟨gb374, 0, none⟩ = some (.int .i64 a0_0) := (blk_cell BK374.out 0).trans rfl
            have hcz89_1 : wc.cell? ⟨gb374, 1, none⟩ = some (.int .i64 a0_1) := (blk_cell BK374.out 1).trans rfl
            have hcz89_2 : wc.cell? ⟨gb374, 2, none⟩ = some (.string a0_2) := (blk_cell BK374.out 2).trans rfl
            have hfz89_0 := blk_frozen BK374.out 0
            have hfz89_1 := blk_frozen BK374.out 1
            have hfz89_2 := blk_frozen BK374.out 2
            have hnb90 := NB375_376.out
            have hnc90 := NB376_375.out
            have hcz91_0 : wc.cell? ⟨gb375, 0, none⟩ = some (.int .i64 a1_0) := (blk_cell BK375.out 0).trans rfl
            have hcz91_1 : wc.cell? ⟨gb375, 1, none⟩ = some (.int .i64 a1_1) := (blk_cell BK375.out 1).trans rfl
            have hcz91_2 : wc.cell? ⟨gb375, 2, none⟩ = some (.string a1_2) := (blk_cell BK375.out 2).trans rfl
            have hfz91_0 := blk_frozen BK375.out 0
            have hfz91_1 := blk_frozen BK375.out 1
            have hfz91_2 := blk_frozen BK375.out 2
            go_wp2
            go_meet
            case rel => exact ⟨_, (decide (t381 ≥ 0)), (by first | rfl | (simp; done) | (simp [*]; done)), H', ⟨by have := HJ8.out; first | omega | exact Nat.le_refl _⟩, ⟨by (with_reducible repeat (first | refine blk_drewN ?_ _ | refine blk_drew ?_ | refine blk_alloc ?_ _)); exact BK374.out⟩, ⟨by (with_reducible repeat (first | refine blk_drewN ?_ _ | refine blk_drew ?_ | refine blk_alloc ?_ _)); exact BK375.out⟩, ⟨by (with_reducible repeat (first | refine blk_drewN ?_ _ | refine blk_drew ?_ | refine blk_alloc ?_ _)); exact BK376.out⟩, ⟨by repeat (first | (with_reducible first | exact HB.out | apply below_alloc | apply pw_below_drewN | apply below_drew1 | refine below_set ?_ GE374.out | refine below_set ?_ GE375.out | refine below_set ?_ GE376.out) | exact HB.out)⟩⟩
           ·
            rw [if_neg c86] at H
            have c86b0 : decide (t380 ≤ 0) = false := decide_eq_false c86
            clear c86
            have H' := Aside0.mk H
            clear H
            have hnb92 := NB374_375.out
            have hnc92 := NB375_374.out
            have hnb93 := NB374_376.out
            have hnc93 := NB376_374.out
            have hcz94_0 : wc.cell? ⟨gb374, 0, none⟩ = some (.int .i64 a0_0) := (blk_cell BK374.out 0).trans rfl
            have hcz94_1 : wc.cell? ⟨gb374, 1, none⟩ = some (.int .i64 a0_1) := (blk_cell BK374.out 1).trans rfl
            have hcz94_2 : wc.cell? ⟨gb374, 2, none⟩ = some (.string a0_2) := (blk_cell BK374.out 2).trans rfl
            have hfz94_0 := blk_frozen BK374.out 0
            have hfz94_1 := blk_frozen BK374.out 1
            have hfz94_2 := blk_frozen BK374.out 2
            have hnb95 := NB375_376.out
            have hnc95 := NB376_375.out
            have hcz96_0 : wc.cell? ⟨gb375, 0, none⟩ = some (.int .i64 a1_0) := (blk_cell BK375.out 0).trans rfl
            have hcz96_1 : wc.cell? ⟨gb375, 1, none⟩ = some (.int .i64 a1_1) := (blk_cell BK375.out 1).trans rfl
            have hcz96_2 : wc.cell? ⟨gb375, 2, none⟩ = some (.string a1_2) := (blk_cell BK375.out 2).trans rfl
            have hfz96_0 := blk_frozen BK375.out 0
            have hfz96_1 := blk_frozen BK375.out 1
            have hfz96_2 := blk_frozen BK375.out 2
            go_wp2
            go_meet
            case rel => exact ⟨_, (false), (by first | rfl | (simp; done) | (simp [*]; done)), H', ⟨by have := HJ8.out; first | omega | exact Nat.le_refl _⟩, ⟨by (with_reducible repeat (first | refine blk_drewN ?_ _ | refine blk_drew ?_ | refine blk_alloc ?_ _)); exact BK374.out⟩, ⟨by (with_reducible repeat (first | refine blk_drewN ?_ _ | refine blk_drew ?_ | refine blk_alloc ?_ _)); exact BK375.out⟩, ⟨by (with_reducible repeat (first | refine blk_drewN ?_ _ | refine blk_drew ?_ | refine blk_alloc ?_ _)); exact BK376.out⟩, ⟨by repeat (first | (with_reducible first | exact HB.out | apply below_alloc | apply pw_below_drewN | apply below_drew1 | refine below_set ?_ GE374.out | refine below_set ?_ GE375.out | refine below_set ?_ GE376.out) | exact HB.out)⟩⟩
          ·
           rw [if_neg c85] at H
           have c85b0 : decide (t378 < 0) = false := decide_eq_false c85
           clear c85
           have H' := Aside0.mk H
           clear H
           have hnb97 := NB374_375.out
           have hnc97 := NB375_374.out
           have hnb98 := NB374_376.out
           have hnc98 := NB376_374.out
           have hcz99_0 : wc.cell? ⟨gb374, 0, none⟩ = some (.int .i64 a0_0) := (blk_cell BK374.out 0).trans rfl
           have hcz99_1 : wc.cell? ⟨gb374, 1, none⟩ = some (.int .i64 a0_1) := (blk_cell BK374.out 1).trans rfl
           have hcz99_2 : wc.cell? ⟨gb374, 2, none⟩ = some (.string a0_2) := (blk_cell BK374.out 2).trans rfl
           have hfz99_0 := blk_frozen BK374.out 0
           have hfz99_1 := blk_frozen BK374.out 1
           have hfz99_2 := blk_frozen BK374.out 2
           have hnb100 := NB375_376.out
           have hnc100 := NB376_375.out
           have hcz101_0 : wc.cell? ⟨gb375, 0, none⟩ = some (.int .i64 a1_0) := (blk_cell BK375.out 0).trans rfl
           have hcz101_1 : wc.cell? ⟨gb375, 1, none⟩ = some (.int .i64 a1_1) := (blk_cell BK375.out 1).trans rfl
           have hcz101_2 : wc.cell? ⟨gb375, 2, none⟩ = some (.string a1_2) := (blk_cell BK375.out 2).trans rfl
           have hfz101_0 := blk_frozen BK375.out 0
           have hfz101_1 := blk_frozen BK375.out 1
           have hfz101_2 := blk_frozen BK375.out 2
           go_wp2
           go_meet
           case rel => exact ⟨_, (false), (by first | rfl | (simp; done) | (simp [*]; done)), H', ⟨by have := HJ8.out; first | omega | exact Nat.le_refl _⟩, ⟨by (with_reducible repeat (first | refine blk_drewN ?_ _ | refine blk_drew ?_ | refine blk_alloc ?_ _)); exact BK374.out⟩, ⟨by (with_reducible repeat (first | refine blk_drewN ?_ _ | refine blk_drew ?_ | refine blk_alloc ?_ _)); exact BK375.out⟩, ⟨by (with_reducible repeat (first | refine blk_drewN ?_ _ | refine blk_drew ?_ | refine blk_alloc ?_ _)); exact BK376.out⟩, ⟨by repeat (first | (with_reducible first | exact HB.out | apply below_alloc | apply pw_below_drewN | apply below_drew1 | refine below_set ?_ GE374.out | refine below_set ?_ GE375.out | refine below_set ?_ GE376.out) | exact HB.out)⟩⟩
     ·
      rw [if_neg c36] at H
      have c36b0 : (x12_8 == 0) = false := beq_eq_false_iff_ne.mpr c36
      have c36b1 : (x12_8 != 0) = true := bne_iff_ne.mpr c36
      have H' := Aside0.mk H
      clear H
      go_wp2
      go_meet
      case rel => exact ⟨_, (true), (by first | rfl | (simp; done) | (simp [*]; done)), H', ⟨by have := HJ8.out; first | omega | exact Nat.le_refl _⟩, ⟨by (with_reducible repeat (first | refine blk_drewN ?_ _ | refine blk_drew ?_ | refine blk_alloc ?_ _)); exact BK374.out⟩, ⟨by (with_reducible repeat (first | refine blk_drewN ?_ _ | refine blk_drew ?_ | refine blk_alloc ?_ _)); exact BK375.out⟩, ⟨by (with_reducible repeat (first | refine blk_drewN ?_ _ | refine blk_drew ?_ | refine blk_alloc ?_ _)); exact BK376.out⟩, ⟨by repeat (first | (with_reducible first | exact HB.out | apply below_alloc | apply pw_below_drewN | apply below_drew1 | refine below_set ?_ GE374.out | refine below_set ?_ GE375.out | refine below_set ?_ GE376.out) | exact HB.out)⟩⟩
    ·
     rw [if_neg c35] at H
     have c35b0 : (t378 == (wrap64 (-t379))) = false := beq_eq_false_iff_ne.mpr c35
     have c35b1 : (t378 != (wrap64 (-t379))) = true := bne_iff_ne.mpr c35
     (first | rw [c35b0] | (simp only [i64_w, i32_w, u8_w, u32_w]; rw [c35b0]) | rw [c35b1] | skip)
     have H' := Aside0.mk H
     clear H
     go_wp2
     go_meet
     case rel => exact ⟨_, (true), (by first | rfl | (simp; done) | (simp [*]; done)), H', ⟨by have := HJ8.out; first | omega | exact Nat.le_refl _⟩, ⟨by (with_reducible repeat (first | refine blk_drewN ?_ _ | refine blk_drew ?_ | refine blk_alloc ?_ _)); exact BK374.out⟩, ⟨by (with_reducible repeat (first | refine blk_drewN ?_ _ | refine blk_drew ?_ | refine blk_alloc ?_ _)); exact BK375.out⟩, ⟨by (with_reducible repeat (first | refine blk_drewN ?_ _ | refine blk_drew ?_ | refine blk_alloc ?_ _)); exact BK376.out⟩, ⟨by repeat (first | (with_reducible first | exact HB.out | apply below_alloc | apply pw_below_drewN | apply below_drew1 | refine below_set ?_ GE374.out | refine below_set ?_ GE375.out | refine below_set ?_ GE376.out) | exact HB.out)⟩⟩
   case rest =>
    clear HC34
    try clear c1
    try clear p2
    try clear c3
    try clear c4
    try clear c5
    try clear c6
    try clear p6
    try clear c7
    try clear c8
    try clear c9
    try clear c10
    try clear c12
    try clear c14
    try clear c15
    try clear c17
    try clear c30
    try clear c31
    try clear c35
    try clear c35b0
    try clear c35b1
    try clear c36
    try clear c36b0
    try clear c36b1
    try clear c37
    try clear c37b0
    try clear c37b1
    try clear c37b2
    try clear c38
    try clear c39
    try clear c41
    try clear c43
    try clear c43b0
    try clear c44
    try clear c45
    try clear c47
    try clear c49
    try clear c49b0
    try clear c50
    try clear c51
    try clear c53
    try clear c55
    try clear c55b0
    try clear c56
    try clear c56b0
    try clear c57
    try clear c57b0
    try clear c58
    try clear c59
    try clear c61
    try clear c63
    try clear c63b0
    try clear c64
    try clear p64
    try clear c65
    try clear c67
    try clear c69
    try clear c70
    try clear c72
    try clear c74
    try clear c74b0
    try clear c75
    try clear c76
    try clear c78
    try clear c80
    try clear c81
    try clear c83
    try clear c85
    try clear c85b0
    try clear c86
    try clear c86b0
    try clear c87
    try clear c88
    try clear c90
    try clear c92
    try clear c93
    try clear c95
    try clear c97
    try clear c98
    try clear c100
    try clear hcz101_0
    try clear hcz101_1
    try clear hcz101_2
    try clear hcz16_0
    try clear hcz16_1
    try clear hcz16_2
    try clear hcz18_0
    try clear hcz18_1
    try clear hcz18_2
    try clear hcz20_0
    try clear hcz20_1
    try clear hcz20_2
    try clear hcz21_0
    try clear hcz21_1
    try clear hcz21_2
    try clear hcz23_0
    try clear hcz23_1
    try clear hcz23_2
    try clear hcz24_0
    try clear hcz24_1
    try clear hcz24_2
    try clear hcz26_0
    try clear hcz26_1
    try clear hcz26_2
    try clear hcz27_0
    try clear hcz27_1
    try clear hcz27_2
    try clear hcz32_0
    try clear hcz32_1
    try clear hcz32_2
    try clear hcz40_0
    try clear hcz40_1
    try clear hcz40_2
    try clear hcz42_0
    try clear hcz42_1
    try clear hcz42_2
    try clear hcz46_0
    try clear hcz46_1
    try clear hcz46_2
    try clear hcz48_0
    try clear hcz48_1
    try clear hcz48_2
    try clear hcz52_0
    try clear hcz52_1
    try clear hcz52_2
    try clear hcz54_0
    try clear hcz54_1
    try clear hcz54_2
    try clear hcz60_0
    try clear hcz60_1
    try clear hcz60_2
    try clear hcz62_0
    try clear hcz62_1
    try clear hcz62_2
    try clear hcz66_0
    try clear hcz66_1
    try clear hcz66_2
    try clear hcz68_0
    try clear hcz68_1
    try clear hcz68_2
    try clear hcz71_0
    try clear hcz71_1
    try clear hcz71_2
    try clear hcz73_0
    try clear hcz73_1
    try clear hcz73_2
    try clear hcz77_0
    try clear hcz77_1
    try clear hcz77_2
    try clear hcz79_0
    try clear hcz79_1
    try clear hcz79_2
    try clear hcz82_0
    try clear hcz82_1
    try clear hcz82_2
    try clear hcz84_0
    try clear hcz84_1
    try clear hcz84_2
    try clear hcz89_0
    try clear hcz89_1
    try clear hcz89_2
    try clear hcz91_0
    try clear hcz91_1
    try clear hcz91_2
    try clear hcz94_0
    try clear hcz94_1
    try clear hcz94_2
    try clear hcz96_0
    try clear hcz96_1
    try clear hcz96_2
    try clear hcz99_0
    try clear hcz99_1
    try clear hcz99_2
    try clear hfz101_0
    try clear hfz101_1
    try clear hfz101_2
    try clear hfz16_0
    try clear hfz16_1
    try clear hfz16_2
    try clear hfz18_0
    try clear hfz18_1
    try clear hfz18_2
    try clear hfz20_0
    try clear hfz20_1
    try clear hfz20_2
    try clear hfz21_0
    try clear hfz21_1
    try clear hfz21_2
    try clear hfz23_0
    try clear hfz23_1
    try clear hfz23_2
    try clear hfz24_0
    try clear hfz24_1
    try clear hfz24_2
    try clear hfz26_0
    try clear hfz26_1
    try clear hfz26_2
    try clear hfz27_0
    try clear hfz27_1
    try clear hfz27_2
    try clear hfz32_0
    try clear hfz32_1
    try clear hfz32_2
    try clear hfz40_0
    try clear hfz40_1
    try clear hfz40_2
    try clear hfz42_0
    try clear hfz42_1
    try clear hfz42_2
    try clear hfz46_0
    try clear hfz46_1
    try clear hfz46_2
    try clear hfz48_0
    try clear hfz48_1
    try clear hfz48_2
    try clear hfz52_0
    try clear hfz52_1
    try clear hfz52_2
    try clear hfz54_0
    try clear hfz54_1
    try clear hfz54_2
    try clear hfz60_0
    try clear hfz60_1
    try clear hfz60_2
    try clear hfz62_0
    try clear hfz62_1
    try clear hfz62_2
    try clear hfz66_0
    try clear hfz66_1
    try clear hfz66_2
    try clear hfz68_0
    try clear hfz68_1
    try clear hfz68_2
    try clear hfz71_0
    try clear hfz71_1
    try clear hfz71_2
    try clear hfz73_0
    try clear hfz73_1
    try clear hfz73_2
    try clear hfz77_0
    try clear hfz77_1
    try clear hfz77_2
    try clear hfz79_0
    try clear hfz79_1
    try clear hfz79_2
    try clear hfz82_0
    try clear hfz82_1
    try clear hfz82_2
    try clear hfz84_0
    try clear hfz84_1
    try clear hfz84_2
    try clear hfz89_0
    try clear hfz89_1
    try clear hfz89_2
    try clear hfz91_0
    try clear hfz91_1
    try clear hfz91_2
    try clear hfz94_0
    try clear hfz94_1
    try clear hfz94_2
    try clear hfz96_0
    try clear hfz96_1
    try clear hfz96_2
    try clear hfz99_0
    try clear hfz99_1
    try clear hfz99_2
    try clear p2
    obtain ⟨kq, x80_33, rfl, HA, HJ33, BK374, BK375, BK376, HB⟩ := hcut
    cases kq with
    | zero => exact absurd HA.out (by simp [unisonlaw01_ValueOrderly.j1])
    | succ kj33 =>
     have H := HA.out
     clear HA
     simp only [unisonlaw01_ValueOrderly.j1] at H
     by_cases c102 : x80_33 = true
     ·
      subst c102
      have H1 : (none) = some r := by (first | rw [if_pos rfl] at H | rw [if_pos True.intro] at H | skip); exact H
      clear H
      have H := H1
      clear H1
      exact absurd H (by simp)
     ·
      replace c102 := Bool.eq_false_iff.mpr c102
      subst c102
      have H1 : ((value_Compare.f kj33 3 a0_0 a0_1 a0_2 a1_0 a1_1 a1_2).bind fun bt383 => ((value_Compare.f kj33 6 a0_0 a0_1 a0_2 a1_0 a1_1 a1_2).bind fun bt388 => (if bt383.2.2.2 = bt388.2.2.2 then (if bt383.2.2.2 = 0 then (if a0_0 = 0 then (if t377 = true then (if (bt383.1 == bt388.1 && (bt383.2.1 == bt388.2.1 && (bt383.2.2.1.toList == bt388.2.2.1.toList))) = true then (some (bt383.1 == 0 && (bt383.2.1 == 0 && (bt383.2.2.1.toList == ([] : List UInt8))))) else (none)) else (none)) else (if a1_0 = 0 then (if t377 = true then (if (bt383.1 == bt388.1 && (bt383.2.1 == bt388.2.1 && (bt383.2.2.1.toList == bt388.2.2.1.toList))) = true then (some (bt383.1 == 0 && (bt383.2.1 == 0 && (bt383.2.2.1.toList == ([] : List UInt8))))) else (none)) else (none)) else (unisonlaw01_ValueOrderly.j2 kj33 t377 t378 bt383.1 bt383.2.1 bt383.2.2.1 bt388.1 bt388.2.1 bt388.2.2.1))) else (if t377 = true then (if (bt383.1 == bt388.1 && (bt383.2.1 == bt388.2.1 && (bt383.2.2.1.toList == bt388.2.2.1.toList))) = true then (some (bt383.1 == 0 && (bt383.2.1 == 0 && (bt383.2.2.1.toList == ([] : List UInt8))))) else (none)) else (none))) else (none)))) = some r := by rw [if_neg (show ¬ (false = true) by decide)] at H; exact H
      clear H
      have H := H1
      clear H1
      replace H := Option.bind_eq_some_iff.mp H
      obtain ⟨⟨t383, t384, t385, t386⟩, A1030, H⟩ := H
      replace H : ((value_Compare.f kj33 6 a0_0 a0_1 a0_2 a1_0 a1_1 a1_2).bind fun bt388 => (if t386 = bt388.2.2.2 then (if t386 = 0 then (if a0_0 = 0 then (if t377 = true then (if (t383 == bt388.1 && (t384 == bt388.2.1 && (t385.toList == bt388.2.2.1.toList))) = true then (some (t383 == 0 && (t384 == 0 && (t385.toList == ([] : List UInt8))))) else (none)) else (none)) else (if a1_0 = 0 then (if t377 = true then (if (t383 == bt388.1 && (t384 == bt388.2.1 && (t385.toList == bt388.2.2.1.toList))) = true then (some (t383 == 0 && (t384 == 0 && (t385.toList == ([] : List UInt8))))) else (none)) else (none)) else (unisonlaw01_ValueOrderly.j2 kj33 t377 t378 t383 t384 t385 bt388.1 bt388.2.1 bt388.2.2.1))) else (if t377 = true then (if (t383 == bt388.1 && (t384 == bt388.2.1 && (t385.toList == bt388.2.2.1.toList))) = true then (some (t383 == 0 && (t384 == 0 && (t385.toList == ([] : List UInt8))))) else (none)) else (none))) else (none))) = some r := H
      have A103 := Aside0.mk A1030
      clear A1030
      replace H := Option.bind_eq_some_iff.mp H
      obtain ⟨⟨t388, t389, t390, t391⟩, A1040, H⟩ := H
      replace H : (if t386 = t391 then (if t386 = 0 then (if a0_0 = 0 then (if t377 = true then (if (t383 == t388 && (t384 == t389 && (t385.toList == t390.toList))) = true then (some (t383 == 0 && (t384 == 0 && (t385.toList == ([] : List UInt8))))) else (none)) else (none)) else (if a1_0 = 0 then (if t377 = true then (if (t383 == t388 && (t384 == t389 && (t385.toList == t390.toList))) = true then (some (t383 == 0 && (t384 == 0 && (t385.toList == ([] : List UInt8))))) else (none)) else (none)) else (unisonlaw01_ValueOrderly.j2 kj33 t377 t378 t383 t384 t385 t388 t389 t390))) else (if t377 = true then (if (t383 == t388 && (t384 == t389 && (t385.toList == t390.toList))) = true then (some (t383 == 0 && (t384 == 0 && (t385.toList == ([] : List UInt8))))) else (none)) else (none))) else (none)) = some r := H
      have A104 := Aside0.mk A1040
      clear A1040
      by_cases c105 : t386 = t391
      ·
       rw [if_pos c105] at H
       have c105b0 : (t386 == t391) = true := beq_iff_eq.mpr c105
       have c105b1 : (t386 != t391) = false := bne_eq_false_iff_eq.mpr c105
       clear c105
       by_cases c106 : t386 = 0
       ·
        rw [if_pos c106] at H
        have c106b0 : (t386 == 0) = true := beq_iff_eq.mpr c106
        have c106b1 : (t386 != 0) = false := bne_eq_false_iff_eq.mpr c106
        clear c106
        by_cases c107 : a0_0 = 0
        ·
         rw [if_pos c107] at H
         have c107b0 : (a0_0 == 0) = true := beq_iff_eq.mpr c107
         have c107b1 : (a0_0 != 0) = false := bne_eq_false_iff_eq.mpr c107
         clear c107
         by_cases c108 : t377 = true
         ·
          subst c108
          have H1 : (if (t383 == t388 && (t384 == t389 && (t385.toList == t390.toList))) = true then (some (t383 == 0 && (t384 == 0 && (t385.toList == ([] : List UInt8))))) else (none)) = some r := by (first | rw [if_pos rfl] at H | rw [if_pos True.intro] at H | skip); exact H
          clear H
          have H := H1
          clear H1
          by_cases c109 : (t383 == t388 && (t384 == t389 && (t385.toList == t390.toList))) = true
          ·
           rw [if_pos c109] at H
           have c109b0 : (t383 == t388 && (t384 == t389 && (t385.toList == t390.toList))) = true := c109
           (try (have c109b1 : decide (t383 = t388 && (t384 == t389 && (t385.toList == t390.toList))) = true := by simpa using c109))
           (try (have c109b2 : (t383 == t388 && (t384 == t389 && (t385.toList == t390.toList))) = true := by simpa using c109))
           clear c109
           obtain rfl := Option.some.inj H
           have hnb110 := NB374_375.out
           have hnc110 := NB375_374.out
           have hnb111 := NB374_376.out
           have hnc111 := NB376_374.out
           have hcz112_0 : wc.cell? ⟨gb374, 0, none⟩ = some (.int .i64 a0_0) := (blk_cell BK374.out 0).trans rfl
           have hcz112_1 : wc.cell? ⟨gb374, 1, none⟩ = some (.int .i64 a0_1) := (blk_cell BK374.out 1).trans rfl
           have hcz112_2 : wc.cell? ⟨gb374, 2, none⟩ = some (.string a0_2) := (blk_cell BK374.out 2).trans rfl
           have hfz112_0 := blk_frozen BK374.out 0
           have hfz112_1 := blk_frozen BK374.out 1
           have hfz112_2 := blk_frozen BK374.out 2
           have hnb113 := NB375_376.out
           have hnc113 := NB376_375.out
           have hcz114_0 : wc.cell? ⟨gb375, 0, none⟩ = some (.int .i64 a1_0) := (blk_cell BK375.out 0).trans rfl
           have hcz114_1 : wc.cell? ⟨gb375, 1, none⟩ = some (.int .i64 a1_1) := (blk_cell BK375.out 1).trans rfl
           have hcz114_2 : wc.cell? ⟨gb375, 2, none⟩ = some (.string a1_2) := (blk_cell BK375.out 2).trans rfl
           have hfz114_0 := blk_frozen BK375.out 0
           have hfz114_1 := blk_frozen BK375.out 1
           have hfz114_2 := blk_frozen BK375.out 2
           go_wp2_with (first | ((with_reducible refine gate_callee (f := 17) rfl ?_); refine goesL_ (some 84) rfl rfl Tryd.func17 (by kernel_rfl) rfl #[.int .i64 3, .agg #[.int .i64 a0_0, .int .i64 a0_1, .string a0_2], .agg #[.int .i64 a1_0, .int .i64 a1_1, .string a1_2]] rfl (by (try simp only [List.map_toArray, List.map_cons, List.map_nil]); first | done | rfl | (simp only [List.length_drop, List.length_take]; rfl)) ?_; (with_reducible refine (value_Compare.calls kj33 3 a0_0 a0_1 a0_2 a1_0 a1_1 a1_2 t383 t384 t385 t386 _ A103.out).mono ?_); rintro e w115 ⟨rfl, hb⟩; refine ⟨_, rfl, ?_⟩; have n0_ := Aside0.mk (blk_below (g := gb374) (o := .cells #[.int .i64 a0_0, .int .i64 a0_1, .string a0_2] 23 (0, 0)) (by (with_reducible repeat (first | refine blk_drewN ?_ _ | refine blk_drew ?_ | refine blk_alloc ?_ _)); exact BK374.out) hb); have n1_ := Aside0.mk (blk_below (g := gb375) (o := .cells #[.int .i64 a1_0, .int .i64 a1_1, .string a1_2] 23 (0, 0)) (by (with_reducible repeat (first | refine blk_drewN ?_ _ | refine blk_drew ?_ | refine blk_alloc ?_ _)); exact BK375.out) hb); have n2_ := Aside0.mk (blk_below (g := gb376) (o := .cells #[.int .i64 a2_0, .int .i64 a2_1, .string a2_2] 23 (0, 0)) (by (with_reducible repeat (first | refine blk_drewN ?_ _ | refine blk_drew ?_ | refine blk_alloc ?_ _)); exact BK376.out) hb); have n3_ := Aside0.mk (below_step (by repeat (first | (with_reducible first | exact HB.out | apply below_alloc | apply pw_below_drewN | apply below_drew1 | refine below_set ?_ GE374.out | refine below_set ?_ GE375.out | refine below_set ?_ GE376.out) | exact HB.out)) hb); clear BK374; clear BK375; clear BK376; clear HB; have BK374 := n0_; have BK375 := n1_; have BK376 := n2_; have HB := n3_; clear n0_ n1_ n2_ n3_; (try clear hb); (try clear hb2); (try clear hk); (try clear hi)) | ((with_reducible refine gate_dst (N := 13) rfl ?_); refine box_event ?hg (N := 13) ?hd (cs := #[.int .i64 0, .int .i64 0, .string (⟨#[]⟩ : ByteArray)]) (t := 23) ?hr ?_; (case hd => rfl); (case hg => rfl); (case hr => first | (go_simp; done) | (go_simp; rfl)); intro gb387 hg w116 hbox hb; have n0_ := Aside0.mk (blk_below (g := gb374) (o := .cells #[.int .i64 a0_0, .int .i64 a0_1, .string a0_2] 23 (0, 0)) (by (with_reducible repeat (first | refine blk_drewN ?_ _ | refine blk_drew ?_ | refine blk_alloc ?_ _)); exact BK374.out) hb); have n1_ := Aside0.mk (blk_below (g := gb375) (o := .cells #[.int .i64 a1_0, .int .i64 a1_1, .string a1_2] 23 (0, 0)) (by (with_reducible repeat (first | refine blk_drewN ?_ _ | refine blk_drew ?_ | refine blk_alloc ?_ _)); exact BK375.out) hb); have n2_ := Aside0.mk (blk_below (g := gb376) (o := .cells #[.int .i64 a2_0, .int .i64 a2_1, .string a2_2] 23 (0, 0)) (by (with_reducible repeat (first | refine blk_drewN ?_ _ | refine blk_drew ?_ | refine blk_alloc ?_ _)); exact BK376.out) hb); have n3_ := Aside0.mk (below_step (by repeat (first | (with_reducible first | exact HB.out | apply below_alloc | apply pw_below_drewN | apply below_drew1 | refine below_set ?_ GE374.out | refine below_set ?_ GE375.out | refine below_set ?_ GE376.out) | exact HB.out)) hb); have n4_ := Aside0.mk (hbox); have n5_ := Aside0.mk ((by rw [hg]; exact (below_size (by repeat (first | (with_reducible first | exact HB.out | apply below_alloc | apply pw_below_drewN | apply below_drew1 | refine below_set ?_ GE374.out | refine below_set ?_ GE375.out | refine below_set ?_ GE376.out) | exact HB.out))) : w.heap.size ≤ gb387)); have n6_ := Aside0.mk ((by rw [hg]; exact (below_size (by repeat (first | (with_reducible first | exact HB.out | apply below_alloc | apply pw_below_drewN | apply below_drew1 | refine below_set ?_ GE374.out | refine below_set ?_ GE375.out | refine below_set ?_ GE376.out) | exact HB.out))) : w.heap.size ≤ gb387)); have n7_ := Aside0.mk ((by rw [hg]; exact Nat.ne_of_lt (blk_lt (g := gb374) (o := .cells #[.int .i64 a0_0, .int .i64 a0_1, .string a0_2] 23 (0, 0)) (by (with_reducible repeat (first | refine blk_drewN ?_ _ | refine blk_drew ?_ | refine blk_alloc ?_ _)); exact BK374.out)) : gb374 ≠ gb387)); have n8_ := Aside0.mk ((by rw [hg]; exact Nat.ne_of_gt (blk_lt (g := gb374) (o := .cells #[.int .i64 a0_0, .int .i64 a0_1, .string a0_2] 23 (0, 0)) (by (with_reducible repeat (first | refine blk_drewN ?_ _ | refine blk_drew ?_ | refine blk_alloc ?_ _)); exact BK374.out)) : gb387 ≠ gb374)); have n9_ := Aside0.mk ((by rw [hg]; exact Nat.ne_of_lt (blk_lt (g := gb375) (o := .cells #[.int .i64 a1_0, .int .i64 a1_1, .string a1_2] 23 (0, 0)) (by (with_reducible repeat (first | refine blk_drewN ?_ _ | refine blk_drew ?_ | refine blk_alloc ?_ _)); exact BK375.out)) : gb375 ≠ gb387)); have n10_ := Aside0.mk ((by rw [hg]; exact Nat.ne_of_gt (blk_lt (g := gb375) (o := .cells #[.int .i64 a1_0, .int .i64 a1_1, .string a1_2] 23 (0, 0)) (by (with_reducible repeat (first | refine blk_drewN ?_ _ | refine blk_drew ?_ | refine blk_alloc ?_ _)); exact BK375.out)) : gb387 ≠ gb375)); have n11_ := Aside0.mk ((by rw [hg]; exact Nat.ne_of_lt (blk_lt (g := gb376) (o := .cells #[.int .i64 a2_0, .int .i64 a2_1, .string a2_2] 23 (0, 0)) (by (with_reducible repeat (first | refine blk_drewN ?_ _ | refine blk_drew ?_ | refine blk_alloc ?_ _)); exact BK376.out)) : gb376 ≠ gb387)); have n12_ := Aside0.mk ((by rw [hg]; exact Nat.ne_of_gt (blk_lt (g := gb376) (o := .cells #[.int .i64 a2_0, .int .i64 a2_1, .string a2_2] 23 (0, 0)) (by (with_reducible repeat (first | refine blk_drewN ?_ _ | refine blk_drew ?_ | refine blk_alloc ?_ _)); exact BK376.out)) : gb387 ≠ gb376)); clear BK374; clear BK375; clear BK376; clear HB; have BK374 := n0_; have BK375 := n1_; have BK376 := n2_; have HB := n3_; have BK387 := n4_; have GW387 := n5_; have GE387 := n6_; have NB374_387 := n7_; have NB387_374 := n8_; have NB375_387 := n9_; have NB387_375 := n10_; have NB376_387 := n11_; have NB387_376 := n12_; clear n0_ n1_ n2_ n3_ n4_ n5_ n6_ n7_ n8_ n9_ n10_ n11_ n12_; clear hb hbox hg; have hnb117 := NB387_374.out; have hnc117 := NB374_387.out; have hnb118 := NB387_375.out; have hnc118 := NB375_387.out; have hnb119 := NB387_376.out; have hnc119 := NB376_387.out; have hcz120_0 : w116.cell? ⟨gb387, 0, none⟩ = some (.int .i64 0) := (blk_cell BK387.out 0).trans rfl; have hcz120_1 : w116.cell? ⟨gb387, 1, none⟩ = some (.int .i64 0) := (blk_cell BK387.out 1).trans rfl; have hcz120_2 : w116.cell? ⟨gb387, 2, none⟩ = some (.string (⟨#[]⟩ : ByteArray)) := (blk_cell BK387.out 2).trans rfl; have hfz120_0 := blk_frozen BK387.out 0; have hfz120_1 := blk_frozen BK387.out 1; have hfz120_2 := blk_frozen BK387.out 2) | ((with_reducible refine gate_store (t := 23) (p := 13) rfl ?_); refine store_event (t := 23) (p := 13) (v := ?vo_w121) (w1 := (((w116.setCell ⟨gb387, 0, none⟩ (.int .i64 t383)).setCell ⟨gb387, 1, none⟩ (.int .i64 t384)).setCell ⟨gb387, 2, none⟩ (.string t385))) ?hg ?ho ?hn ?hr ?_; (case ho => rfl); (case hg => rfl); (case hn => rfl); (case hr => first | (go_simp; done) | (go_simp; rfl)); intro w121 hw; have n0_ : Aside0 (w121.heap[gb374]? = some (.cells #[.int .i64 a0_0, .int .i64 a0_1, .string a0_2] 23 (0, 0))) := ⟨(by rw [hw]; exact (by (with_reducible repeat (first | refine blk_drewN ?_ _ | refine blk_drew ?_ | refine blk_alloc ?_ _)); refine blk_far ?_ NB374_387.out _; (with_reducible repeat (first | refine blk_drewN ?_ _ | refine blk_drew ?_ | refine blk_alloc ?_ _)); refine blk_far ?_ NB374_387.out _; (with_reducible repeat (first | refine blk_drewN ?_ _ | refine blk_drew ?_ | refine blk_alloc ?_ _)); refine blk_far ?_ NB374_387.out _; (with_reducible repeat (first | refine blk_drewN ?_ _ | refine blk_drew ?_ | refine blk_alloc ?_ _)); exact BK374.out))⟩; have n1_ : Aside0 (w121.heap[gb375]? = some (.cells #[.int .i64 a1_0, .int .i64 a1_1, .string a1_2] 23 (0, 0))) := ⟨(by rw [hw]; exact (by (with_reducible repeat (first | refine blk_drewN ?_ _ | refine blk_drew ?_ | refine blk_alloc ?_ _)); refine blk_far ?_ NB375_387.out _; (with_reducible repeat (first | refine blk_drewN ?_ _ | refine blk_drew ?_ | refine blk_alloc ?_ _)); refine blk_far ?_ NB375_387.out _; (with_reducible repeat (first | refine blk_drewN ?_ _ | refine blk_drew ?_ | refine blk_alloc ?_ _)); refine blk_far ?_ NB375_387.out _; (with_reducible repeat (first | refine blk_drewN ?_ _ | refine blk_drew ?_ | refine blk_alloc ?_ _)); exact BK375.out))⟩; have n2_ : Aside0 (w121.heap[gb376]? = some (.cells #[.int .i64 a2_0, .int .i64 a2_1, .string a2_2] 23 (0, 0))) := ⟨(by rw [hw]; exact (by (with_reducible repeat (first | refine blk_drewN ?_ _ | refine blk_drew ?_ | refine blk_alloc ?_ _)); refine blk_far ?_ NB376_387.out _; (with_reducible repeat (first | refine blk_drewN ?_ _ | refine blk_drew ?_ | refine blk_alloc ?_ _)); refine blk_far ?_ NB376_387.out _; (with_reducible repeat (first | refine blk_drewN ?_ _ | refine blk_drew ?_ | refine blk_alloc ?_ _)); refine blk_far ?_ NB376_387.out _; (with_reducible repeat (first | refine blk_drewN ?_ _ | refine blk_drew ?_ | refine blk_alloc ?_ _)); exact BK376.out))⟩; have n3_ : Aside0 (w121.heap[gb387]? = some (.cells #[.int .i64 t383, .int .i64 t384, .string t385] 23 (0, 0))) := ⟨(by rw [hw]; exact (by (with_reducible repeat (first | refine blk_drewN ?_ _ | refine blk_drew ?_ | refine blk_alloc ?_ _)); refine blk_put (cs := #[.int .i64 t383, .int .i64 t384, .string (⟨#[]⟩ : ByteArray)]) ?_ 2 _ rfl; (with_reducible repeat (first | refine blk_drewN ?_ _ | refine blk_drew ?_ | refine blk_alloc ?_ _)); refine blk_put (cs := #[.int .i64 t383, .int .i64 0, .string (⟨#[]⟩ : ByteArray)]) ?_ 1 _ rfl; (with_reducible repeat (first | refine blk_drewN ?_ _ | refine blk_drew ?_ | refine blk_alloc ?_ _)); refine blk_put (cs := #[.int .i64 0, .int .i64 0, .string (⟨#[]⟩ : ByteArray)]) ?_ 0 _ rfl; (with_reducible repeat (first | refine blk_drewN ?_ _ | refine blk_drew ?_ | refine blk_alloc ?_ _)); exact BK387.out))⟩; have n4_ : Aside0 (Below w.heap.size w w121) := ⟨(by rw [hw]; exact (by repeat (first | (with_reducible first | exact HB.out | apply below_alloc | apply pw_below_drewN | apply below_drew1 | refine below_set ?_ GE374.out | refine below_set ?_ GE375.out | refine below_set ?_ GE376.out | refine below_set ?_ GE387.out) | exact HB.out)))⟩; clear hw; clear BK374; clear BK375; clear BK376; clear BK387; clear HB; have BK374 := n0_; have BK375 := n1_; have BK376 := n2_; have BK387 := n3_; have HB := n4_; clear n0_ n1_ n2_ n3_ n4_; have hcz122_0 : w121.cell? ⟨gb374, 0, none⟩ = some (.int .i64 a0_0) := (blk_cell BK374.out 0).trans rfl; have hcz122_1 : w121.cell? ⟨gb374, 1, none⟩ = some (.int .i64 a0_1) := (blk_cell BK374.out 1).trans rfl; have hcz122_2 : w121.cell? ⟨gb374, 2, none⟩ = some (.string a0_2) := (blk_cell BK374.out 2).trans rfl; have hfz122_0 := blk_frozen BK374.out 0; have hfz122_1 := blk_frozen BK374.out 1; have hfz122_2 := blk_frozen BK374.out 2; have hcz123_0 : w121.cell? ⟨gb375, 0, none⟩ = some (.int .i64 a1_0) := (blk_cell BK375.out 0).trans rfl; have hcz123_1 : w121.cell? ⟨gb375, 1, none⟩ = some (.int .i64 a1_1) := (blk_cell BK375.out 1).trans rfl; have hcz123_2 : w121.cell? ⟨gb375, 2, none⟩ = some (.string a1_2) := (blk_cell BK375.out 2).trans rfl; have hfz123_0 := blk_frozen BK375.out 0; have hfz123_1 := blk_frozen BK375.out 1; have hfz123_2 := blk_frozen BK375.out 2) | ((with_reducible refine gate_callee (f := 17) rfl ?_); refine goesL_ (some 90) rfl rfl Tryd.func17 (by kernel_rfl) rfl #[.int .i64 6, .agg #[.int .i64 a0_0, .int .i64 a0_1, .string a0_2], .agg #[.int .i64 a1_0, .int .i64 a1_1, .string a1_2]] rfl (by (try simp only [List.map_toArray, List.map_cons, List.map_nil]); first | done | rfl | (simp only [List.length_drop, List.length_take]; rfl)) ?_; (with_reducible refine (value_Compare.calls kj33 6 a0_0 a0_1 a0_2 a1_0 a1_1 a1_2 t388 t389 t390 t391 _ A104.out).mono ?_); rintro e w124 ⟨rfl, hb⟩; refine ⟨_, rfl, ?_⟩; have n0_ := Aside0.mk (blk_below (g := gb374) (o := .cells #[.int .i64 a0_0, .int .i64 a0_1, .string a0_2] 23 (0, 0)) (by (with_reducible repeat (first | refine blk_drewN ?_ _ | refine blk_drew ?_ | refine blk_alloc ?_ _)); exact BK374.out) hb); have n1_ := Aside0.mk (blk_below (g := gb375) (o := .cells #[.int .i64 a1_0, .int .i64 a1_1, .string a1_2] 23 (0, 0)) (by (with_reducible repeat (first | refine blk_drewN ?_ _ | refine blk_drew ?_ | refine blk_alloc ?_ _)); exact BK375.out) hb); have n2_ := Aside0.mk (blk_below (g := gb376) (o := .cells #[.int .i64 a2_0, .int .i64 a2_1, .string a2_2] 23 (0, 0)) (by (with_reducible repeat (first | refine blk_drewN ?_ _ | refine blk_drew ?_ | refine blk_alloc ?_ _)); exact BK376.out) hb); have n3_ := Aside0.mk (blk_below (g := gb387) (o := .cells #[.int .i64 t383, .int .i64 t384, .string t385] 23 (0, 0)) (by (with_reducible repeat (first | refine blk_drewN ?_ _ | refine blk_drew ?_ | refine blk_alloc ?_ _)); exact BK387.out) hb); have n4_ := Aside0.mk (below_step (by repeat (first | (with_reducible first | exact HB.out | apply below_alloc | apply pw_below_drewN | apply below_drew1 | refine below_set ?_ GE374.out | refine below_set ?_ GE375.out | refine below_set ?_ GE376.out | refine below_set ?_ GE387.out) | exact HB.out)) hb); clear BK374; clear BK375; clear BK376; clear BK387; clear HB; have BK374 := n0_; have BK375 := n1_; have BK376 := n2_; have BK387 := n3_; have HB := n4_; clear n0_ n1_ n2_ n3_ n4_; (try clear hb); (try clear hb2); (try clear hk); (try clear hi)) | ((with_reducible refine gate_dst (N := 15) rfl ?_); refine box_event ?hg (N := 15) ?hd (cs := #[.int .i64 0, .int .i64 0, .string (⟨#[]⟩ : ByteArray)]) (t := 23) ?hr ?_; (case hd => rfl); (case hg => rfl); (case hr => first | (go_simp; done) | (go_simp; rfl)); intro gb392 hg w125 hbox hb; have n0_ := Aside0.mk (blk_below (g := gb374) (o := .cells #[.int .i64 a0_0, .int .i64 a0_1, .string a0_2] 23 (0, 0)) (by (with_reducible repeat (first | refine blk_drewN ?_ _ | refine blk_drew ?_ | refine blk_alloc ?_ _)); exact BK374.out) hb); have n1_ := Aside0.mk (blk_below (g := gb375) (o := .cells #[.int .i64 a1_0, .int .i64 a1_1, .string a1_2] 23 (0, 0)) (by (with_reducible repeat (first | refine blk_drewN ?_ _ | refine blk_drew ?_ | refine blk_alloc ?_ _)); exact BK375.out) hb); have n2_ := Aside0.mk (blk_below (g := gb376) (o := .cells #[.int .i64 a2_0, .int .i64 a2_1, .string a2_2] 23 (0, 0)) (by (with_reducible repeat (first | refine blk_drewN ?_ _ | refine blk_drew ?_ | refine blk_alloc ?_ _)); exact BK376.out) hb); have n3_ := Aside0.mk (blk_below (g := gb387) (o := .cells #[.int .i64 t383, .int .i64 t384, .string t385] 23 (0, 0)) (by (with_reducible repeat (first | refine blk_drewN ?_ _ | refine blk_drew ?_ | refine blk_alloc ?_ _)); exact BK387.out) hb); have n4_ := Aside0.mk (below_step (by repeat (first | (with_reducible first | exact HB.out | apply below_alloc | apply pw_below_drewN | apply below_drew1 | refine below_set ?_ GE374.out | refine below_set ?_ GE375.out | refine below_set ?_ GE376.out | refine below_set ?_ GE387.out) | exact HB.out)) hb); have n5_ := Aside0.mk (hbox); have n6_ := Aside0.mk ((by rw [hg]; exact (below_size (by repeat (first | (with_reducible first | exact HB.out | apply below_alloc | apply pw_below_drewN | apply below_drew1 | refine below_set ?_ GE374.out | refine below_set ?_ GE375.out | refine below_set ?_ GE376.out | refine below_set ?_ GE387.out) | exact HB.out))) : w.heap.size ≤ gb392)); have n7_ := Aside0.mk ((by rw [hg]; exact (below_size (by repeat (first | (with_reducible first | exact HB.out | apply below_alloc | apply pw_below_drewN | apply below_drew1 | refine below_set ?_ GE374.out | refine below_set ?_ GE375.out | refine below_set ?_ GE376.out | refine below_set ?_ GE387.out) | exact HB.out))) : w.heap.size ≤ gb392)); have n8_ := Aside0.mk ((by rw [hg]; exact Nat.ne_of_lt (blk_lt (g := gb374) (o := .cells #[.int .i64 a0_0, .int .i64 a0_1, .string a0_2] 23 (0, 0)) (by (with_reducible repeat (first | refine blk_drewN ?_ _ | refine blk_drew ?_ | refine blk_alloc ?_ _)); exact BK374.out)) : gb374 ≠ gb392)); have n9_ := Aside0.mk ((by rw [hg]; exact Nat.ne_of_gt (blk_lt (g := gb374) (o := .cells #[.int .i64 a0_0, .int .i64 a0_1, .string a0_2] 23 (0, 0)) (by (with_reducible repeat (first | refine blk_drewN ?_ _ | refine blk_drew ?_ | refine blk_alloc ?_ _)); exact BK374.out)) : gb392 ≠ gb374)); have n10_ := Aside0.mk ((by rw [hg]; exact Nat.ne_of_lt (blk_lt (g := gb375) (o := .cells #[.int .i64 a1_0, .int .i64 a1_1, .string a1_2] 23 (0, 0)) (by (with_reducible repeat (first | refine blk_drewN ?_ _ | refine blk_drew ?_ | refine blk_alloc ?_ _)); exact BK375.out)) : gb375 ≠ gb392)); have n11_ := Aside0.mk ((by rw [hg]; exact Nat.ne_of_gt (blk_lt (g := gb375) (o := .cells #[.int .i64 a1_0, .int .i64 a1_1, .string a1_2] 23 (0, 0)) (by (with_reducible repeat (first | refine blk_drewN ?_ _ | refine blk_drew ?_ | refine blk_alloc ?_ _)); exact BK375.out)) : gb392 ≠ gb375)); have n12_ := Aside0.mk ((by rw [hg]; exact Nat.ne_of_lt (blk_lt (g := gb376) (o := .cells #[.int .i64 a2_0, .int .i64 a2_1, .string a2_2] 23 (0, 0)) (by (with_reducible repeat (first | refine blk_drewN ?_ _ | refine blk_drew ?_ | refine blk_alloc ?_ _)); exact BK376.out)) : gb376 ≠ gb392)); have n13_ := Aside0.mk ((by rw [hg]; exact Nat.ne_of_gt (blk_lt (g := gb376) (o := .cells #[.int .i64 a2_0, .int .i64 a2_1, .string a2_2] 23 (0, 0)) (by (with_reducible repeat (first | refine blk_drewN ?_ _ | refine blk_drew ?_ | refine blk_alloc ?_ _)); exact BK376.out)) : gb392 ≠ gb376)); have n14_ := Aside0.mk ((by rw [hg]; exact Nat.ne_of_lt (blk_lt (g := gb387) (o := .cells #[.int .i64 t383, .int .i64 t384, .string t385] 23 (0, 0)) (by (with_reducible repeat (first | refine blk_drewN ?_ _ | refine blk_drew ?_ | refine blk_alloc ?_ _)); exact BK387.out)) : gb387 ≠ gb392)); have n15_ := Aside0.mk ((by rw [hg]; exact Nat.ne_of_gt (blk_lt (g := gb387) (o := .cells #[.int .i64 t383, .int .i64 t384, .string t385] 23 (0, 0)) (by (with_reducible repeat (first | refine blk_drewN ?_ _ | refine blk_drew ?_ | refine blk_alloc ?_ _)); exact BK387.out)) : gb392 ≠ gb387)); clear BK374; clear BK375; clear BK376; clear BK387; clear HB; have BK374 := n0_; have BK375 := n1_; have BK376 := n2_; have BK387 := n3_; have HB := n4_; have BK392 := n5_; have GW392 := n6_; have GE392 := n7_; have NB374_392 := n8_; have NB392_374 := n9_; have NB375_392 := n10_; have NB392_375 := n11_; have NB376_392 := n12_; have NB392_376 := n13_; have NB387_392 := n14_; have NB392_387 := n15_; clear n0_ n1_ n2_ n3_ n4_ n5_ n6_ n7_ n8_ n9_ n10_ n11_ n12_ n13_ n14_ n15_; clear hb hbox hg; have hnb126 := NB392_374.out; have hnc126 := NB374_392.out; have hnb127 := NB392_375.out; have hnc127 := NB375_392.out; have hnb128 := NB392_376.out; have hnc128 := NB376_392.out; have hnb129 := NB392_387.out; have hnc129 := NB387_392.out; have hcz130_0 : w125.cell? ⟨gb392, 0, none⟩ = some (.int .i64 0) := (blk_cell BK392.out 0).trans rfl; have hcz130_1 : w125.cell? ⟨gb392, 1, none⟩ = some (.int .i64 0) := (blk_cell BK392.out 1).trans rfl; have hcz130_2 : w125.cell? ⟨gb392, 2, none⟩ = some (.string (⟨#[]⟩ : ByteArray)) := (blk_cell BK392.out 2).trans rfl; have hfz130_0 := blk_frozen BK392.out 0; have hfz130_1 := blk_frozen BK392.out 1; have hfz130_2 := blk_frozen BK392.out 2) | ((with_reducible refine gate_store (t := 23) (p := 15) rfl ?_); refine store_event (t := 23) (p := 15) (v := ?vo_w131) (w1 := (((w125.setCell ⟨gb392, 0, none⟩ (.int .i64 t388)).setCell ⟨gb392, 1, none⟩ (.int .i64 t389)).setCell ⟨gb392, 2, none⟩ (.string t390))) ?hg ?ho ?hn ?hr ?_; (case ho => rfl); (case hg => rfl); (case hn => rfl); (case hr => first | (go_simp; done) | (go_simp; rfl)); intro w131 hw; have n0_ : Aside0 (w131.heap[gb374]? = some (.cells #[.int .i64 a0_0, .int .i64 a0_1, .string a0_2] 23 (0, 0))) := ⟨(by rw [hw]; exact (by (with_reducible repeat (first | refine blk_drewN ?_ _ | refine blk_drew ?_ | refine blk_alloc ?_ _)); refine blk_far ?_ NB374_392.out _; (with_reducible repeat (first | refine blk_drewN ?_ _ | refine blk_drew ?_ | refine blk_alloc ?_ _)); refine blk_far ?_ NB374_392.out _; (with_reducible repeat (first | refine blk_drewN ?_ _ | refine blk_drew ?_ | refine blk_alloc ?_ _)); refine blk_far ?_ NB374_392.out _; (with_reducible repeat (first | refine blk_drewN ?_ _ | refine blk_drew ?_ | refine blk_alloc ?_ _)); exact BK374.out))⟩; have n1_ : Aside0 (w131.heap[gb375]? = some (.cells #[.int .i64 a1_0, .int .i64 a1_1, .string a1_2] 23 (0, 0))) := ⟨(by rw [hw]; exact (by (with_reducible repeat (first | refine blk_drewN ?_ _ | refine blk_drew ?_ | refine blk_alloc ?_ _)); refine blk_far ?_ NB375_392.out _; (with_reducible repeat (first | refine blk_drewN ?_ _ | refine blk_drew ?_ | refine blk_alloc ?_ _)); refine blk_far ?_ NB375_392.out _; (with_reducible repeat (first | refine blk_drewN ?_ _ | refine blk_drew ?_ | refine blk_alloc ?_ _)); refine blk_far ?_ NB375_392.out _; (with_reducible repeat (first | refine blk_drewN ?_ _ | refine blk_drew ?_ | refine blk_alloc ?_ _)); exact BK375.out))⟩; have n2_ : Aside0 (w131.heap[gb376]? = some (.cells #[.int .i64 a2_0, .int .i64 a2_1, .string a2_2] 23 (0, 0))) := ⟨(by rw [hw]; exact (by (with_reducible repeat (first | refine blk_drewN ?_ _ | refine blk_drew ?_ | refine blk_alloc ?_ _)); refine blk_far ?_ NB376_392.out _; (with_reducible repeat (first | refine blk_drewN ?_ _ | refine blk_drew ?_ | refine blk_alloc ?_ _)); refine blk_far ?_ NB376_392.out _; (with_reducible repeat (first | refine blk_drewN ?_ _ | refine blk_drew ?_ | refine blk_alloc ?_ _)); refine blk_far ?_ NB376_392.out _; (with_reducible repeat (first | refine blk_drewN ?_ _ | refine blk_drew ?_ | refine blk_alloc ?_ _)); exact BK376.out))⟩; have n3_ : Aside0 (w131.heap[gb387]? = some (.cells #[.int .i64 t383, .int .i64 t384, .string t385] 23 (0, 0))) := ⟨(by rw [hw]; exact (by (with_reducible repeat (first | refine blk_drewN ?_ _ | refine blk_drew ?_ | refine blk_alloc ?_ _)); refine blk_far ?_ NB387_392.out _; (with_reducible repeat (first | refine blk_drewN ?_ _ | refine blk_drew ?_ | refine blk_alloc ?_ _)); refine blk_far ?_ NB387_392.out _; (with_reducible repeat (first | refine blk_drewN ?_ _ | refine blk_drew ?_ | refine blk_alloc ?_ _)); refine blk_far ?_ NB387_392.out _; (with_reducible repeat (first | refine blk_drewN ?_ _ | refine blk_drew ?_ | refine blk_alloc ?_ _)); exact BK387.out))⟩; have n4_ : Aside0 (w131.heap[gb392]? = some (.cells #[.int .i64 t388, .int .i64 t389, .string t390] 23 (0, 0))) := ⟨(by rw [hw]; exact (by (with_reducible repeat (first | refine blk_drewN ?_ _ | refine blk_drew ?_ | refine blk_alloc ?_ _)); refine blk_put (cs := #[.int .i64 t388, .int .i64 t389, .string (⟨#[]⟩ : ByteArray)]) ?_ 2 _ rfl; (with_reducible repeat (first | refine blk_drewN ?_ _ | refine blk_drew ?_ | refine blk_alloc ?_ _)); refine blk_put (cs := #[.int .i64 t388, .int .i64 0, .string (⟨#[]⟩ : ByteArray)]) ?_ 1 _ rfl; (with_reducible repeat (first | refine blk_drewN ?_ _ | refine blk_drew ?_ | refine blk_alloc ?_ _)); refine blk_put (cs := #[.int .i64 0, .int .i64 0, .string (⟨#[]⟩ : ByteArray)]) ?_ 0 _ rfl; (with_reducible repeat (first | refine blk_drewN ?_ _ | refine blk_drew ?_ | refine blk_alloc ?_ _)); exact BK392.out))⟩; have n5_ : Aside0 (Below w.heap.size w w131) := ⟨(by rw [hw]; exact (by repeat (first | (with_reducible first | exact HB.out | apply below_alloc | apply pw_below_drewN | apply below_drew1 | refine below_set ?_ GE374.out | refine below_set ?_ GE375.out | refine below_set ?_ GE376.out | refine below_set ?_ GE387.out | refine below_set ?_ GE392.out) | exact HB.out)))⟩; clear hw; clear BK374; clear BK375; clear BK376; clear BK387; clear BK392; clear HB; have BK374 := n0_; have BK375 := n1_; have BK376 := n2_; have BK387 := n3_; have BK392 := n4_; have HB := n5_; clear n0_ n1_ n2_ n3_ n4_ n5_; have hcz132_0 : w131.cell? ⟨gb374, 0, none⟩ = some (.int .i64 a0_0) := (blk_cell BK374.out 0).trans rfl; have hcz132_1 : w131.cell? ⟨gb374, 1, none⟩ = some (.int .i64 a0_1) := (blk_cell BK374.out 1).trans rfl; have hcz132_2 : w131.cell? ⟨gb374, 2, none⟩ = some (.string a0_2) := (blk_cell BK374.out 2).trans rfl; have hfz132_0 := blk_frozen BK374.out 0; have hfz132_1 := blk_frozen BK374.out 1; have hfz132_2 := blk_frozen BK374.out 2; have hcz133_0 : w131.cell? ⟨gb387, 0, none⟩ = some (.int .i64 t383) := (blk_cell BK387.out 0).trans rfl; have hcz133_1 : w131.cell? ⟨gb387, 1, none⟩ = some (.int .i64 t384) := (blk_cell BK387.out 1).trans rfl; have hcz133_2 : w131.cell? ⟨gb387, 2, none⟩ = some (.string t385) := (blk_cell BK387.out 2).trans rfl; have hfz133_0 := blk_frozen BK387.out 0; have hfz133_1 := blk_frozen BK387.out 1; have hfz133_2 := blk_frozen BK387.out 2; have hcz134_0 : w131.cell? ⟨gb392, 0, none⟩ = some (.int .i64 t388) := (blk_cell BK392.out 0).trans rfl; have hcz134_1 : w131.cell? ⟨gb392, 1, none⟩ = some (.int .i64 t389) := (blk_cell BK392.out 1).trans rfl; have hcz134_2 : w131.cell? ⟨gb392, 2, none⟩ = some (.string t390) := (blk_cell BK392.out 2).trans rfl; have hfz134_0 := blk_frozen BK392.out 0; have hfz134_1 := blk_frozen BK392.out 1; have hfz134_2 := blk_frozen BK392.out 2))
           go_ret
           exact ⟨by first | (simp only [ByteArray.size_extract, Nat.min_self]; rfl) | rfl | (simp [errW_none, errW_some] <;> rfl) | (simp [*, errW_none, errW_some] <;> rfl), by repeat (first | (with_reducible first | exact HB.out | apply below_alloc | apply pw_below_drewN | apply below_drew1 | refine below_set ?_ GE374.out | refine below_set ?_ GE375.out | refine below_set ?_ GE376.out | refine below_set ?_ GE387.out | refine below_set ?_ GE392.out) | exact HB.out)⟩
          ·
           rw [if_neg c109] at H
           exact absurd H (by simp)
         ·
          replace c108 := Bool.eq_false_iff.mpr c108
          subst c108
          have H1 : (none) = some r := by rw [if_neg (show ¬ (false = true) by decide)] at H; exact H
          clear H
          have H := H1
          clear H1
          exact absurd H (by simp)
        ·
         rw [if_neg c107] at H
         have c107b0 : (a0_0 == 0) = false := beq_eq_false_iff_ne.mpr c107
         have c107b1 : (a0_0 != 0) = true := bne_iff_ne.mpr c107
         have HC135 := Aside0.mk H
         clear H
         have hnb136 := NB374_375.out
         have hnc136 := NB375_374.out
         have hnb137 := NB374_376.out
         have hnc137 := NB376_374.out
         have hcz138_0 : wc.cell? ⟨gb374, 0, none⟩ = some (.int .i64 a0_0) := (blk_cell BK374.out 0).trans rfl
         have hcz138_1 : wc.cell? ⟨gb374, 1, none⟩ = some (.int .i64 a0_1) := (blk_cell BK374.out 1).trans rfl
         have hcz138_2 : wc.cell? ⟨gb374, 2, none⟩ = some (.string a0_2) := (blk_cell BK374.out 2).trans rfl
         have hfz138_0 := blk_frozen BK374.out 0
         have hfz138_1 := blk_frozen BK374.out 1
         have hfz138_2 := blk_frozen BK374.out 2
         have hnb139 := NB375_376.out
         have hnc139 := NB376_375.out
         have hcz140_0 : wc.cell? ⟨gb375, 0, none⟩ = some (.int .i64 a1_0) := (blk_cell BK375.out 0).trans rfl
         have hcz140_1 : wc.cell? ⟨gb375, 1, none⟩ = some (.int .i64 a1_1) := (blk_cell BK375.out 1).trans rfl
         have hcz140_2 : wc.cell? ⟨gb375, 2, none⟩ = some (.string a1_2) := (blk_cell BK375.out 2).trans rfl
         have hfz140_0 := blk_frozen BK375.out 0
         have hfz140_1 := blk_frozen BK375.out 1
         have hfz140_2 := blk_frozen BK375.out 2
         go_upto_if 107 with (first | ((with_reducible refine gate_callee (f := 17) rfl ?_); refine goesL_ (some 84) rfl rfl Tryd.func17 (by kernel_rfl) rfl #[.int .i64 3, .agg #[.int .i64 a0_0, .int .i64 a0_1, .string a0_2], .agg #[.int .i64 a1_0, .int .i64 a1_1, .string a1_2]] rfl (by (try simp only [List.map_toArray, List.map_cons, List.map_nil]); first | done | rfl | (simp only [List.length_drop, List.length_take]; rfl)) ?_; (with_reducible refine (value_Compare.calls kj33 3 a0_0 a0_1 a0_2 a1_0 a1_1 a1_2 t383 t384 t385 t386 _ A103.out).mono ?_); rintro e w141 ⟨rfl, hb⟩; refine ⟨_, rfl, ?_⟩; have n0_ := Aside0.mk (blk_below (g := gb374) (o := .cells #[.int .i64 a0_0, .int .i64 a0_1, .string a0_2] 23 (0, 0)) (by (with_reducible repeat (first | refine blk_drewN ?_ _ | refine blk_drew ?_ | refine blk_alloc ?_ _)); exact BK374.out) hb); have n1_ := Aside0.mk (blk_below (g := gb375) (o := .cells #[.int .i64 a1_0, .int .i64 a1_1, .string a1_2] 23 (0, 0)) (by (with_reducible repeat (first | refine blk_drewN ?_ _ | refine blk_drew ?_ | refine blk_alloc ?_ _)); exact BK375.out) hb); have n2_ := Aside0.mk (blk_below (g := gb376) (o := .cells #[.int .i64 a2_0, .int .i64 a2_1, .string a2_2] 23 (0, 0)) (by (with_reducible repeat (first | refine blk_drewN ?_ _ | refine blk_drew ?_ | refine blk_alloc ?_ _)); exact BK376.out) hb); have n3_ := Aside0.mk (below_step (by repeat (first | (with_reducible first | exact HB.out | apply below_alloc | apply pw_below_drewN | apply below_drew1 | refine below_set ?_ GE374.out | refine below_set ?_ GE375.out | refine below_set ?_ GE376.out) | exact HB.out)) hb); clear BK374; clear BK375; clear BK376; clear HB; have BK374 := n0_; have BK375 := n1_; have BK376 := n2_; have HB := n3_; clear n0_ n1_ n2_ n3_; (try clear hb); (try clear hb2); (try clear hk); (try clear hi)) | ((with_reducible refine gate_dst (N := 13) rfl ?_); refine box_event ?hg (N := 13) ?hd (cs := #[.int .i64 0, .int .i64 0, .string (⟨#[]⟩ : ByteArray)]) (t := 23) ?hr ?_; (case hd => rfl); (case hg => rfl); (case hr => first | (go_simp; done) | (go_simp; rfl)); intro gb387 hg w142 hbox hb; have n0_ := Aside0.mk (blk_below (g := gb374) (o := .cells #[.int .i64 a0_0, .int .i64 a0_1, .string a0_2] 23 (0, 0)) (by (with_reducible repeat (first | refine blk_drewN ?_ _ | refine blk_drew ?_ | refine blk_alloc ?_ _)); exact BK374.out) hb); have n1_ := Aside0.mk (blk_below (g := gb375) (o := .cells #[.int .i64 a1_0, .int .i64 a1_1, .string a1_2] 23 (0, 0)) (by (with_reducible repeat (first | refine blk_drewN ?_ _ | refine blk_drew ?_ | refine blk_alloc ?_ _)); exact BK375.out) hb); have n2_ := Aside0.mk (blk_below (g := gb376) (o := .cells #[.int .i64 a2_0, .int .i64 a2_1, .string a2_2] 23 (0, 0)) (by (with_reducible repeat (first | refine blk_drewN ?_ _ | refine blk_drew ?_ | refine blk_alloc ?_ _)); exact BK376.out) hb); have n3_ := Aside0.mk (below_step (by repeat (first | (with_reducible first | exact HB.out | apply below_alloc | apply pw_below_drewN | apply below_drew1 | refine below_set ?_ GE374.out | refine below_set ?_ GE375.out | refine below_set ?_ GE376.out) | exact HB.out)) hb); have n4_ := Aside0.mk (hbox); have n5_ := Aside0.mk ((by rw [hg]; exact (below_size (by repeat (first | (with_reducible first | exact HB.out | apply below_alloc | apply pw_below_drewN | apply below_drew1 | refine below_set ?_ GE374.out | refine below_set ?_ GE375.out | refine below_set ?_ GE376.out) | exact HB.out))) : w.heap.size ≤ gb387)); have n6_ := Aside0.mk ((by rw [hg]; exact (below_size (by repeat (first | (with_reducible first | exact HB.out | apply below_alloc | apply pw_below_drewN | apply below_drew1 | refine below_set ?_ GE374.out | refine below_set ?_ GE375.out | refine below_set ?_ GE376.out) | exact HB.out))) : w.heap.size ≤ gb387)); have n7_ := Aside0.mk ((by rw [hg]; exact Nat.ne_of_lt (blk_lt (g := gb374) (o := .cells #[.int .i64 a0_0, .int .i64 a0_1, .string a0_2] 23 (0, 0)) (by (with_reducible repeat (first | refine blk_drewN ?_ _ | refine blk_drew ?_ | refine blk_alloc ?_ _)); exact BK374.out)) : gb374 ≠ gb387)); have n8_ := Aside0.mk ((by rw [hg]; exact Nat.ne_of_gt (blk_lt (g := gb374) (o := .cells #[.int .i64 a0_0, .int .i64 a0_1, .string a0_2] 23 (0, 0)) (by (with_reducible repeat (first | refine blk_drewN ?_ _ | refine blk_drew ?_ | refine blk_alloc ?_ _)); exact BK374.out)) : gb387 ≠ gb374)); have n9_ := Aside0.mk ((by rw [hg]; exact Nat.ne_of_lt (blk_lt (g := gb375) (o := .cells #[.int .i64 a1_0, .int .i64 a1_1, .string a1_2] 23 (0, 0)) (by (with_reducible repeat (first | refine blk_drewN ?_ _ | refine blk_drew ?_ | refine blk_alloc ?_ _)); exact BK375.out)) : gb375 ≠ gb387)); have n10_ := Aside0.mk ((by rw [hg]; exact Nat.ne_of_gt (blk_lt (g := gb375) (o := .cells #[.int .i64 a1_0, .int .i64 a1_1, .string a1_2] 23 (0, 0)) (by (with_reducible repeat (first | refine blk_drewN ?_ _ | refine blk_drew ?_ | refine blk_alloc ?_ _)); exact BK375.out)) : gb387 ≠ gb375)); have n11_ := Aside0.mk ((by rw [hg]; exact Nat.ne_of_lt (blk_lt (g := gb376) (o := .cells #[.int .i64 a2_0, .int .i64 a2_1, .string a2_2] 23 (0, 0)) (by (with_reducible repeat (first | refine blk_drewN ?_ _ | refine blk_drew ?_ | refine blk_alloc ?_ _)); exact BK376.out)) : gb376 ≠ gb387)); have n12_ := Aside0.mk ((by rw [hg]; exact Nat.ne_of_gt (blk_lt (g := gb376) (o := .cells #[.int .i64 a2_0, .int .i64 a2_1, .string a2_2] 23 (0, 0)) (by (with_reducible repeat (first | refine blk_drewN ?_ _ | refine blk_drew ?_ | refine blk_alloc ?_ _)); exact BK376.out)) : gb387 ≠ gb376)); clear BK374; clear BK375; clear BK376; clear HB; have BK374 := n0_; have BK375 := n1_; have BK376 := n2_; have HB := n3_; have BK387 := n4_; have GW387 := n5_; have GE387 := n6_; have NB374_387 := n7_; have NB387_374 := n8_; have NB375_387 := n9_; have NB387_375 := n10_; have NB376_387 := n11_; have NB387_376 := n12_; clear n0_ n1_ n2_ n3_ n4_ n5_ n6_ n7_ n8_ n9_ n10_ n11_ n12_; clear hb hbox hg; have hnb143 := NB387_374.out; have hnc143 := NB374_387.out; have hnb144 := NB387_375.out; have hnc144 := NB375_387.out; have hnb145 := NB387_376.out; have hnc145 := NB376_387.out; have hcz146_0 : w142.cell? ⟨gb387, 0, none⟩ = some (.int .i64 0) := (blk_cell BK387.out 0).trans rfl; have hcz146_1 : w142.cell? ⟨gb387, 1, none⟩ = some (.int .i64 0) := (blk_cell BK387.out 1).trans rfl; have hcz146_2 : w142.cell? ⟨gb387, 2, none⟩ = some (.string (⟨#[]⟩ : ByteArray)) := (blk_cell BK387.out 2).trans rfl; have hfz146_0 := blk_frozen BK387.out 0; have hfz146_1 := blk_frozen BK387.out 1; have hfz146_2 := blk_frozen BK387.out 2) | ((with_reducible refine gate_store (t := 23) (p := 13) rfl ?_); refine store_event (t := 23) (p := 13) (v := ?vo_w147) (w1 := (((w142.setCell ⟨gb387, 0, none⟩ (.int .i64 t383)).setCell ⟨gb387, 1, none⟩ (.int .i64 t384)).setCell ⟨gb387, 2, none⟩ (.string t385))) ?hg ?ho ?hn ?hr ?_; (case ho => rfl); (case hg => rfl); (case hn => rfl); (case hr => first | (go_simp; done) | (go_simp; rfl)); intro w147 hw; have n0_ : Aside0 (w147.heap[gb374]? = some (.cells #[.int .i64 a0_0, .int .i64 a0_1, .string a0_2] 23 (0, 0))) := ⟨(by rw [hw]; exact (by (with_reducible repeat (first | refine blk_drewN ?_ _ | refine blk_drew ?_ | refine blk_alloc ?_ _)); refine blk_far ?_ NB374_387.out _; (with_reducible repeat (first | refine blk_drewN ?_ _ | refine blk_drew ?_ | refine blk_alloc ?_ _)); refine blk_far ?_ NB374_387.out _; (with_reducible repeat (first | refine blk_drewN ?_ _ | refine blk_drew ?_ | refine blk_alloc ?_ _)); refine blk_far ?_ NB374_387.out _; (with_reducible repeat (first | refine blk_drewN ?_ _ | refine blk_drew ?_ | refine blk_alloc ?_ _)); exact BK374.out))⟩; have n1_ : Aside0 (w147.heap[gb375]? = some (.cells #[.int .i64 a1_0, .int .i64 a1_1, .string a1_2] 23 (0, 0))) := ⟨(by rw [hw]; exact (by (with_reducible repeat (first | refine blk_drewN ?_ _ | refine blk_drew ?_ | refine blk_alloc ?_ _)); refine blk_far ?_ NB375_387.out _; (with_reducible repeat (first | refine blk_drewN ?_ _ | refine blk_drew ?_ | refine blk_alloc ?_ _)); refine blk_far ?_ NB375_387.out _; (with_reducible repeat (first | refine blk_drewN ?_ _ | refine blk_drew ?_ | refine blk_alloc ?_ _)); refine blk_far ?_ NB375_387.out _; (with_reducible repeat (first | refine blk_drewN ?_ _ | refine blk_drew ?_ | refine blk_alloc ?_ _)); exact BK375.out))⟩; have n2_ : Aside0 (w147.heap[gb376]? = some (.cells #[.int .i64 a2_0, .int .i64 a2_1, .string a2_2] 23 (0, 0))) := ⟨(by rw [hw]; exact (by (with_reducible repeat (first | refine blk_drewN ?_ _ | refine blk_drew ?_ | refine blk_alloc ?_ _)); refine blk_far ?_ NB376_387.out _; (with_reducible repeat (first | refine blk_drewN ?_ _ | refine blk_drew ?_ | refine blk_alloc ?_ _)); refine blk_far ?_ NB376_387.out _; (with_reducible repeat (first | refine blk_drewN ?_ _ | refine blk_drew ?_ | refine blk_alloc ?_ _)); refine blk_far ?_ NB376_387.out _; (with_reducible repeat (first | refine blk_drewN ?_ _ | refine blk_drew ?_ | refine blk_alloc ?_ _)); exact BK376.out))⟩; have n3_ : Aside0 (w147.heap[gb387]? = some (.cells #[.int .i64 t383, .int .i64 t384, .string t385] 23 (0, 0))) := ⟨(by rw [hw]; exact (by (with_reducible repeat (first | refine blk_drewN ?_ _ | refine blk_drew ?_ | refine blk_alloc ?_ _)); refine blk_put (cs := #[.int .i64 t383, .int .i64 t384, .string (⟨#[]⟩ : ByteArray)]) ?_ 2 _ rfl; (with_reducible repeat (first | refine blk_drewN ?_ _ | refine blk_drew ?_ | refine blk_alloc ?_ _)); refine blk_put (cs := #[.int .i64 t383, .int .i64 0, .string (⟨#[]⟩ : ByteArray)]) ?_ 1 _ rfl; (with_reducible repeat (first | refine blk_drewN ?_ _ | refine blk_drew ?_ | refine blk_alloc ?_ _)); refine blk_put (cs := #[.int .i64 0, .int .i64 0, .string (⟨#[]⟩ : ByteArray)]) ?_ 0 _ rfl; (with_reducible repeat (first | refine blk_drewN ?_ _ | refine blk_drew ?_ | refine blk_alloc ?_ _)); exact BK387.out))⟩; have n4_ : Aside0 (Below w.heap.size w w147) := ⟨(by rw [hw]; exact (by repeat (first | (with_reducible first | exact HB.out | apply below_alloc | apply pw_below_drewN | apply below_drew1 | refine below_set ?_ GE374.out | refine below_set ?_ GE375.out | refine below_set ?_ GE376.out | refine below_set ?_ GE387.out) | exact HB.out)))⟩; clear hw; clear BK374; clear BK375; clear BK376; clear BK387; clear HB; have BK374 := n0_; have BK375 := n1_; have BK376 := n2_; have BK387 := n3_; have HB := n4_; clear n0_ n1_ n2_ n3_ n4_; have hcz148_0 : w147.cell? ⟨gb374, 0, none⟩ = some (.int .i64 a0_0) := (blk_cell BK374.out 0).trans rfl; have hcz148_1 : w147.cell? ⟨gb374, 1, none⟩ = some (.int .i64 a0_1) := (blk_cell BK374.out 1).trans rfl; have hcz148_2 : w147.cell? ⟨gb374, 2, none⟩ = some (.string a0_2) := (blk_cell BK374.out 2).trans rfl; have hfz148_0 := blk_frozen BK374.out 0; have hfz148_1 := blk_frozen BK374.out 1; have hfz148_2 := blk_frozen BK374.out 2; have hcz149_0 : w147.cell? ⟨gb375, 0, none⟩ = some (.int .i64 a1_0) := (blk_cell BK375.out 0).trans rfl; have hcz149_1 : w147.cell? ⟨gb375, 1, none⟩ = some (.int .i64 a1_1) := (blk_cell BK375.out 1).trans rfl; have hcz149_2 : w147.cell? ⟨gb375, 2, none⟩ = some (.string a1_2) := (blk_cell BK375.out 2).trans rfl; have hfz149_0 := blk_frozen BK375.out 0; have hfz149_1 := blk_frozen BK375.out 1; have hfz149_2 := blk_frozen BK375.out 2) | ((with_reducible refine gate_callee (f := 17) rfl ?_); refine goesL_ (some 90) rfl rfl Tryd.func17 (by kernel_rfl) rfl #[.int .i64 6, .agg #[.int .i64 a0_0, .int .i64 a0_1, .string a0_2], .agg #[.int .i64 a1_0, .int .i64 a1_1, .string a1_2]] rfl (by (try simp only [List.map_toArray, List.map_cons, List.map_nil]); first | done | rfl | (simp only [List.length_drop, List.length_take]; rfl)) ?_; (with_reducible refine (value_Compare.calls kj33 6 a0_0 a0_1 a0_2 a1_0 a1_1 a1_2 t388 t389 t390 t391 _ A104.out).mono ?_); rintro e w150 ⟨rfl, hb⟩; refine ⟨_, rfl, ?_⟩; have n0_ := Aside0.mk (blk_below (g := gb374) (o := .cells #[.int .i64 a0_0, .int .i64 a0_1, .string a0_2] 23 (0, 0)) (by (with_reducible repeat (first | refine blk_drewN ?_ _ | refine blk_drew ?_ | refine blk_alloc ?_ _)); exact BK374.out) hb); have n1_ := Aside0.mk (blk_below (g := gb375) (o := .cells #[.int .i64 a1_0, .int .i64 a1_1, .string a1_2] 23 (0, 0)) (by (with_reducible repeat (first | refine blk_drewN ?_ _ | refine blk_drew ?_ | refine blk_alloc ?_ _)); exact BK375.out) hb); have n2_ := Aside0.mk (blk_below (g := gb376) (o := .cells #[.int .i64 a2_0, .int .i64 a2_1, .string a2_2] 23 (0, 0)) (by (with_reducible repeat (first | refine blk_drewN ?_ _ | refine blk_drew ?_ | refine blk_alloc ?_ _)); exact BK376.out) hb); have n3_ := Aside0.mk (blk_below (g := gb387) (o := .cells #[.int .i64 t383, .int .i64 t384, .string t385] 23 (0, 0)) (by (with_reducible repeat (first | refine blk_drewN ?_ _ | refine blk_drew ?_ | refine blk_alloc ?_ _)); exact BK387.out) hb); have n4_ := Aside0.mk (below_step (by repeat (first | (with_reducible first | exact HB.out | apply below_alloc | apply pw_below_drewN | apply below_drew1 | refine below_set ?_ GE374.out | refine below_set ?_ GE375.out | refine below_set ?_ GE376.out | refine below_set ?_ GE387.out) | exact HB.out)) hb); clear BK374; clear BK375; clear BK376; clear BK387; clear HB; have BK374 := n0_; have BK375 := n1_; have BK376 := n2_; have BK387 := n3_; have HB := n4_; clear n0_ n1_ n2_ n3_ n4_; (try clear hb); (try clear hb2); (try clear hk); (try clear hi)) | ((with_reducible refine gate_dst (N := 15) rfl ?_); refine box_event ?hg (N := 15) ?hd (cs := #[.int .i64 0, .int .i64 0, .string (⟨#[]⟩ : ByteArray)]) (t := 23) ?hr ?_; (case hd => rfl); (case hg => rfl); (case hr => first | (go_simp; done) | (go_simp; rfl)); intro gb392 hg w151 hbox hb; have n0_ := Aside0.mk (blk_below (g := gb374) (o := .cells #[.int .i64 a0_0, .int .i64 a0_1, .string a0_2] 23 (0, 0)) (by (with_reducible repeat (first | refine blk_drewN ?_ _ | refine blk_drew ?_ | refine blk_alloc ?_ _)); exact BK374.out) hb); have n1_ := Aside0.mk (blk_below (g := gb375) (o := .cells #[.int .i64 a1_0, .int .i64 a1_1, .string a1_2] 23 (0, 0)) (by (with_reducible repeat (first | refine blk_drewN ?_ _ | refine blk_drew ?_ | refine blk_alloc ?_ _)); exact BK375.out) hb); have n2_ := Aside0.mk (blk_below (g := gb376) (o := .cells #[.int .i64 a2_0, .int .i64 a2_1, .string a2_2] 23 (0, 0)) (by (with_reducible repeat (first | refine blk_drewN ?_ _ | refine blk_drew ?_ | refine blk_alloc ?_ _)); exact BK376.out) hb); have n3_ := Aside0.mk (blk_below (g := gb387) (o := .cells #[.int .i64 t383, .int .i64 t384, .string t385] 23 (0, 0)) (by (with_reducible repeat (first | refine blk_drewN ?_ _ | refine blk_drew ?_ | refine blk_alloc ?_ _)); exact BK387.out) hb); have n4_ := Aside0.mk (below_step (by repeat (first | (with_reducible first | exact HB.out | apply below_alloc | apply pw_below_drewN | apply below_drew1 | refine below_set ?_ GE374.out | refine below_set ?_ GE375.out | refine below_set ?_ GE376.out | refine below_set ?_ GE387.out) | exact HB.out)) hb); have n5_ := Aside0.mk (hbox); have n6_ := Aside0.mk ((by rw [hg]; exact (below_size (by repeat (first | (with_reducible first | exact HB.out | apply below_alloc | apply pw_below_drewN | apply below_drew1 | refine below_set ?_ GE374.out | refine below_set ?_ GE375.out | refine below_set ?_ GE376.out | refine below_set ?_ GE387.out) | exact HB.out))) : w.heap.size ≤ gb392)); have n7_ := Aside0.mk ((by rw [hg]; exact (below_size (by repeat (first | (with_reducible first | exact HB.out | apply below_alloc | apply pw_below_drewN | apply below_drew1 | refine below_set ?_ GE374.out | refine below_set ?_ GE375.out | refine below_set ?_ GE376.out | refine below_set ?_ GE387.out) | exact HB.out))) : w.heap.size ≤ gb392)); have n8_ := Aside0.mk ((by rw [hg]; exact Nat.ne_of_lt (blk_lt (g := gb374) (o := .cells #[.int .i64 a0_0, .int .i64 a0_1, .string a0_2] 23 (0, 0)) (by (with_reducible repeat (first | refine blk_drewN ?_ _ | refine blk_drew ?_ | refine blk_alloc ?_ _)); exact BK374.out)) : gb374 ≠ gb392)); have n9_ := Aside0.mk ((by rw [hg]; exact Nat.ne_of_gt (blk_lt (g := gb374) (o := .cells #[.int .i64 a0_0, .int .i64 a0_1, .string a0_2] 23 (0, 0)) (by (with_reducible repeat (first | refine blk_drewN ?_ _ | refine blk_drew ?_ | refine blk_alloc ?_ _)); exact BK374.out)) : gb392 ≠ gb374)); have n10_ := Aside0.mk ((by rw [hg]; exact Nat.ne_of_lt (blk_lt (g := gb375) (o := .cells #[.int .i64 a1_0, .int .i64 a1_1, .string a1_2] 23 (0, 0)) (by (with_reducible repeat (first | refine blk_drewN ?_ _ | refine blk_drew ?_ | refine blk_alloc ?_ _)); exact BK375.out)) : gb375 ≠ gb392)); have n11_ := Aside0.mk ((by rw [hg]; exact Nat.ne_of_gt (blk_lt (g := gb375) (o := .cells #[.int .i64 a1_0, .int .i64 a1_1, .string a1_2] 23 (0, 0)) (by (with_reducible repeat (first | refine blk_drewN ?_ _ | refine blk_drew ?_ | refine blk_alloc ?_ _)); exact BK375.out)) : gb392 ≠ gb375)); have n12_ := Aside0.mk ((by rw [hg]; exact Nat.ne_of_lt (blk_lt (g := gb376) (o := .cells #[.int .i64 a2_0, .int .i64 a2_1, .string a2_2] 23 (0, 0)) (by (with_reducible repeat (first | refine blk_drewN ?_ _ | refine blk_drew ?_ | refine blk_alloc ?_ _)); exact BK376.out)) : gb376 ≠ gb392)); have n13_ := Aside0.mk ((by rw [hg]; exact Nat.ne_of_gt (blk_lt (g := gb376) (o := .cells #[.int .i64 a2_0, .int .i64 a2_1, .string a2_2] 23 (0, 0)) (by (with_reducible repeat (first | refine blk_drewN ?_ _ | refine blk_drew ?_ | refine blk_alloc ?_ _)); exact BK376.out)) : gb392 ≠ gb376)); have n14_ := Aside0.mk ((by rw [hg]; exact Nat.ne_of_lt (blk_lt (g := gb387) (o := .cells #[.int .i64 t383, .int .i64 t384, .string t385] 23 (0, 0)) (by (with_reducible repeat (first | refine blk_drewN ?_ _ | refine blk_drew ?_ | refine blk_alloc ?_ _)); exact BK387.out)) : gb387 ≠ gb392)); have n15_ := Aside0.mk ((by rw [hg]; exact Nat.ne_of_gt (blk_lt (g := gb387) (o := .cells #[.int .i64 t383, .int .i64 t384, .string t385] 23 (0, 0)) (by (with_reducible repeat (first | refine blk_drewN ?_ _ | refine blk_drew ?_ | refine blk_alloc ?_ _)); exact BK387.out)) : gb392 ≠ gb387)); clear BK374; clear BK375; clear BK376; clear BK387; clear HB; have BK374 := n0_; have BK375 := n1_; have BK376 := n2_; have BK387 := n3_; have HB := n4_; have BK392 := n5_; have GW392 := n6_; have GE392 := n7_; have NB374_392 := n8_; have NB392_374 := n9_; have NB375_392 := n10_; have NB392_375 := n11_; have NB376_392 := n12_; have NB392_376 := n13_; have NB387_392 := n14_; have NB392_387 := n15_; clear n0_ n1_ n2_ n3_ n4_ n5_ n6_ n7_ n8_ n9_ n10_ n11_ n12_ n13_ n14_ n15_; clear hb hbox hg; have hnb152 := NB392_374.out; have hnc152 := NB374_392.out; have hnb153 := NB392_375.out; have hnc153 := NB375_392.out; have hnb154 := NB392_376.out; have hnc154 := NB376_392.out; have hnb155 := NB392_387.out; have hnc155 := NB387_392.out; have hcz156_0 : w151.cell? ⟨gb392, 0, none⟩ = some (.int .i64 0) := (blk_cell BK392.out 0).trans rfl; have hcz156_1 : w151.cell? ⟨gb392, 1, none⟩ = some (.int .i64 0) := (blk_cell BK392.out 1).trans rfl; have hcz156_2 : w151.cell? ⟨gb392, 2, none⟩ = some (.string (⟨#[]⟩ : ByteArray)) := (blk_cell BK392.out 2).trans rfl; have hfz156_0 := blk_frozen BK392.out 0; have hfz156_1 := blk_frozen BK392.out 1; have hfz156_2 := blk_frozen BK392.out 2) | ((with_reducible refine gate_store (t := 23) (p := 15) rfl ?_); refine store_event (t := 23) (p := 15) (v := ?vo_w157) (w1 := (((w151.setCell ⟨gb392, 0, none⟩ (.int .i64 t388)).setCell ⟨gb392, 1, none⟩ (.int .i64 t389)).setCell ⟨gb392, 2, none⟩ (.string t390))) ?hg ?ho ?hn ?hr ?_; (case ho => rfl); (case hg => rfl); (case hn => rfl); (case hr => first | (go_simp; done) | (go_simp; rfl)); intro w157 hw; have n0_ : Aside0 (w157.heap[gb374]? = some (.cells #[.int .i64 a0_0, .int .i64 a0_1, .string a0_2] 23 (0, 0))) := ⟨(by rw [hw]; exact (by (with_reducible repeat (first | refine blk_drewN ?_ _ | refine blk_drew ?_ | refine blk_alloc ?_ _)); refine blk_far ?_ NB374_392.out _; (with_reducible repeat (first | refine blk_drewN ?_ _ | refine blk_drew ?_ | refine blk_alloc ?_ _)); refine blk_far ?_ NB374_392.out _; (with_reducible repeat (first | refine blk_drewN ?_ _ | refine blk_drew ?_ | refine blk_alloc ?_ _)); refine blk_far ?_ NB374_392.out _; (with_reducible repeat (first | refine blk_drewN ?_ _ | refine blk_drew ?_ | refine blk_alloc ?_ _)); exact BK374.out))⟩; have n1_ : Aside0 (w157.heap[gb375]? = some (.cells #[.int .i64 a1_0, .int .i64 a1_1, .string a1_2] 23 (0, 0))) := ⟨(by rw [hw]; exact (by (with_reducible repeat (first | refine blk_drewN ?_ _ | refine blk_drew ?_ | refine blk_alloc ?_ _)); refine blk_far ?_ NB375_392.out _; (with_reducible repeat (first | refine blk_drewN ?_ _ | refine blk_drew ?_ | refine blk_alloc ?_ _)); refine blk_far ?_ NB375_392.out _; (with_reducible repeat (first | refine blk_drewN ?_ _ | refine blk_drew ?_ | refine blk_alloc ?_ _)); refine blk_far ?_ NB375_392.out _; (with_reducible repeat (first | refine blk_drewN ?_ _ | refine blk_drew ?_ | refine blk_alloc ?_ _)); exact BK375.out))⟩; have n2_ : Aside0 (w157.heap[gb376]? = some (.cells #[.int .i64 a2_0, .int .i64 a2_1, .string a2_2] 23 (0, 0))) := ⟨(by rw [hw]; exact (by (with_reducible repeat (first | refine blk_drewN ?_ _ | refine blk_drew ?_ | refine blk_alloc ?_ _)); refine blk_far ?_ NB376_392.out _; (with_reducible repeat (first | refine blk_drewN ?_ _ | refine blk_drew ?_ | refine blk_alloc ?_ _)); refine blk_far ?_ NB376_392.out _; (with_reducible repeat (first | refine blk_drewN ?_ _ | refine blk_drew ?_ | refine blk_alloc ?_ _)); refine blk_far ?_ NB376_392.out _; (with_reducible repeat (first | refine blk_drewN ?_ _ | refine blk_drew ?_ | refine blk_alloc ?_ _)); exact BK376.out))⟩; have n3_ : Aside0 (w157.heap[gb387]? = some (.cells #[.int .i64 t383, .int .i64 t384, .string t385] 23 (0, 0))) := ⟨(by rw [hw]; exact (by (with_reducible repeat (first | refine blk_drewN ?_ _ | refine blk_drew ?_ | refine blk_alloc ?_ _)); refine blk_far ?_ NB387_392.out _; (with_reducible repeat (first | refine blk_drewN ?_ _ | refine blk_drew ?_ | refine blk_alloc ?_ _)); refine blk_far ?_ NB387_392.out _; (with_reducible repeat (first | refine blk_drewN ?_ _ | refine blk_drew ?_ | refine blk_alloc ?_ _)); refine blk_far ?_ NB387_392.out _; (with_reducible repeat (first | refine blk_drewN ?_ _ | refine blk_drew ?_ | refine blk_alloc ?_ _)); exact BK387.out))⟩; have n4_ : Aside0 (w157.heap[gb392]? = some (.cells #[.int .i64 t388, .int .i64 t389, .string t390] 23 (0, 0))) := ⟨(by rw [hw]; exact (by (with_reducible repeat (first | refine blk_drewN ?_ _ | refine blk_drew ?_ | refine blk_alloc ?_ _)); refine blk_put (cs := #[.int .i64 t388, .int .i64 t389, .string (⟨#[]⟩ : ByteArray)]) ?_ 2 _ rfl; (with_reducible repeat (first | refine blk_drewN ?_ _ | refine blk_drew ?_ | refine blk_alloc ?_ _)); refine blk_put (cs := #[.int .i64 t388, .int .i64 0, .string (⟨#[]⟩ : ByteArray)]) ?_ 1 _ rfl; (with_reducible repeat (first | refine blk_drewN ?_ _ | refine blk_drew ?_ | refine blk_alloc ?_ _)); refine blk_put (cs := #[.int .i64 0, .int .i64 0, .string (⟨#[]⟩ : ByteArray)]) ?_ 0 _ rfl; (with_reducible repeat (first | refine blk_drewN ?_ _ | refine blk_drew ?_ | refine blk_alloc ?_ _)); exact BK392.out))⟩; have n5_ : Aside0 (Below w.heap.size w w157) := ⟨(by rw [hw]; exact (by repeat (first | (with_reducible first | exact HB.out | apply below_alloc | apply pw_below_drewN | apply below_drew1 | refine below_set ?_ GE374.out | refine below_set ?_ GE375.out | refine below_set ?_ GE376.out | refine below_set ?_ GE387.out | refine below_set ?_ GE392.out) | exact HB.out)))⟩; clear hw; clear BK374; clear BK375; clear BK376; clear BK387; clear BK392; clear HB; have BK374 := n0_; have BK375 := n1_; have BK376 := n2_; have BK387 := n3_; have BK392 := n4_; have HB := n5_; clear n0_ n1_ n2_ n3_ n4_ n5_; have hcz158_0 : w157.cell? ⟨gb374, 0, none⟩ = some (.int .i64 a0_0) := (blk_cell BK374.out 0).trans rfl; have hcz158_1 : w157.cell? ⟨gb374, 1, none⟩ = some (.int .i64 a0_1) := (blk_cell BK374.out 1).trans rfl; have hcz158_2 : w157.cell? ⟨gb374, 2, none⟩ = some (.string a0_2) := (blk_cell BK374.out 2).trans rfl; have hfz158_0 := blk_frozen BK374.out 0; have hfz158_1 := blk_frozen BK374.out 1; have hfz158_2 := blk_frozen BK374.out 2; have hcz159_0 : w157.cell? ⟨gb375, 0, none⟩ = some (.int .i64 a1_0) := (blk_cell BK375.out 0).trans rfl; have hcz159_1 : w157.cell? ⟨gb375, 1, none⟩ = some (.int .i64 a1_1) := (blk_cell BK375.out 1).trans rfl; have hcz159_2 : w157.cell? ⟨gb375, 2, none⟩ = some (.string a1_2) := (blk_cell BK375.out 2).trans rfl; have hfz159_0 := blk_frozen BK375.out 0; have hfz159_1 := blk_frozen BK375.out 1; have hfz159_2 := blk_frozen BK375.out 2))
         (try simp only [Act.put, List.setIfInBounds_toArray, List.set_cons_zero, List.set_cons_succ])
         go_cut [] (fun wc => ∃ (kq : Nat), Aside0 (unisonlaw01_ValueOrderly.j2 kq t377 t378 t383 t384 t385 t388 t389 t390 = some r) ∧ Aside0 (kq ≤ kj33) ∧ Aside0 (wc.heap[gb374]? = some (.cells #[.int .i64 a0_0, .int .i64 a0_1, .string a0_2] 23 (0, 0))) ∧ Aside0 (wc.heap[gb375]? = some (.cells #[.int .i64 a1_0, .int .i64 a1_1, .string a1_2] 23 (0, 0))) ∧ Aside0 (wc.heap[gb376]? = some (.cells #[.int .i64 a2_0, .int .i64 a2_1, .string a2_2] 23 (0, 0))) ∧ Aside0 (wc.heap[gb387]? = some (.cells #[.int .i64 t383, .int .i64 t384, .string t385] 23 (0, 0))) ∧ Aside0 (wc.heap[gb392]? = some (.cells #[.int .i64 t388, .int .i64 t389, .string t390] 23 (0, 0))) ∧ Aside0 (Below w.heap.size w wc))
         case first =>
          have H := HC135.out
          clear HC135
          by_cases c160 : a1_0 = 0
          ·
           rw [if_pos c160] at H
           have c160b0 : (a1_0 == 0) = true := beq_iff_eq.mpr c160
           have c160b1 : (a1_0 != 0) = false := bne_eq_false_iff_eq.mpr c160
           clear c160
           (first | rw [c160b0] | (simp only [i64_w, i32_w, u8_w, u32_w]; rw [c160b0]) | rw [c160b1] | skip)
           by_cases c161 : t377 = true
           ·
            subst c161
            have H1 : (if (t383 == t388 && (t384 == t389 && (t385.toList == t390.toList))) = true then (some (t383 == 0 && (t384 == 0 && (t385.toList == ([] : List UInt8))))) else (none)) = some r := by (first | rw [if_pos rfl] at H | rw [if_pos True.intro] at H | skip); exact H
            clear H
            have H := H1
            clear H1
            by_cases c162 : (t383 == t388 && (t384 == t389 && (t385.toList == t390.toList))) = true
            ·
             rw [if_pos c162] at H
             have c162b0 : (t383 == t388 && (t384 == t389 && (t385.toList == t390.toList))) = true := c162
             (try (have c162b1 : decide (t383 = t388 && (t384 == t389 && (t385.toList == t390.toList))) = true := by simpa using c162))
             (try (have c162b2 : (t383 == t388 && (t384 == t389 && (t385.toList == t390.toList))) = true := by simpa using c162))
             clear c162
             obtain rfl := Option.some.inj H
             have hnb163 := NB387_374.out
             have hnc163 := NB374_387.out
             have hnb164 := NB387_375.out
             have hnc164 := NB375_387.out
             have hnb165 := NB387_376.out
             have hnc165 := NB376_387.out
             have hnb166 := NB387_392.out
             have hnc166 := NB392_387.out
             have hcz167_0 : w157.cell? ⟨gb387, 0, none⟩ = some (.int .i64 t383) := (blk_cell BK387.out 0).trans rfl
             have hcz167_1 : w157.cell? ⟨gb387, 1, none⟩ = some (.int .i64 t384) := (blk_cell BK387.out 1).trans rfl
             have hcz167_2 : w157.cell? ⟨gb387, 2, none⟩ = some (.string t385) := (blk_cell BK387.out 2).trans rfl
             have hfz167_0 := blk_frozen BK387.out 0
             have hfz167_1 := blk_frozen BK387.out 1
             have hfz167_2 := blk_frozen BK387.out 2
             have hnb168 := NB392_374.out
             have hnc168 := NB374_392.out
             have hnb169 := NB392_375.out
             have hnc169 := NB375_392.out
             have hnb170 := NB392_376.out
             have hnc170 := NB376_392.out
             have hcz171_0 : w157.cell? ⟨gb392, 0, none⟩ = some (.int .i64 t388) := (blk_cell BK392.out 0).trans rfl
             have hcz171_1 : w157.cell? ⟨gb392, 1, none⟩ = some (.int .i64 t389) := (blk_cell BK392.out 1).trans rfl
             have hcz171_2 : w157.cell? ⟨gb392, 2, none⟩ = some (.string t390) := (blk_cell BK392.out 2).trans rfl
             have hfz171_0 := blk_frozen BK392.out 0
             have hfz171_1 := blk_frozen BK392.out 1
             have hfz171_2 := blk_frozen BK392.out 2
             go_wp2
             go_ret
             exact ⟨by first | (simp only [ByteArray.size_extract, Nat.min_self]; rfl) | rfl | (simp [errW_none, errW_some] <;> rfl) | (simp [*, errW_none, errW_some] <;> rfl), by repeat (first | (with_reducible first | exact HB.out | apply below_alloc | apply pw_below_drewN | apply below_drew1 | refine below_set ?_ GE374.out | refine below_set ?_ GE375.out | refine below_set ?_ GE376.out | refine below_set ?_ GE387.out | refine below_set ?_ GE392.out) | exact HB.out)⟩
            ·
             rw [if_neg c162] at H
             exact absurd H (by simp)
           ·
            replace c161 := Bool.eq_false_iff.mpr c161
            subst c161
            have H1 : (none) = some r := by rw [if_neg (show ¬ (false = true) by decide)] at H; exact H
            clear H
            have H := H1
            clear H1
            exact absurd H (by simp)
          ·
           rw [if_neg c160] at H
           have c160b0 : (a1_0 == 0) = false := beq_eq_false_iff_ne.mpr c160
           have c160b1 : (a1_0 != 0) = true := bne_iff_ne.mpr c160
           (first | rw [c160b0] | (simp only [i64_w, i32_w, u8_w, u32_w]; rw [c160b0]) | rw [c160b1] | skip)
           have H' := Aside0.mk H
           clear H
           go_wp2
           go_meet
           case rel => exact ⟨_, H', ⟨by have := HJ8.out; have := HJ33.out; first | omega | exact Nat.le_refl _⟩, ⟨by (with_reducible repeat (first | refine blk_drewN ?_ _ | refine blk_drew ?_ | refine blk_alloc ?_ _)); exact BK374.out⟩, ⟨by (with_reducible repeat (first | refine blk_drewN ?_ _ | refine blk_drew ?_ | refine blk_alloc ?_ _)); exact BK375.out⟩, ⟨by (with_reducible repeat (first | refine blk_drewN ?_ _ | refine blk_drew ?_ | refine blk_alloc ?_ _)); exact BK376.out⟩, ⟨by (with_reducible repeat (first | refine blk_drewN ?_ _ | refine blk_drew ?_ | refine blk_alloc ?_ _)); exact BK387.out⟩, ⟨by (with_reducible repeat (first | refine blk_drewN ?_ _ | refine blk_drew ?_ | refine blk_alloc ?_ _)); exact BK392.out⟩, ⟨by repeat (first | (with_reducible first | exact HB.out | apply below_alloc | apply pw_below_drewN | apply below_drew1 | refine below_set ?_ GE374.out | refine below_set ?_ GE375.out | refine below_set ?_ GE376.out | refine below_set ?_ GE387.out | refine below_set ?_ GE392.out) | exact HB.out)⟩⟩
         case rest =>
          clear HC135
          try clear c1
          try clear p2
          try clear c3
          try clear c4
          try clear c5
          try clear c6
          try clear p6
          try clear c7
          try clear c8
          try clear c9
          try clear c10
          try clear c11
          try clear c12
          try clear c13
          try clear c14
          try clear c15
          try clear c16
          try clear c17
          try clear c30
          try clear c31
          try clear c35
          try clear c35b0
          try clear c35b1
          try clear c36
          try clear c36b0
          try clear c36b1
          try clear c37
          try clear c37b0
          try clear c37b1
          try clear c37b2
          try clear c38
          try clear c39
          try clear c41
          try clear c43
          try clear c43b0
          try clear c44
          try clear c45
          try clear c47
          try clear c49
          try clear c49b0
          try clear c50
          try clear c51
          try clear c53
          try clear c55
          try clear c55b0
          try clear c56
          try clear c56b0
          try clear c57
          try clear c57b0
          try clear c58
          try clear c59
          try clear c61
          try clear c63
          try clear c63b0
          try clear c64
          try clear p64
          try clear c65
          try clear c67
          try clear c69
          try clear c70
          try clear c72
          try clear c74
          try clear c74b0
          try clear c75
          try clear c76
          try clear c78
          try clear c80
          try clear c81
          try clear c83
          try clear c85
          try clear c85b0
          try clear c86
          try clear c86b0
          try clear c87
          try clear c88
          try clear c90
          try clear c92
          try clear c93
          try clear c95
          try clear c97
          try clear c98
          try clear c100
          try clear c102
          try clear c105
          try clear c105b0
          try clear c105b1
          try clear c106
          try clear c106b0
          try clear c106b1
          try clear c107
          try clear c107b0
          try clear c107b1
          try clear c108
          try clear c109
          try clear c109b0
          try clear c109b1
          try clear c109b2
          try clear c110
          try clear c111
          try clear c113
          try clear c117
          try clear c118
          try clear c119
          try clear c126
          try clear c127
          try clear c128
          try clear c129
          try clear c136
          try clear c137
          try clear c139
          try clear c143
          try clear c144
          try clear c145
          try clear c152
          try clear c153
          try clear c154
          try clear c155
          try clear c160
          try clear c160b0
          try clear c160b1
          try clear c161
          try clear c162
          try clear c162b0
          try clear c162b1
          try clear c162b2
          try clear c163
          try clear c164
          try clear c165
          try clear c166
          try clear c168
          try clear c169
          try clear c170
          try clear hcz101_0
          try clear hcz101_1
          try clear hcz101_2
          try clear hcz112_0
          try clear hcz112_1
          try clear hcz112_2
          try clear hcz114_0
          try clear hcz114_1
          try clear hcz114_2
          try clear hcz120_0
          try clear hcz120_1
          try clear hcz120_2
          try clear hcz122_0
          try clear hcz122_1
          try clear hcz122_2
          try clear hcz123_0
          try clear hcz123_1
          try clear hcz123_2
          try clear hcz130_0
          try clear hcz130_1
          try clear hcz130_2
          try clear hcz132_0
          try clear hcz132_1
          try clear hcz132_2
          try clear hcz133_0
          try clear hcz133_1
          try clear hcz133_2
          try clear hcz134_0
          try clear hcz134_1
          try clear hcz134_2
          try clear hcz138_0
          try clear hcz138_1
          try clear hcz138_2
          try clear hcz140_0
          try clear hcz140_1
          try clear hcz140_2
          try clear hcz146_0
          try clear hcz146_1
          try clear hcz146_2
          try clear hcz148_0
          try clear hcz148_1
          try clear hcz148_2
          try clear hcz149_0
          try clear hcz149_1
          try clear hcz149_2
          try clear hcz156_0
          try clear hcz156_1
          try clear hcz156_2
          try clear hcz158_0
          try clear hcz158_1
          try clear hcz158_2
          try clear hcz159_0
          try clear hcz159_1
          try clear hcz159_2
          try clear hcz167_0
          try clear hcz167_1
          try clear hcz167_2
          try clear hcz16_0
          try clear hcz16_1
          try clear hcz16_2
          try clear hcz171_0
          try clear hcz171_1
          try clear hcz171_2
          try clear hcz18_0
          try clear hcz18_1
          try clear hcz18_2
          try clear hcz20_0
          try clear hcz20_1
          try clear hcz20_2
          try clear hcz21_0
          try clear hcz21_1
          try clear hcz21_2
          try clear hcz23_0
          try clear hcz23_1
          try clear hcz23_2
          try clear hcz24_0
          try clear hcz24_1
          try clear hcz24_2
          try clear hcz26_0
          try clear hcz26_1
          try clear hcz26_2
          try clear hcz27_0
          try clear hcz27_1
          try clear hcz27_2
          try clear hcz32_0
          try clear hcz32_1
          try clear hcz32_2
          try clear hcz40_0
          try clear hcz40_1
          try clear hcz40_2
          try clear hcz42_0
          try clear hcz42_1
          try clear hcz42_2
          try clear hcz46_0
          try clear hcz46_1
          try clear hcz46_2
          try clear hcz48_0
          try clear hcz48_1
          try clear hcz48_2
          try clear hcz52_0
          try clear hcz52_1
          try clear hcz52_2
          try clear hcz54_0
          try clear hcz54_1
          try clear hcz54_2
          try clear hcz60_0
          try clear hcz60_1
          try clear hcz60_2
          try clear hcz62_0
          try clear hcz62_1
          try clear hcz62_2
          try clear hcz66_0
          try clear hcz66_1
          try clear hcz66_2
          try clear hcz68_0
          try clear hcz68_1
          try clear hcz68_2
          try clear hcz71_0
          try clear hcz71_1
          try clear hcz71_2
          try clear hcz73_0
          try clear hcz73_1
          try clear hcz73_2
          try clear hcz77_0
          try clear hcz77_1
          try clear hcz77_2
          try clear hcz79_0
          try clear hcz79_1
          try clear hcz79_2
          try clear hcz82_0
          try clear hcz82_1
          try clear hcz82_2
          try clear hcz84_0
          try clear hcz84_1
          try clear hcz84_2
          try clear hcz89_0
          try clear hcz89_1
          try clear hcz89_2
          try clear hcz91_0
          try clear hcz91_1
          try clear hcz91_2
          try clear hcz94_0
          try clear hcz94_1
          try clear hcz94_2
          try clear hcz96_0
          try clear hcz96_1
          try clear hcz96_2
          try clear hcz99_0
          try clear hcz99_1
          try clear hcz99_2
          try clear hfz101_0
          try clear hfz101_1
          try clear hfz101_2
          try clear hfz112_0
          try clear hfz112_1
          try clear hfz112_2
          try clear hfz114_0
          try clear hfz114_1
          try clear hfz114_2
          try clear hfz120_0
          try clear hfz120_1
          try clear hfz120_2
          try clear hfz122_0
          try clear hfz122_1
          try clear hfz122_2
          try clear hfz123_0
          try clear hfz123_1
          try clear hfz123_2
          try clear hfz130_0
          try clear hfz130_1
          try clear hfz130_2
          try clear hfz132_0
          try clear hfz132_1
          try clear hfz132_2
          try clear hfz133_0
          try clear hfz133_1
          try clear hfz133_2
          try clear hfz134_0
          try clear hfz134_1
          try clear hfz134_2
          try clear hfz138_0
          try clear hfz138_1
          try clear hfz138_2
          try clear hfz140_0
          try clear hfz140_1
          try clear hfz140_2
          try clear hfz146_0
          try clear hfz146_1
          try clear hfz146_2
          try clear hfz148_0
          try clear hfz148_1
          try clear hfz148_2
          try clear hfz149_0
          try clear hfz149_1
          try clear hfz149_2
          try clear hfz156_0
          try clear hfz156_1
          try clear hfz156_2
          try clear hfz158_0
          try clear hfz158_1
          try clear hfz158_2
          try clear hfz159_0
          try clear hfz159_1
          try clear hfz159_2
          try clear hfz167_0
          try clear hfz167_1
          try clear hfz167_2
          try clear hfz16_0
          try clear hfz16_1
          try clear hfz16_2
          try clear hfz171_0
          try clear hfz171_1
          try clear hfz171_2
          try clear hfz18_0
          try clear hfz18_1
          try clear hfz18_2
          try clear hfz20_0
          try clear hfz20_1
          try clear hfz20_2
          try clear hfz21_0
          try clear hfz21_1
          try clear hfz21_2
          try clear hfz23_0
          try clear hfz23_1
          try clear hfz23_2
          try clear hfz24_0
          try clear hfz24_1
          try clear hfz24_2
          try clear hfz26_0
          try clear hfz26_1
          try clear hfz26_2
          try clear hfz27_0
          try clear hfz27_1
          try clear hfz27_2
          try clear hfz32_0
          try clear hfz32_1
          try clear hfz32_2
          try clear hfz40_0
          try clear hfz40_1
          try clear hfz40_2
          try clear hfz42_0
          try clear hfz42_1
          try clear hfz42_2
          try clear hfz46_0
          try clear hfz46_1
          try clear hfz46_2
          try clear hfz48_0
          try clear hfz48_1
          try clear hfz48_2
          try clear hfz52_0
          try clear hfz52_1
          try clear hfz52_2
          try clear hfz54_0
          try clear hfz54_1
          try clear hfz54_2
          try clear hfz60_0
          try clear hfz60_1
          try clear hfz60_2
          try clear hfz62_0
          try clear hfz62_1
          try clear hfz62_2
          try clear hfz66_0
          try clear hfz66_1
          try clear hfz66_2
          try clear hfz68_0
          try clear hfz68_1
          try clear hfz68_2
          try clear hfz71_0
          try clear hfz71_1
          try clear hfz71_2
          try clear hfz73_0
          try clear hfz73_1
          try clear hfz73_2
          try clear hfz77_0
          try clear hfz77_1
          try clear hfz77_2
          try clear hfz79_0
          try clear hfz79_1
          try clear hfz79_2
          try clear hfz82_0
          try clear hfz82_1
          try clear hfz82_2
          try clear hfz84_0
          try clear hfz84_1
          try clear hfz84_2
          try clear hfz89_0
          try clear hfz89_1
          try clear hfz89_2
          try clear hfz91_0
          try clear hfz91_1
          try clear hfz91_2
          try clear hfz94_0
          try clear hfz94_1
          try clear hfz94_2
          try clear hfz96_0
          try clear hfz96_1
          try clear hfz96_2
          try clear hfz99_0
          try clear hfz99_1
          try clear hfz99_2
          try clear p2
          try clear p6
          try clear p64
          obtain ⟨kq, HA, HJ134, BK374, BK375, BK376, BK387, BK392, HB⟩ := hcut
          cases kq with
          | zero => exact absurd HA.out (by simp [unisonlaw01_ValueOrderly.j2])
          | succ kj134 =>
           have H := HA.out
           clear HA
           simp only [unisonlaw01_ValueOrderly.j2] at H
           by_cases c172 : t377 = true
           ·
            subst c172
            have H1 : (if ((t384 == 1) == (decide (t378 < 0))) = true then (if (wrap64 (t384 + t389)) = 1 then (if t383 = 2 then (some (t388 == 2)) else (none)) else (none)) else (none)) = some r := by (first | rw [if_pos rfl] at H | rw [if_pos True.intro] at H | skip); exact H
            clear H
            have H := H1
            clear H1
            by_cases c173 : ((t384 == 1) == (decide (t378 < 0))) = true
            ·
             rw [if_pos c173] at H
             have c173b0 : ((t384 == 1) == (decide (t378 < 0))) = true := c173
             (try (have c173b1 : decide ((t384 == 1) = (decide (t378 < 0))) = true := by simpa using c173))
             (try (have c173b2 : ((t384 == 1) == (decide (t378 < 0))) = true := by simpa using c173))
             clear c173
             by_cases c174 : (wrap64 (t384 + t389)) = 1
             ·
              rw [if_pos c174] at H
              have c174b0 : ((wrap64 (t384 + t389)) == 1) = true := beq_iff_eq.mpr c174
              have c174b1 : ((wrap64 (t384 + t389)) != 1) = false := bne_eq_false_iff_eq.mpr c174
              clear c174
              by_cases c175 : t383 = 2
              ·
               rw [if_pos c175] at H
               have c175b0 : (t383 == 2) = true := beq_iff_eq.mpr c175
               have c175b1 : (t383 != 2) = false := bne_eq_false_iff_eq.mpr c175
               clear c175
               obtain rfl := Option.some.inj H
               have hnb176 := NB387_374.out
               have hnc176 := NB374_387.out
               have hnb177 := NB387_375.out
               have hnc177 := NB375_387.out
               have hnb178 := NB387_376.out
               have hnc178 := NB376_387.out
               have hnb179 := NB387_392.out
               have hnc179 := NB392_387.out
               have hcz180_0 : wc.cell? ⟨gb387, 0, none⟩ = some (.int .i64 t383) := (blk_cell BK387.out 0).trans rfl
               have hcz180_1 : wc.cell? ⟨gb387, 1, none⟩ = some (.int .i64 t384) := (blk_cell BK387.out 1).trans rfl
               have hcz180_2 : wc.cell? ⟨gb387, 2, none⟩ = some (.string t385) := (blk_cell BK387.out 2).trans rfl
               have hfz180_0 := blk_frozen BK387.out 0
               have hfz180_1 := blk_frozen BK387.out 1
               have hfz180_2 := blk_frozen BK387.out 2
               have hnb181 := NB392_374.out
               have hnc181 := NB374_392.out
               have hnb182 := NB392_375.out
               have hnc182 := NB375_392.out
               have hnb183 := NB392_376.out
               have hnc183 := NB376_392.out
               have hcz184_0 : wc.cell? ⟨gb392, 0, none⟩ = some (.int .i64 t388) := (blk_cell BK392.out 0).trans rfl
               have hcz184_1 : wc.cell? ⟨gb392, 1, none⟩ = some (.int .i64 t389) := (blk_cell BK392.out 1).trans rfl
               have hcz184_2 : wc.cell? ⟨gb392, 2, none⟩ = some (.string t390) := (blk_cell BK392.out 2).trans rfl
               have hfz184_0 := blk_frozen BK392.out 0
               have hfz184_1 := blk_frozen BK392.out 1
               have hfz184_2 := blk_frozen BK392.out 2
               go_wp2
               go_ret
               exact ⟨by first | (simp only [ByteArray.size_extract, Nat.min_self]; rfl) | rfl | (simp [errW_none, errW_some] <;> rfl) | (simp [*, errW_none, errW_some] <;> rfl), by repeat (first | (with_reducible first | exact HB.out | apply below_alloc | apply pw_below_drewN | apply below_drew1 | refine below_set ?_ GE374.out | refine below_set ?_ GE375.out | refine below_set ?_ GE376.out | refine below_set ?_ GE387.out | refine below_set ?_ GE392.out) | exact HB.out)⟩
              ·
               rw [if_neg c175] at H
               exact absurd H (by simp)
             ·
              rw [if_neg c174] at H
              exact absurd H (by simp)
            ·
             rw [if_neg c173] at H
             exact absurd H (by simp)
           ·
            replace c172 := Bool.eq_false_iff.mpr c172
            subst c172
            have H1 : (none) = some r := by rw [if_neg (show ¬ (false = true) by decide)] at H; exact H
            clear H
            have H := H1
            clear H1
            exact absurd H (by simp)
       ·
        rw [if_neg c106] at H
        have c106b0 : (t386 == 0) = false := beq_eq_false_iff_ne.mpr c106
        have c106b1 : (t386 != 0) = true := bne_iff_ne.mpr c106
        by_cases c185 : t377 = true
        ·
         subst c185
         have H1 : (if (t383 == t388 && (t384 == t389 && (t385.toList == t390.toList))) = true then (some (t383 == 0 && (t384 == 0 && (t385.toList == ([] : List UInt8))))) else (none)) = some r := by (first | rw [if_pos rfl] at H | rw [if_pos True.intro] at H | skip); exact H
         clear H
         have H := H1
         clear H1
         by_cases c186 : (t383 == t388 && (t384 == t389 && (t385.toList == t390.toList))) = true
         ·
          rw [if_pos c186] at H
          have c186b0 : (t383 == t388 && (t384 == t389 && (t385.toList == t390.toList))) = true := c186
          (try (have c186b1 : decide (t383 = t388 && (t384 == t389 && (t385.toList == t390.toList))) = true := by simpa using c186))
          (try (have c186b2 : (t383 == t388 && (t384 == t389 && (t385.toList == t390.toList))) = true := by simpa using c186))
          clear c186
          obtain rfl := Option.some.inj H
          have hnb187 := NB374_375.out
          have hnc187 := NB375_374.out
          have hnb188 := NB374_376.out
          have hnc188 := NB376_374.out
          have hcz189_0 : wc.cell? ⟨gb374, 0, none⟩ = some (.int .i64 a0_0) := (blk_cell BK374.out 0).trans rfl
          have hcz189_1 : wc.cell? ⟨gb374, 1, none⟩ = some (.int .i64 a0_1) := (blk_cell BK374.out 1).trans rfl
          have hcz189_2 : wc.cell? ⟨gb374, 2, none⟩ = some (.string a0_2) := (blk_cell BK374.out 2).trans rfl
          have hfz189_0 := blk_frozen BK374.out 0
          have hfz189_1 := blk_frozen BK374.out 1
          have hfz189_2 := blk_frozen BK374.out 2
          have hnb190 := NB375_376.out
          have hnc190 := NB376_375.out
          have hcz191_0 : wc.cell? ⟨gb375, 0, none⟩ = some (.int .i64 a1_0) := (blk_cell BK375.out 0).trans rfl
          have hcz191_1 : wc.cell? ⟨gb375, 1, none⟩ = some (.int .i64 a1_1) := (blk_cell BK375.out 1).trans rfl
          have hcz191_2 : wc.cell? ⟨gb375, 2, none⟩ = some (.string a1_2) := (blk_cell BK375.out 2).trans rfl
          have hfz191_0 := blk_frozen BK375.out 0
          have hfz191_1 := blk_frozen BK375.out 1
          have hfz191_2 := blk_frozen BK375.out 2
          go_wp2_with (first | ((with_reducible refine gate_callee (f := 17) rfl ?_); refine goesL_ (some 84) rfl rfl Tryd.func17 (by kernel_rfl) rfl #[.int .i64 3, .agg #[.int .i64 a0_0, .int .i64 a0_1, .string a0_2], .agg #[.int .i64 a1_0, .int .i64 a1_1, .string a1_2]] rfl (by (try simp only [List.map_toArray, List.map_cons, List.map_nil]); first | done | rfl | (simp only [List.length_drop, List.length_take]; rfl)) ?_; (with_reducible refine (value_Compare.calls kj33 3 a0_0 a0_1 a0_2 a1_0 a1_1 a1_2 t383 t384 t385 t386 _ A103.out).mono ?_); rintro e w192 ⟨rfl, hb⟩; refine ⟨_, rfl, ?_⟩; have n0_ := Aside0.mk (blk_below (g := gb374) (o := .cells #[.int .i64 a0_0, .int .i64 a0_1, .string a0_2] 23 (0, 0)) (by (with_reducible repeat (first | refine blk_drewN ?_ _ | refine blk_drew ?_ | refine blk_alloc ?_ _)); exact BK374.out) hb); have n1_ := Aside0.mk (blk_below (g := gb375) (o := .cells #[.int .i64 a1_0, .int .i64 a1_1, .string a1_2] 23 (0, 0)) (by (with_reducible repeat (first | refine blk_drewN ?_ _ | refine blk_drew ?_ | refine blk_alloc ?_ _)); exact BK375.out) hb); have n2_ := Aside0.mk (blk_below (g := gb376) (o := .cells #[.int .i64 a2_0, .int .i64 a2_1, .string a2_2] 23 (0, 0)) (by (with_reducible repeat (first | refine blk_drewN ?_ _ | refine blk_drew ?_ | refine blk_alloc ?_ _)); exact BK376.out) hb); have n3_ := Aside0.mk (below_step (by repeat (first | (with_reducible first | exact HB.out | apply below_alloc | apply pw_below_drewN | apply below_drew1 | refine below_set ?_ GE374.out | refine below_set ?_ GE375.out | refine below_set ?_ GE376.out) | exact HB.out)) hb); clear BK374; clear BK375; clear BK376; clear HB; have BK374 := n0_; have BK375 := n1_; have BK376 := n2_; have HB := n3_; clear n0_ n1_ n2_ n3_; (try clear hb); (try clear hb2); (try clear hk); (try clear hi)) | ((with_reducible refine gate_dst (N := 13) rfl ?_); refine box_event ?hg (N := 13) ?hd (cs := #[.int .i64 0, .int .i64 0, .string (⟨#[]⟩ : ByteArray)]) (t := 23) ?hr ?_; (case hd => rfl); (case hg => rfl); (case hr => first | (go_simp; done) | (go_simp; rfl)); intro gb387 hg w193 hbox hb; have n0_ := Aside0.mk (blk_below (g := gb374) (o := .cells #[.int .i64 a0_0, .int .i64 a0_1, .string a0_2] 23 (0, 0)) (by (with_reducible repeat (first | refine blk_drewN ?_ _ | refine blk_drew ?_ | refine blk_alloc ?_ _)); exact BK374.out) hb); have n1_ := Aside0.mk (blk_below (g := gb375) (o := .cells #[.int .i64 a1_0, .int .i64 a1_1, .string a1_2] 23 (0, 0)) (by (with_reducible repeat (first | refine blk_drewN ?_ _ | refine blk_drew ?_ | refine blk_alloc ?_ _)); exact BK375.out) hb); have n2_ := Aside0.mk (blk_below (g := gb376) (o := .cells #[.int .i64 a2_0, .int .i64 a2_1, .string a2_2] 23 (0, 0)) (by (with_reducible repeat (first | refine blk_drewN ?_ _ | refine blk_drew ?_ | refine blk_alloc ?_ _)); exact BK376.out) hb); have n3_ := Aside0.mk (below_step (by repeat (first | (with_reducible first | exact HB.out | apply below_alloc | apply pw_below_drewN | apply below_drew1 | refine below_set ?_ GE374.out | refine below_set ?_ GE375.out | refine below_set ?_ GE376.out) | exact HB.out)) hb); have n4_ := Aside0.mk (hbox); have n5_ := Aside0.mk ((by rw [hg]; exact (below_size (by repeat (first | (with_reducible first | exact HB.out | apply below_alloc | apply pw_below_drewN | apply below_drew1 | refine below_set ?_ GE374.out | refine below_set ?_ GE375.out | refine below_set ?_ GE376.out) | exact HB.out))) : w.heap.size ≤ gb387)); have n6_ := Aside0.mk ((by rw [hg]; exact (below_size (by repeat (first | (with_reducible first | exact HB.out | apply below_alloc | apply pw_below_drewN | apply below_drew1 | refine below_set ?_ GE374.out | refine below_set ?_ GE375.out | refine below_set ?_ GE376.out) | exact HB.out))) : w.heap.size ≤ gb387)); have n7_ := Aside0.mk ((by rw [hg]; exact Nat.ne_of_lt (blk_lt (g := gb374) (o := .cells #[.int .i64 a0_0, .int .i64 a0_1, .string a0_2] 23 (0, 0)) (by (with_reducible repeat (first | refine blk_drewN ?_ _ | refine blk_drew ?_ | refine blk_alloc ?_ _)); exact BK374.out)) : gb374 ≠ gb387)); have n8_ := Aside0.mk ((by rw [hg]; exact Nat.ne_of_gt (blk_lt (g := gb374) (o := .cells #[.int .i64 a0_0, .int .i64 a0_1, .string a0_2] 23 (0, 0)) (by (with_reducible repeat (first | refine blk_drewN ?_ _ | refine blk_drew ?_ | refine blk_alloc ?_ _)); exact BK374.out)) : gb387 ≠ gb374)); have n9_ := Aside0.mk ((by rw [hg]; exact Nat.ne_of_lt (blk_lt (g := gb375) (o := .cells #[.int .i64 a1_0, .int .i64 a1_1, .string a1_2] 23 (0, 0)) (by (with_reducible repeat (first | refine blk_drewN ?_ _ | refine blk_drew ?_ | refine blk_alloc ?_ _)); exact BK375.out)) : gb375 ≠ gb387)); have n10_ := Aside0.mk ((by rw [hg]; exact Nat.ne_of_gt (blk_lt (g := gb375) (o := .cells #[.int .i64 a1_0, .int .i64 a1_1, .string a1_2] 23 (0, 0)) (by (with_reducible repeat (first | refine blk_drewN ?_ _ | refine blk_drew ?_ | refine blk_alloc ?_ _)); exact BK375.out)) : gb387 ≠ gb375)); have n11_ := Aside0.mk ((by rw [hg]; exact Nat.ne_of_lt (blk_lt (g := gb376) (o := .cells #[.int .i64 a2_0, .int .i64 a2_1, .string a2_2] 23 (0, 0)) (by (with_reducible repeat (first | refine blk_drewN ?_ _ | refine blk_drew ?_ | refine blk_alloc ?_ _)); exact BK376.out)) : gb376 ≠ gb387)); have n12_ := Aside0.mk ((by rw [hg]; exact Nat.ne_of_gt (blk_lt (g := gb376) (o := .cells #[.int .i64 a2_0, .int .i64 a2_1, .string a2_2] 23 (0, 0)) (by (with_reducible repeat (first | refine blk_drewN ?_ _ | refine blk_drew ?_ | refine blk_alloc ?_ _)); exact BK376.out)) : gb387 ≠ gb376)); clear BK374; clear BK375; clear BK376; clear HB; have BK374 := n0_; have BK375 := n1_; have BK376 := n2_; have HB := n3_; have BK387 := n4_; have GW387 := n5_; have GE387 := n6_; have NB374_387 := n7_; have NB387_374 := n8_; have NB375_387 := n9_; have NB387_375 := n10_; have NB376_387 := n11_; have NB387_376 := n12_; clear n0_ n1_ n2_ n3_ n4_ n5_ n6_ n7_ n8_ n9_ n10_ n11_ n12_; clear hb hbox hg; have hnb194 := NB387_374.out; have hnc194 := NB374_387.out; have hnb195 := NB387_375.out; have hnc195 := NB375_387.out; have hnb196 := NB387_376.out; have hnc196 := NB376_387.out; have hcz197_0 : w193.cell? ⟨gb387, 0, none⟩ = some (.int .i64 0) := (blk_cell BK387.out 0).trans rfl; have hcz197_1 : w193.cell? ⟨gb387, 1, none⟩ = some (.int .i64 0) := (blk_cell BK387.out 1).trans rfl; have hcz197_2 : w193.cell? ⟨gb387, 2, none⟩ = some (.string (⟨#[]⟩ : ByteArray)) := (blk_cell BK387.out 2).trans rfl; have hfz197_0 := blk_frozen BK387.out 0; have hfz197_1 := blk_frozen BK387.out 1; have hfz197_2 := blk_frozen BK387.out 2) | ((with_reducible refine gate_store (t := 23) (p := 13) rfl ?_); refine store_event (t := 23) (p := 13) (v := ?vo_w198) (w1 := (((w193.setCell ⟨gb387, 0, none⟩ (.int .i64 t383)).setCell ⟨gb387, 1, none⟩ (.int .i64 t384)).setCell ⟨gb387, 2, none⟩ (.string t385))) ?hg ?ho ?hn ?hr ?_; (case ho => rfl); (case hg => rfl); (case hn => rfl); (case hr => first | (go_simp; done) | (go_simp; rfl)); intro w198 hw; have n0_ : Aside0 (w198.heap[gb374]? = some (.cells #[.int .i64 a0_0, .int .i64 a0_1, .string a0_2] 23 (0, 0))) := ⟨(by rw [hw]; exact (by (with_reducible repeat (first | refine blk_drewN ?_ _ | refine blk_drew ?_ | refine blk_alloc ?_ _)); refine blk_far ?_ NB374_387.out _; (with_reducible repeat (first | refine blk_drewN ?_ _ | refine blk_drew ?_ | refine blk_alloc ?_ _)); refine blk_far ?_ NB374_387.out _; (with_reducible repeat (first | refine blk_drewN ?_ _ | refine blk_drew ?_ | refine blk_alloc ?_ _)); refine blk_far ?_ NB374_387.out _; (with_reducible repeat (first | refine blk_drewN ?_ _ | refine blk_drew ?_ | refine blk_alloc ?_ _)); exact BK374.out))⟩; have n1_ : Aside0 (w198.heap[gb375]? = some (.cells #[.int .i64 a1_0, .int .i64 a1_1, .string a1_2] 23 (0, 0))) := ⟨(by rw [hw]; exact (by (with_reducible repeat (first | refine blk_drewN ?_ _ | refine blk_drew ?_ | refine blk_alloc ?_ _)); refine blk_far ?_ NB375_387.out _; (with_reducible repeat (first | refine blk_drewN ?_ _ | refine blk_drew ?_ | refine blk_alloc ?_ _)); refine blk_far ?_ NB375_387.out _; (with_reducible repeat (first | refine blk_drewN ?_ _ | refine blk_drew ?_ | refine blk_alloc ?_ _)); refine blk_far ?_ NB375_387.out _; (with_reducible repeat (first | refine blk_drewN ?_ _ | refine blk_drew ?_ | refine blk_alloc ?_ _)); exact BK375.out))⟩; have n2_ : Aside0 (w198.heap[gb376]? = some (.cells #[.int .i64 a2_0, .int .i64 a2_1, .string a2_2] 23 (0, 0))) := ⟨(by rw [hw]; exact (by (with_reducible repeat (first | refine blk_drewN ?_ _ | refine blk_drew ?_ | refine blk_alloc ?_ _)); refine blk_far ?_ NB376_387.out _; (with_reducible repeat (first | refine blk_drewN ?_ _ | refine blk_drew ?_ | refine blk_alloc ?_ _)); refine blk_far ?_ NB376_387.out _; (with_reducible repeat (first | refine blk_drewN ?_ _ | refine blk_drew ?_ | refine blk_alloc ?_ _)); refine blk_far ?_ NB376_387.out _; (with_reducible repeat (first | refine blk_drewN ?_ _ | refine blk_drew ?_ | refine blk_alloc ?_ _)); exact BK376.out))⟩; have n3_ : Aside0 (w198.heap[gb387]? = some (.cells #[.int .i64 t383, .int .i64 t384, .string t385] 23 (0, 0))) := ⟨(by rw [hw]; exact (by (with_reducible repeat (first | refine blk_drewN ?_ _ | refine blk_drew ?_ | refine blk_alloc ?_ _)); refine blk_put (cs := #[.int .i64 t383, .int .i64 t384, .string (⟨#[]⟩ : ByteArray)]) ?_ 2 _ rfl; (with_reducible repeat (first | refine blk_drewN ?_ _ | refine blk_drew ?_ | refine blk_alloc ?_ _)); refine blk_put (cs := #[.int .i64 t383, .int .i64 0, .string (⟨#[]⟩ : ByteArray)]) ?_ 1 _ rfl; (with_reducible repeat (first | refine blk_drewN ?_ _ | refine blk_drew ?_ | refine blk_alloc ?_ _)); refine blk_put (cs := #[.int .i64 0, .int .i64 0, .string (⟨#[]⟩ : ByteArray)]) ?_ 0 _ rfl; (with_reducible repeat (first | refine blk_drewN ?_ _ | refine blk_drew ?_ | refine blk_alloc ?_ _)); exact BK387.out))⟩; have n4_ : Aside0 (Below w.heap.size w w198) := ⟨(by rw [hw]; exact (by repeat (first | (with_reducible first | exact HB.out | apply below_alloc | apply pw_below_drewN | apply below_drew1 | refine below_set ?_ GE374.out | refine below_set ?_ GE375.out | refine below_set ?_ GE376.out | refine below_set ?_ GE387.out) | exact HB.out)))⟩; clear hw; clear BK374; clear BK375; clear BK376; clear BK387; clear HB; have BK374 := n0_; have BK375 := n1_; have BK376 := n2_; have BK387 := n3_; have HB := n4_; clear n0_ n1_ n2_ n3_ n4_; have hcz199_0 : w198.cell? ⟨gb374, 0, none⟩ = some (.int .i64 a0_0) := (blk_cell BK374.out 0).trans rfl; have hcz199_1 : w198.cell? ⟨gb374, 1, none⟩ = some (.int .i64 a0_1) := (blk_cell BK374.out 1).trans rfl; have hcz199_2 : w198.cell? ⟨gb374, 2, none⟩ = some (.string a0_2) := (blk_cell BK374.out 2).trans rfl; have hfz199_0 := blk_frozen BK374.out 0; have hfz199_1 := blk_frozen BK374.out 1; have hfz199_2 := blk_frozen BK374.out 2; have hcz200_0 : w198.cell? ⟨gb375, 0, none⟩ = some (.int .i64 a1_0) := (blk_cell BK375.out 0).trans rfl; have hcz200_1 : w198.cell? ⟨gb375, 1, none⟩ = some (.int .i64 a1_1) := (blk_cell BK375.out 1).trans rfl; have hcz200_2 : w198.cell? ⟨gb375, 2, none⟩ = some (.string a1_2) := (blk_cell BK375.out 2).trans rfl; have hfz200_0 := blk_frozen BK375.out 0; have hfz200_1 := blk_frozen BK375.out 1; have hfz200_2 := blk_frozen BK375.out 2) | ((with_reducible refine gate_callee (f := 17) rfl ?_); refine goesL_ (some 90) rfl rfl Tryd.func17 (by kernel_rfl) rfl #[.int .i64 6, .agg #[.int .i64 a0_0, .int .i64 a0_1, .string a0_2], .agg #[.int .i64 a1_0, .int .i64 a1_1, .string a1_2]] rfl (by (try simp only [List.map_toArray, List.map_cons, List.map_nil]); first | done | rfl | (simp only [List.length_drop, List.length_take]; rfl)) ?_; (with_reducible refine (value_Compare.calls kj33 6 a0_0 a0_1 a0_2 a1_0 a1_1 a1_2 t388 t389 t390 t391 _ A104.out).mono ?_); rintro e w201 ⟨rfl, hb⟩; refine ⟨_, rfl, ?_⟩; have n0_ := Aside0.mk (blk_below (g := gb374) (o := .cells #[.int .i64 a0_0, .int .i64 a0_1, .string a0_2] 23 (0, 0)) (by (with_reducible repeat (first | refine blk_drewN ?_ _ | refine blk_drew ?_ | refine blk_alloc ?_ _)); exact BK374.out) hb); have n1_ := Aside0.mk (blk_below (g := gb375) (o := .cells #[.int .i64 a1_0, .int .i64 a1_1, .string a1_2] 23 (0, 0)) (by (with_reducible repeat (first | refine blk_drewN ?_ _ | refine blk_drew ?_ | refine blk_alloc ?_ _)); exact BK375.out) hb); have n2_ := Aside0.mk (blk_below (g := gb376) (o := .cells #[.int .i64 a2_0, .int .i64 a2_1, .string a2_2] 23 (0, 0)) (by (with_reducible repeat (first | refine blk_drewN ?_ _ | refine blk_drew ?_ | refine blk_alloc ?_ _)); exact BK376.out) hb); have n3_ := Aside0.mk (blk_below (g := gb387) (o := .cells #[.int .i64 t383, .int .i64 t384, .string t385] 23 (0, 0)) (by (with_reducible repeat (first | refine blk_drewN ?_ _ | refine blk_drew ?_ | refine blk_alloc ?_ _)); exact BK387.out) hb); have n4_ := Aside0.mk (below_step (by repeat (first | (with_reducible first | exact HB.out | apply below_alloc | apply pw_below_drewN | apply below_drew1 | refine below_set ?_ GE374.out | refine below_set ?_ GE375.out | refine below_set ?_ GE376.out | refine below_set ?_ GE387.out) | exact HB.out)) hb); clear BK374; clear BK375; clear BK376; clear BK387; clear HB; have BK374 := n0_; have BK375 := n1_; have BK376 := n2_; have BK387 := n3_; have HB := n4_; clear n0_ n1_ n2_ n3_ n4_; (try clear hb); (try clear hb2); (try clear hk); (try clear hi)) | ((with_reducible refine gate_dst (N := 15) rfl ?_); refine box_event ?hg (N := 15) ?hd (cs := #[.int .i64 0, .int .i64 0, .string (⟨#[]⟩ : ByteArray)]) (t := 23) ?hr ?_; (case hd => rfl); (case hg => rfl); (case hr => first | (go_simp; done) | (go_simp; rfl)); intro gb392 hg w202 hbox hb; have n0_ := Aside0.mk (blk_below (g := gb374) (o := .cells #[.int .i64 a0_0, .int .i64 a0_1, .string a0_2] 23 (0, 0)) (by (with_reducible repeat (first | refine blk_drewN ?_ _ | refine blk_drew ?_ | refine blk_alloc ?_ _)); exact BK374.out) hb); have n1_ := Aside0.mk (blk_below (g := gb375) (o := .cells #[.int .i64 a1_0, .int .i64 a1_1, .string a1_2] 23 (0, 0)) (by (with_reducible repeat (first | refine blk_drewN ?_ _ | refine blk_drew ?_ | refine blk_alloc ?_ _)); exact BK375.out) hb); have n2_ := Aside0.mk (blk_below (g := gb376) (o := .cells #[.int .i64 a2_0, .int .i64 a2_1, .string a2_2] 23 (0, 0)) (by (with_reducible repeat (first | refine blk_drewN ?_ _ | refine blk_drew ?_ | refine blk_alloc ?_ _)); exact BK376.out) hb); have n3_ := Aside0.mk (blk_below (g := gb387) (o := .cells #[.int .i64 t383, .int .i64 t384, .string t385] 23 (0, 0)) (by (with_reducible repeat (first | refine blk_drewN ?_ _ | refine blk_drew ?_ | refine blk_alloc ?_ _)); exact BK387.out) hb); have n4_ := Aside0.mk (below_step (by repeat (first | (with_reducible first | exact HB.out | apply below_alloc | apply pw_below_drewN | apply below_drew1 | refine below_set ?_ GE374.out | refine below_set ?_ GE375.out | refine below_set ?_ GE376.out | refine below_set ?_ GE387.out) | exact HB.out)) hb); have n5_ := Aside0.mk (hbox); have n6_ := Aside0.mk ((by rw [hg]; exact (below_size (by repeat (first | (with_reducible first | exact HB.out | apply below_alloc | apply pw_below_drewN | apply below_drew1 | refine below_set ?_ GE374.out | refine below_set ?_ GE375.out | refine below_set ?_ GE376.out | refine below_set ?_ GE387.out) | exact HB.out))) : w.heap.size ≤ gb392)); have n7_ := Aside0.mk ((by rw [hg]; exact (below_size (by repeat (first | (with_reducible first | exact HB.out | apply below_alloc | apply pw_below_drewN | apply below_drew1 | refine below_set ?_ GE374.out | refine below_set ?_ GE375.out | refine below_set ?_ GE376.out | refine below_set ?_ GE387.out) | exact HB.out))) : w.heap.size ≤ gb392)); have n8_ := Aside0.mk ((by rw [hg]; exact Nat.ne_of_lt (blk_lt (g := gb374) (o := .cells #[.int .i64 a0_0, .int .i64 a0_1, .string a0_2] 23 (0, 0)) (by (with_reducible repeat (first | refine blk_drewN ?_ _ | refine blk_drew ?_ | refine blk_alloc ?_ _)); exact BK374.out)) : gb374 ≠ gb392)); have n9_ := Aside0.mk ((by rw [hg]; exact Nat.ne_of_gt (blk_lt (g := gb374) (o := .cells #[.int .i64 a0_0, .int .i64 a0_1, .string a0_2] 23 (0, 0)) (by (with_reducible repeat (first | refine blk_drewN ?_ _ | refine blk_drew ?_ | refine blk_alloc ?_ _)); exact BK374.out)) : gb392 ≠ gb374)); have n10_ := Aside0.mk ((by rw [hg]; exact Nat.ne_of_lt (blk_lt (g := gb375) (o := .cells #[.int .i64 a1_0, .int .i64 a1_1, .string a1_2] 23 (0, 0)) (by (with_reducible repeat (first | refine blk_drewN ?_ _ | refine blk_drew ?_ | refine blk_alloc ?_ _)); exact BK375.out)) : gb375 ≠ gb392)); have n11_ := Aside0.mk ((by rw [hg]; exact Nat.ne_of_gt (blk_lt (g := gb375) (o := .cells #[.int .i64 a1_0, .int .i64 a1_1, .string a1_2] 23 (0, 0)) (by (with_reducible repeat (first | refine blk_drewN ?_ _ | refine blk_drew ?_ | refine blk_alloc ?_ _)); exact BK375.out)) : gb392 ≠ gb375)); have n12_ := Aside0.mk ((by rw [hg]; exact Nat.ne_of_lt (blk_lt (g := gb376) (o := .cells #[.int .i64 a2_0, .int .i64 a2_1, .string a2_2] 23 (0, 0)) (by (with_reducible repeat (first | refine blk_drewN ?_ _ | refine blk_drew ?_ | refine blk_alloc ?_ _)); exact BK376.out)) : gb376 ≠ gb392)); have n13_ := Aside0.mk ((by rw [hg]; exact Nat.ne_of_gt (blk_lt (g := gb376) (o := .cells #[.int .i64 a2_0, .int .i64 a2_1, .string a2_2] 23 (0, 0)) (by (with_reducible repeat (first | refine blk_drewN ?_ _ | refine blk_drew ?_ | refine blk_alloc ?_ _)); exact BK376.out)) : gb392 ≠ gb376)); have n14_ := Aside0.mk ((by rw [hg]; exact Nat.ne_of_lt (blk_lt (g := gb387) (o := .cells #[.int .i64 t383, .int .i64 t384, .string t385] 23 (0, 0)) (by (with_reducible repeat (first | refine blk_drewN ?_ _ | refine blk_drew ?_ | refine blk_alloc ?_ _)); exact BK387.out)) : gb387 ≠ gb392)); have n15_ := Aside0.mk ((by rw [hg]; exact Nat.ne_of_gt (blk_lt (g := gb387) (o := .cells #[.int .i64 t383, .int .i64 t384, .string t385] 23 (0, 0)) (by (with_reducible repeat (first | refine blk_drewN ?_ _ | refine blk_drew ?_ | refine blk_alloc ?_ _)); exact BK387.out)) : gb392 ≠ gb387)); clear BK374; clear BK375; clear BK376; clear BK387; clear HB; have BK374 := n0_; have BK375 := n1_; have BK376 := n2_; have BK387 := n3_; have HB := n4_; have BK392 := n5_; have GW392 := n6_; have GE392 := n7_; have NB374_392 := n8_; have NB392_374 := n9_; have NB375_392 := n10_; have NB392_375 := n11_; have NB376_392 := n12_; have NB392_376 := n13_; have NB387_392 := n14_; have NB392_387 := n15_; clear n0_ n1_ n2_ n3_ n4_ n5_ n6_ n7_ n8_ n9_ n10_ n11_ n12_ n13_ n14_ n15_; clear hb hbox hg; have hnb203 := NB392_374.out; have hnc203 := NB374_392.out; have hnb204 := NB392_375.out; have hnc204 := NB375_392.out; have hnb205 := NB392_376.out; have hnc205 := NB376_392.out; have hnb206 := NB392_387.out; have hnc206 := NB387_392.out; have hcz207_0 : w202.cell? ⟨gb392, 0, none⟩ = some (.int .i64 0) := (blk_cell BK392.out 0).trans rfl; have hcz207_1 : w202.cell? ⟨gb392, 1, none⟩ = some (.int .i64 0) := (blk_cell BK392.out 1).trans rfl; have hcz207_2 : w202.cell? ⟨gb392, 2, none⟩ = some (.string (⟨#[]⟩ : ByteArray)) := (blk_cell BK392.out 2).trans rfl; have hfz207_0 := blk_frozen BK392.out 0; have hfz207_1 := blk_frozen BK392.out 1; have hfz207_2 := blk_frozen BK392.out 2) | ((with_reducible refine gate_store (t := 23) (p := 15) rfl ?_); refine store_event (t := 23) (p := 15) (v := ?vo_w208) (w1 := (((w202.setCell ⟨gb392, 0, none⟩ (.int .i64 t388)).setCell ⟨gb392, 1, none⟩ (.int .i64 t389)).setCell ⟨gb392, 2, none⟩ (.string t390))) ?hg ?ho ?hn ?hr ?_; (case ho => rfl); (case hg => rfl); (case hn => rfl); (case hr => first | (go_simp; done) | (go_simp; rfl)); intro w208 hw; have n0_ : Aside0 (w208.heap[gb374]? = some (.cells #[.int .i64 a0_0, .int .i64 a0_1, .string a0_2] 23 (0, 0))) := ⟨(by rw [hw]; exact (by (with_reducible repeat (first | refine blk_drewN ?_ _ | refine blk_drew ?_ | refine blk_alloc ?_ _)); refine blk_far ?_ NB374_392.out _; (with_reducible repeat (first | refine blk_drewN ?_ _ | refine blk_drew ?_ | refine blk_alloc ?_ _)); refine blk_far ?_ NB374_392.out _; (with_reducible repeat (first | refine blk_drewN ?_ _ | refine blk_drew ?_ | refine blk_alloc ?_ _)); refine blk_far ?_ NB374_392.out _; (with_reducible repeat (first | refine blk_drewN ?_ _ | refine blk_drew ?_ | refine blk_alloc ?_ _)); exact BK374.out))⟩; have n1_ : Aside0 (w208.heap[gb375]? = some (.cells #[.int .i64 a1_0, .int .i64 a1_1, .string a1_2] 23 (0, 0))) := ⟨(by rw [hw]; exact (by (with_reducible repeat (first | refine blk_drewN ?_ _ | refine blk_drew ?_ | refine blk_alloc ?_ _)); refine blk_far ?_ NB375_392.out _; (with_reducible repeat (first | refine blk_drewN ?_ _ | refine blk_drew ?_ | refine blk_alloc ?_ _)); refine blk_far ?_ NB375_392.out _; (with_reducible repeat (first | refine blk_drewN ?_ _ | refine blk_drew ?_ | refine blk_alloc ?_ _)); refine blk_far ?_ NB375_392.out _; (with_reducible repeat (first | refine blk_drewN ?_ _ | refine blk_drew ?_ | refine blk_alloc ?_ _)); exact BK375.out))⟩; have n2_ : Aside0 (w208.heap[gb376]? = some (.cells #[.int .i64 a2_0, .int .i64 a2_1, .string a2_2] 23 (0, 0))) := ⟨(by rw [hw]; exact (by (with_reducible repeat (first | refine blk_drewN ?_ _ | refine blk_drew ?_ | refine blk_alloc ?_ _)); refine blk_far ?_ NB376_392.out _; (with_reducible repeat (first | refine blk_drewN ?_ _ | refine blk_drew ?_ | refine blk_alloc ?_ _)); refine blk_far ?_ NB376_392.out _; (with_reducible repeat (first | refine blk_drewN ?_ _ | refine blk_drew ?_ | refine blk_alloc ?_ _)); refine blk_far ?_ NB376_392.out _; (with_reducible repeat (first | refine blk_drewN ?_ _ | refine blk_drew ?_ | refine blk_alloc ?_ _)); exact BK376.out))⟩; have n3_ : Aside0 (w208.heap[gb387]? = some (.cells #[.int .i64 t383, .int .i64 t384, .string t385] 23 (0, 0))) := ⟨(by rw [hw]; exact (by (with_reducible repeat (first | refine blk_drewN ?_ _ | refine blk_drew ?_ | refine blk_alloc ?_ _)); refine blk_far ?_ NB387_392.out _; (with_reducible repeat (first | refine blk_drewN ?_ _ | refine blk_drew ?_ | refine blk_alloc ?_ _)); refine blk_far ?_ NB387_392.out _; (with_reducible repeat (first | refine blk_drewN ?_ _ | refine blk_drew ?_ | refine blk_alloc ?_ _)); refine blk_far ?_ NB387_392.out _; (with_reducible repeat (first | refine blk_drewN ?_ _ | refine blk_drew ?_ | refine blk_alloc ?_ _)); exact BK387.out))⟩; have n4_ : Aside0 (w208.heap[gb392]? = some (.cells #[.int .i64 t388, .int .i64 t389, .string t390] 23 (0, 0))) := ⟨(by rw [hw]; exact (by (with_reducible repeat (first | refine blk_drewN ?_ _ | refine blk_drew ?_ | refine blk_alloc ?_ _)); refine blk_put (cs := #[.int .i64 t388, .int .i64 t389, .string (⟨#[]⟩ : ByteArray)]) ?_ 2 _ rfl; (with_reducible repeat (first | refine blk_drewN ?_ _ | refine blk_drew ?_ | refine blk_alloc ?_ _)); refine blk_put (cs := #[.int .i64 t388, .int .i64 0, .string (⟨#[]⟩ : ByteArray)]) ?_ 1 _ rfl; (with_reducible repeat (first | refine blk_drewN ?_ _ | refine blk_drew ?_ | refine blk_alloc ?_ _)); refine blk_put (cs := #[.int .i64 0, .int .i64 0, .string (⟨#[]⟩ : ByteArray)]) ?_ 0 _ rfl; (with_reducible repeat (first | refine blk_drewN ?_ _ | refine blk_drew ?_ | refine blk_alloc ?_ _)); exact BK392.out))⟩; have n5_ : Aside0 (Below w.heap.size w w208) := ⟨(by rw [hw]; exact (by repeat (first | (with_reducible first | exact HB.out | apply below_alloc | apply pw_below_drewN | apply below_drew1 | refine below_set ?_ GE374.out | refine below_set ?_ GE375.out | refine below_set ?_ GE376.out | refine below_set ?_ GE387.out | refine below_set ?_ GE392.out) | exact HB.out)))⟩; clear hw; clear BK374; clear BK375; clear BK376; clear BK387; clear BK392; clear HB; have BK374 := n0_; have BK375 := n1_; have BK376 := n2_; have BK387 := n3_; have BK392 := n4_; have HB := n5_; clear n0_ n1_ n2_ n3_ n4_ n5_; have hcz209_0 : w208.cell? ⟨gb387, 0, none⟩ = some (.int .i64 t383) := (blk_cell BK387.out 0).trans rfl; have hcz209_1 : w208.cell? ⟨gb387, 1, none⟩ = some (.int .i64 t384) := (blk_cell BK387.out 1).trans rfl; have hcz209_2 : w208.cell? ⟨gb387, 2, none⟩ = some (.string t385) := (blk_cell BK387.out 2).trans rfl; have hfz209_0 := blk_frozen BK387.out 0; have hfz209_1 := blk_frozen BK387.out 1; have hfz209_2 := blk_frozen BK387.out 2; have hcz210_0 : w208.cell? ⟨gb392, 0, none⟩ = some (.int .i64 t388) := (blk_cell BK392.out 0).trans rfl; have hcz210_1 : w208.cell? ⟨gb392, 1, none⟩ = some (.int .i64 t389) := (blk_cell BK392.out 1).trans rfl; have hcz210_2 : w208.cell? ⟨gb392, 2, none⟩ = some (.string t390) := (blk_cell BK392.out 2).trans rfl; have hfz210_0 := blk_frozen BK392.out 0; have hfz210_1 := blk_frozen BK392.out 1; have hfz210_2 := blk_frozen BK392.out 2))
          go_ret
          exact ⟨by first | (simp only [ByteArray.size_extract, Nat.min_self]; rfl) | rfl | (simp [errW_none, errW_some] <;> rfl) | (simp [*, errW_none, errW_some] <;> rfl), by repeat (first | (with_reducible first | exact HB.out | apply below_alloc | apply pw_below_drewN | apply below_drew1 | refine below_set ?_ GE374.out | refine below_set ?_ GE375.out | refine below_set ?_ GE376.out | refine below_set ?_ GE387.out | refine below_set ?_ GE392.out) | exact HB.out)⟩
         ·
          rw [if_neg c186] at H
          exact absurd H (by simp)
        ·
         replace c185 := Bool.eq_false_iff.mpr c185
         subst c185
         have H1 : (none) = some r := by rw [if_neg (show ¬ (false = true) by decide)] at H; exact H
         clear H
         have H := H1
         clear H1
         exact absurd H (by simp)
      ·
       rw [if_neg c105] at H
       exact absurd H (by simp)
end Go.Proofs.YteehcopkljiikaaDoor.PA
