-- Laid by a program of ours (wip/gen/xprint.py). Not trusted: Lean checks it.
import Derived.Test.YteehcopkljiikaaDoorPAx0
import Derived.Test.YteehcopkljiikaaDoorPAx10
namespace Go.Proofs.YteehcopkljiikaaDoor.PA
open Go.RowKit Go.Proofs.YteehcopkljiikaaDoorW.PrintWords Go.Proofs.YteehcopkljiikaaDoorW.PrintLast Go.Proofs.YteehcopkljiikaaDoorW.PrintMore Go.Proofs.YteehcopkljiikaaDoorX
attribute [local go_sem] max2_int min2_int max_two min_two max_three min_three max_four min_four   -- for this text's walks alone
set_option linter.unusedVariables false
set_option linter.unusedSimpArgs false

/-! ### unisonref01_Compare: function 18 -/
mutual
def unisonref01_Compare.j0 : Nat → Int → Bool → Int → Int → ByteArray → Int → Int → ByteArray → Option (Int × Int × ByteArray × Int)
 | 0, _, _, _, _, _, _, _, _ => none
 | k + 1, x0, x17, x282000, x282001, x282002, x283000, x283001, x283002 => if x17 = true then (some (0, 0, (⟨#[]⟩ : ByteArray), 1)) else ((unisonref01_Right.f x282000 x282001 x282002).bind fun t284 => ((unisonref01_Right.f x283000 x283001 x283002).bind fun t285 => (if t284 = true then (unisonref01_Compare.j1 k x0 (!t285) x282000 x282001 x282002 x283000 x283001 x283002) else (unisonref01_Compare.j1 k x0 true x282000 x282001 x282002 x283000 x283001 x283002))))
def unisonref01_Compare.j1 : Nat → Int → Bool → Int → Int → ByteArray → Int → Int → ByteArray → Option (Int × Int × ByteArray × Int)
 | 0, _, _, _, _, _, _, _, _ => none
 | k + 1, x0, x28, x282000, x282001, x282002, x283000, x283001, x283002 => if x28 = true then (some (0, 0, (⟨#[]⟩ : ByteArray), 10)) else (if x282000 = 0 then (unisonref01_Compare.j2 k x0 true x282000 x282001 x282002 x283000 x283001 x283002) else (unisonref01_Compare.j2 k x0 (x283000 == 0) x282000 x282001 x282002 x283000 x283001 x283002))
def unisonref01_Compare.j2 : Nat → Int → Bool → Int → Int → ByteArray → Int → Int → ByteArray → Option (Int × Int × ByteArray × Int)
 | 0, _, _, _, _, _, _, _, _ => none
 | k + 1, x0, x37, x282000, x282001, x282002, x283000, x283001, x283002 => if x37 = true then (some (0, 0, (⟨#[]⟩ : ByteArray), 0)) else (if x282000 = x283000 then ((unisonref01_Order.f x282000 x282001 x282002 x283000 x283001 x283002).bind fun t286 => (if x0 = 2 then ((unisonref01_Bool.f (t286 != 0)).bind fun bt287 => (some (bt287.1, bt287.2.1, bt287.2.2, 0))) else (if x0 = 3 then ((unisonref01_Bool.f (decide (t286 < 0))).bind fun bt290 => (some (bt290.1, bt290.2.1, bt290.2.2, 0))) else (if x0 = 4 then ((unisonref01_Bool.f (decide (t286 ≤ 0))).bind fun bt293 => (some (bt293.1, bt293.2.1, bt293.2.2, 0))) else (if x0 = 5 then ((unisonref01_Bool.f (decide (t286 > 0))).bind fun bt296 => (some (bt296.1, bt296.2.1, bt296.2.2, 0))) else (if x0 = 6 then ((unisonref01_Bool.f (decide (t286 ≥ 0))).bind fun bt299 => (some (bt299.1, bt299.2.1, bt299.2.2, 0))) else ((unisonref01_Bool.f (t286 == 0)).bind fun bt302 => (some (bt302.1, bt302.2.1, bt302.2.2, 0))))))))) else (some (0, 0, (⟨#[]⟩ : ByteArray), 11)))
end
def unisonref01_Compare.f (k : Nat) (a0 : Int) (a1_0 : Int) (a1_1 : Int) (a1_2 : ByteArray) (a2_0 : Int) (a2_1 : Int) (a2_2 : ByteArray) : Option (Int × Int × ByteArray × Int) := if a0 < 1 then (unisonref01_Compare.j0 k a0 true a1_0 a1_1 a1_2 a2_0 a2_1 a2_2) else (unisonref01_Compare.j0 k a0 (decide (a0 > 6)) a1_0 a1_1 a1_2 a2_0 a2_1 a2_2)
theorem unisonref01_Compare.mono_l : ∀ k, (∀ y0 y1 y2 y3 y4 y5 y6 y7, LeO (unisonref01_Compare.j0 k y0 y1 y2 y3 y4 y5 y6 y7) (unisonref01_Compare.j0 (k + 1) y0 y1 y2 y3 y4 y5 y6 y7)) ∧ (∀ y0 y1 y2 y3 y4 y5 y6 y7, LeO (unisonref01_Compare.j1 k y0 y1 y2 y3 y4 y5 y6 y7) (unisonref01_Compare.j1 (k + 1) y0 y1 y2 y3 y4 y5 y6 y7)) ∧ (∀ y0 y1 y2 y3 y4 y5 y6 y7, LeO (unisonref01_Compare.j2 k y0 y1 y2 y3 y4 y5 y6 y7) (unisonref01_Compare.j2 (k + 1) y0 y1 y2 y3 y4 y5 y6 y7))
 | 0 => ⟨fun _ _ _ _ _ _ _ _ r h => by simp [unisonref01_Compare.j0] at h, fun _ _ _ _ _ _ _ _ r h => by simp [unisonref01_Compare.j1] at h, fun _ _ _ _ _ _ _ _ r h => by simp [unisonref01_Compare.j2] at h⟩
 | k + 1 => by
  obtain ⟨ih0, ih1, ih2⟩ := unisonref01_Compare.mono_l k
  refine ⟨?_, ?_, ?_⟩
  ·
   intro y0 y1 y2 y3 y4 y5 y6 y7
   unfold unisonref01_Compare.j0
   repeat' first
   | (with_reducible exact ih0 _ _ _ _ _ _ _ _)
   | (with_reducible exact ih1 _ _ _ _ _ _ _ _)
   | (with_reducible exact ih2 _ _ _ _ _ _ _ _)
   | (with_reducible exact LeO.refl _)
   | (with_reducible exact LeO.none _)
   | (with_reducible refine LeO.ite ?_ ?_)
   | (with_reducible refine LeO.bind ?_ (fun _ => ?_))
   | exact ih0 _ _ _ _ _ _ _ _
   | exact ih1 _ _ _ _ _ _ _ _
   | exact ih2 _ _ _ _ _ _ _ _
   | exact LeO.none _
   | refine LeO.ite ?_ ?_
   | refine LeO.bind ?_ (fun _ => ?_)
  ·
   intro y0 y1 y2 y3 y4 y5 y6 y7
   unfold unisonref01_Compare.j1
   repeat' first
   | (with_reducible exact ih0 _ _ _ _ _ _ _ _)
   | (with_reducible exact ih1 _ _ _ _ _ _ _ _)
   | (with_reducible exact ih2 _ _ _ _ _ _ _ _)
   | (with_reducible exact LeO.refl _)
   | (with_reducible exact LeO.none _)
   | (with_reducible refine LeO.ite ?_ ?_)
   | (with_reducible refine LeO.bind ?_ (fun _ => ?_))
   | exact ih0 _ _ _ _ _ _ _ _
   | exact ih1 _ _ _ _ _ _ _ _
   | exact ih2 _ _ _ _ _ _ _ _
   | exact LeO.none _
   | refine LeO.ite ?_ ?_
   | refine LeO.bind ?_ (fun _ => ?_)
  ·
   intro y0 y1 y2 y3 y4 y5 y6 y7
   unfold unisonref01_Compare.j2
   repeat' first
   | (with_reducible exact ih0 _ _ _ _ _ _ _ _)
   | (with_reducible exact ih1 _ _ _ _ _ _ _ _)
   | (with_reducible exact ih2 _ _ _ _ _ _ _ _)
   | (with_reducible exact LeO.refl _)
   | (with_reducible exact LeO.none _)
   | (with_reducible refine LeO.ite ?_ ?_)
   | (with_reducible refine LeO.bind ?_ (fun _ => ?_))
   | exact ih0 _ _ _ _ _ _ _ _
   | exact ih1 _ _ _ _ _ _ _ _
   | exact ih2 _ _ _ _ _ _ _ _
   | exact LeO.none _
   | refine LeO.ite ?_ ?_
   | refine LeO.bind ?_ (fun _ => ?_)
theorem unisonref01_Compare.mono : ∀ a0 a1 a2 a3 a4 a5 a6 k, LeO (unisonref01_Compare.f k a0 a1 a2 a3 a4 a5 a6) (unisonref01_Compare.f (k + 1) a0 a1 a2 a3 a4 a5 a6) := by
 intro a0 a1 a2 a3 a4 a5 a6 k
 obtain ⟨ih0, ih1, ih2⟩ := unisonref01_Compare.mono_l k
 unfold unisonref01_Compare.f
 repeat' first
   | (with_reducible exact ih0 _ _ _ _ _ _ _ _)
   | (with_reducible exact ih1 _ _ _ _ _ _ _ _)
   | (with_reducible exact ih2 _ _ _ _ _ _ _ _)
   | (with_reducible exact LeO.refl _)
   | (with_reducible exact LeO.none _)
   | (with_reducible refine LeO.ite ?_ ?_)
   | (with_reducible refine LeO.bind ?_ (fun _ => ?_))
   | exact ih0 _ _ _ _ _ _ _ _
   | exact ih1 _ _ _ _ _ _ _ _
   | exact ih2 _ _ _ _ _ _ _ _
   | exact LeO.none _
   | refine LeO.ite ?_ ?_
   | refine LeO.bind ?_ (fun _ => ?_)
set_option maxHeartbeats 8000000 in
set_option maxRecDepth 100000 in
theorem unisonref01_Compare.calls (k : Nat) (a0 : Int) (a1_0 : Int) (a1_1 : Int) (a1_2 : ByteArray) (a2_0 : Int) (a2_1 : Int) (a2_2 : ByteArray) (r1 : Int) (r2 : Int) (r3 : ByteArray) (r4 : Int) (w : World) (h : unisonref01_Compare.f k a0 a1_0 a1_1 a1_2 a2_0 a2_1 a2_2 = some (r1, r2, r3, r4)) :
  Calls Tryd.prog 18 #[.int .i64 a0, .agg #[.int .i64 a1_0, .int .i64 a1_1, .string a1_2], .agg #[.int .i64 a2_0, .int .i64 a2_1, .string a2_2]] w fun e w' => e = .returned (.tuple #[.agg #[.int .i64 r1, .int .i64 r2, .string r3], .int .i64 r4]) ∧ Below w.heap.size w w' := by
 have hu23 := Tryd.underlying23
 have HB := Aside0.mk (Below.refl w.heap.size w)
 have H : (if a0 < 1 then (unisonref01_Compare.j0 k a0 true a1_0 a1_1 a1_2 a2_0 a2_1 a2_2) else (unisonref01_Compare.j0 k a0 (decide (a0 > 6)) a1_0 a1_1 a1_2 a2_0 a2_1 a2_2)) = some (r1, r2, r3, r4) := h
 clear h
 have HC4 := Aside0.mk H
 clear H
 go_enter Tryd.func18, Tryd.ntmps18
 go_upto_region 1 with (first | ((with_reducible refine gate_dst (N := 4) rfl ?_); refine box_event ?hg (N := 4) ?hd (cs := #[.int .i64 a1_0, .int .i64 a1_1, .string a1_2]) (t := 23) ?hr ?_; (case hd => rfl); (case hg => rfl); (case hr => first | (go_simp; done) | (go_simp; rfl)); intro gb281 hg w5 hbox hb; have n0_ := Aside0.mk (below_step (by repeat (first | (with_reducible first | exact HB.out | apply pA | apply pN | apply pD) | exact HB.out)) hb); have n1_ := Aside0.mk (hbox); have n2_ := Aside0.mk ((by rw [hg]; exact (below_size (by repeat (first | (with_reducible first | exact HB.out | apply pA | apply pN | apply pD) | exact HB.out))) : w.heap.size ≤ gb281)); have n3_ := Aside0.mk ((by rw [hg]; exact (below_size (by repeat (first | (with_reducible first | exact HB.out | apply pA | apply pN | apply pD) | exact HB.out))) : w.heap.size ≤ gb281)); clear HB; have HB := n0_; have BK281 := n1_; have GW281 := n2_; have GE281 := n3_; clear n0_ n1_ n2_ n3_; clear hb hbox hg) | ((with_reducible refine gate_dst (N := 5) rfl ?_); refine box_event ?hg (N := 5) ?hd (cs := #[.int .i64 a2_0, .int .i64 a2_1, .string a2_2]) (t := 23) ?hr ?_; (case hd => rfl); (case hg => rfl); (case hr => first | (go_simp; done) | (go_simp; rfl)); intro gb282 hg w6 hbox hb; have n0_ := Aside0.mk (blk_below (g := gb281) (o := .cells #[.int .i64 a1_0, .int .i64 a1_1, .string a1_2] 23 (0, 0)) (by (with_reducible repeat first | apply bN | apply bD | apply bA); exact BK281.out) hb); have n1_ := Aside0.mk (below_step (by repeat (first | (with_reducible first | exact HB.out | apply pA | apply pN | apply pD | refine pS ?_ GE281.out) | exact HB.out)) hb); have n2_ := Aside0.mk (hbox); have n3_ := Aside0.mk ((by rw [hg]; exact (below_size (by repeat (first | (with_reducible first | exact HB.out | apply pA | apply pN | apply pD | refine pS ?_ GE281.out) | exact HB.out))) : w.heap.size ≤ gb282)); have n4_ := Aside0.mk ((by rw [hg]; exact (below_size (by repeat (first | (with_reducible first | exact HB.out | apply pA | apply pN | apply pD | refine pS ?_ GE281.out) | exact HB.out))) : w.heap.size ≤ gb282)); have n5_ := Aside0.mk ((by rw [hg]; exact Nat.ne_of_lt (blk_lt (g := gb281) (o := .cells #[.int .i64 a1_0, .int .i64 a1_1, .string a1_2] 23 (0, 0)) (by (with_reducible repeat first | apply bN | apply bD | apply bA); exact BK281.out)) : gb281 ≠ gb282)); have n6_ := Aside0.mk ((by rw [hg]; exact Nat.ne_of_gt (blk_lt (g := gb281) (o := .cells #[.int .i64 a1_0, .int .i64 a1_1, .string a1_2] 23 (0, 0)) (by (with_reducible repeat first | apply bN | apply bD | apply bA); exact BK281.out)) : gb282 ≠ gb281)); clear BK281; clear HB; have BK281 := n0_; have HB := n1_; have BK282 := n2_; have GW282 := n3_; have GE282 := n4_; have NB281_282 := n5_; have NB282_281 := n6_; clear n0_ n1_ n2_ n3_ n4_ n5_ n6_; clear hb hbox hg) | ((with_reducible refine gate_dst (N := 6) rfl ?_); refine box_event ?hg (N := 6) ?hd (cs := #[.int .i64 0, .int .i64 0, .string (⟨#[]⟩ : ByteArray)]) (t := 23) ?hr ?_; (case hd => rfl); (case hg => rfl); (case hr => first | (go_simp; done) | (go_simp; rfl)); intro gb283 hg w7 hbox hb; have n0_ := Aside0.mk (blk_below (g := gb281) (o := .cells #[.int .i64 a1_0, .int .i64 a1_1, .string a1_2] 23 (0, 0)) (by (with_reducible repeat first | apply bN | apply bD | apply bA); exact BK281.out) hb); have n1_ := Aside0.mk (blk_below (g := gb282) (o := .cells #[.int .i64 a2_0, .int .i64 a2_1, .string a2_2] 23 (0, 0)) (by (with_reducible repeat first | apply bN | apply bD | apply bA); exact BK282.out) hb); have n2_ := Aside0.mk (below_step (by repeat (first | (with_reducible first | exact HB.out | apply pA | apply pN | apply pD | refine pS ?_ GE281.out | refine pS ?_ GE282.out) | exact HB.out)) hb); have n3_ := Aside0.mk (hbox); have n4_ := Aside0.mk ((by rw [hg]; exact (below_size (by repeat (first | (with_reducible first | exact HB.out | apply pA | apply pN | apply pD | refine pS ?_ GE281.out | refine pS ?_ GE282.out) | exact HB.out))) : w.heap.size ≤ gb283)); have n5_ := Aside0.mk ((by rw [hg]; exact (below_size (by repeat (first | (with_reducible first | exact HB.out | apply pA | apply pN | apply pD | refine pS ?_ GE281.out | refine pS ?_ GE282.out) | exact HB.out))) : w.heap.size ≤ gb283)); have n6_ := Aside0.mk ((by rw [hg]; exact Nat.ne_of_lt (blk_lt (g := gb281) (o := .cells #[.int .i64 a1_0, .int .i64 a1_1, .string a1_2] 23 (0, 0)) (by (with_reducible repeat first | apply bN | apply bD | apply bA); exact BK281.out)) : gb281 ≠ gb283)); have n7_ := Aside0.mk ((by rw [hg]; exact Nat.ne_of_gt (blk_lt (g := gb281) (o := .cells #[.int .i64 a1_0, .int .i64 a1_1, .string a1_2] 23 (0, 0)) (by (with_reducible repeat first | apply bN | apply bD | apply bA); exact BK281.out)) : gb283 ≠ gb281)); have n8_ := Aside0.mk ((by rw [hg]; exact Nat.ne_of_lt (blk_lt (g := gb282) (o := .cells #[.int .i64 a2_0, .int .i64 a2_1, .string a2_2] 23 (0, 0)) (by (with_reducible repeat first | apply bN | apply bD | apply bA); exact BK282.out)) : gb282 ≠ gb283)); have n9_ := Aside0.mk ((by rw [hg]; exact Nat.ne_of_gt (blk_lt (g := gb282) (o := .cells #[.int .i64 a2_0, .int .i64 a2_1, .string a2_2] 23 (0, 0)) (by (with_reducible repeat first | apply bN | apply bD | apply bA); exact BK282.out)) : gb283 ≠ gb282)); clear BK281; clear BK282; clear HB; have BK281 := n0_; have BK282 := n1_; have HB := n2_; have BK283 := n3_; have GW283 := n4_; have GE283 := n5_; have NB281_283 := n6_; have NB283_281 := n7_; have NB282_283 := n8_; have NB283_282 := n9_; clear n0_ n1_ n2_ n3_ n4_ n5_ n6_ n7_ n8_ n9_; clear hb hbox hg))
 (try simp only [Act.put, List.setIfInBounds_toArray, List.set_cons_zero, List.set_cons_succ])
 go_cut [17] (fun v17 wc => ∃ (kq : Nat) (x17_3 : Bool), v17 = .bool x17_3 ∧ Aside0 (unisonref01_Compare.j0 kq a0 x17_3 a1_0 a1_1 a1_2 a2_0 a2_1 a2_2 = some (r1, r2, r3, r4)) ∧ Aside0 (kq ≤ k) ∧ Aside0 (wc.heap[gb281]? = some (.cells #[.int .i64 a1_0, .int .i64 a1_1, .string a1_2] 23 (0, 0))) ∧ Aside0 (wc.heap[gb282]? = some (.cells #[.int .i64 a2_0, .int .i64 a2_1, .string a2_2] 23 (0, 0))) ∧ Aside0 (wc.heap[gb283]? = some (.cells #[.int .i64 0, .int .i64 0, .string (⟨#[]⟩ : ByteArray)] 23 (0, 0))) ∧ Aside0 (Below w.heap.size w wc))
 case first =>
  have H := HC4.out
  clear HC4
  by_cases c8 : a0 < 1
  ·
   rw [if_pos c8] at H
   have c8b0 : decide (a0 < 1) = true := decide_eq_true c8
   clear c8
   (first | rw [c8b0] | (simp only [i64_w, i32_w, u8_w, u32_w]; rw [c8b0]) | rw [c8b1] | skip)
   have H' := Aside0.mk H
   clear H
   go_wp2
   go_meet
   case rel => exact ⟨_, (true), (by first | rfl | (simp; done) | (simp [*]; done)), H', ⟨by first | omega | exact Nat.le_refl _⟩, ⟨by (with_reducible repeat first | apply bN | apply bD | apply bA); exact BK281.out⟩, ⟨by (with_reducible repeat first | apply bN | apply bD | apply bA); exact BK282.out⟩, ⟨by (with_reducible repeat first | apply bN | apply bD | apply bA); exact BK283.out⟩, ⟨by repeat (first | (with_reducible first | exact HB.out | apply pA | apply pN | apply pD | refine pS ?_ GE281.out | refine pS ?_ GE282.out | refine pS ?_ GE283.out) | exact HB.out)⟩⟩
  ·
   rw [if_neg c8] at H
   have c8b0 : decide (a0 < 1) = false := decide_eq_false c8
   clear c8
   (first | rw [c8b0] | (simp only [i64_w, i32_w, u8_w, u32_w]; rw [c8b0]) | rw [c8b1] | skip)
   have H' := Aside0.mk H
   clear H
   go_wp2
   go_meet
   case rel => exact ⟨_, (decide (a0 > 6)), (by first | rfl | (simp; done) | (simp [*]; done)), H', ⟨by first | omega | exact Nat.le_refl _⟩, ⟨by (with_reducible repeat first | apply bN | apply bD | apply bA); exact BK281.out⟩, ⟨by (with_reducible repeat first | apply bN | apply bD | apply bA); exact BK282.out⟩, ⟨by (with_reducible repeat first | apply bN | apply bD | apply bA); exact BK283.out⟩, ⟨by repeat (first | (with_reducible first | exact HB.out | apply pA | apply pN | apply pD | refine pS ?_ GE281.out | refine pS ?_ GE282.out | refine pS ?_ GE283.out) | exact HB.out)⟩⟩
 case rest =>
  clear HC4
  try clear c1
  try clear p2
  try clear c8
  try clear c8b0
  try clear c8b1
  obtain ⟨kq, x17_3, rfl, HA, HJ3, BK281, BK282, BK283, HB⟩ := hcut
  cases kq with
  | zero => exact absurd HA.out (by simp [unisonref01_Compare.j0])
  | succ kj3 =>
   have H := HA.out
   clear HA
   simp only [unisonref01_Compare.j0] at H
   by_cases c9 : x17_3 = true
   ·
    subst c9
    have H1 : (some (0, 0, (⟨#[]⟩ : ByteArray), 1)) = some (r1, r2, r3, r4) := by (first | rw [if_pos rfl] at H | rw [if_pos True.intro] at H | skip); exact H
    clear H
    have H := H1
    clear H1
    simp only [Option.some.injEq, Prod.mk.injEq] at H
    obtain ⟨rfl, rfl, rfl, rfl⟩ := H
    have hnb10 := NB283_281.out
    have hnc10 := NB281_283.out
    have hnb11 := NB283_282.out
    have hnc11 := NB282_283.out
    have hcz12_0 : wc.cell? ⟨gb283, 0, none⟩ = some (.int .i64 0) := (blk_cell BK283.out 0).trans rfl
    have hcz12_1 : wc.cell? ⟨gb283, 1, none⟩ = some (.int .i64 0) := (blk_cell BK283.out 1).trans rfl
    have hcz12_2 : wc.cell? ⟨gb283, 2, none⟩ = some (.string (⟨#[]⟩ : ByteArray)) := (blk_cell BK283.out 2).trans rfl
    have hfz12_0 := blk_frozen BK283.out 0
    have hfz12_1 := blk_frozen BK283.out 1
    have hfz12_2 := blk_frozen BK283.out 2
    go_wp2_with (first | ((with_reducible refine gate_store (t := 23) (p := 6) rfl ?_); refine store_event (t := 23) (p := 6) (v := ?vo_w13) (w1 := (((wc.setCell ⟨gb283, 0, none⟩ (.int .i64 0)).setCell ⟨gb283, 1, none⟩ (.int .i64 0)).setCell ⟨gb283, 2, none⟩ (.string (⟨#[]⟩ : ByteArray)))) ?hg ?ho ?hn ?hr ?_; (case ho => rfl); (case hg => rfl); (case hn => rfl); (case hr => first | (go_simp; done) | (go_simp; rfl)); intro w13 hw; have n0_ : Aside0 (w13.heap[gb281]? = some (.cells #[.int .i64 a1_0, .int .i64 a1_1, .string a1_2] 23 (0, 0))) := ⟨(by rw [hw]; exact (by (with_reducible repeat first | apply bN | apply bD | apply bA); refine bF ?_ NB281_283.out _; (with_reducible repeat first | apply bN | apply bD | apply bA); refine bF ?_ NB281_283.out _; (with_reducible repeat first | apply bN | apply bD | apply bA); refine bF ?_ NB281_283.out _; (with_reducible repeat first | apply bN | apply bD | apply bA); exact BK281.out))⟩; have n1_ : Aside0 (w13.heap[gb282]? = some (.cells #[.int .i64 a2_0, .int .i64 a2_1, .string a2_2] 23 (0, 0))) := ⟨(by rw [hw]; exact (by (with_reducible repeat first | apply bN | apply bD | apply bA); refine bF ?_ NB282_283.out _; (with_reducible repeat first | apply bN | apply bD | apply bA); refine bF ?_ NB282_283.out _; (with_reducible repeat first | apply bN | apply bD | apply bA); refine bF ?_ NB282_283.out _; (with_reducible repeat first | apply bN | apply bD | apply bA); exact BK282.out))⟩; have n2_ : Aside0 (w13.heap[gb283]? = some (.cells #[.int .i64 0, .int .i64 0, .string (⟨#[]⟩ : ByteArray)] 23 (0, 0))) := ⟨(by rw [hw]; exact (by (with_reducible repeat first | apply bN | apply bD | apply bA); refine blk_put (cs := #[.int .i64 0, .int .i64 0, .string (⟨#[]⟩ : ByteArray)]) ?_ 2 _ rfl; (with_reducible repeat first | apply bN | apply bD | apply bA); refine blk_put (cs := #[.int .i64 0, .int .i64 0, .string (⟨#[]⟩ : ByteArray)]) ?_ 1 _ rfl; (with_reducible repeat first | apply bN | apply bD | apply bA); refine blk_put (cs := #[.int .i64 0, .int .i64 0, .string (⟨#[]⟩ : ByteArray)]) ?_ 0 _ rfl; (with_reducible repeat first | apply bN | apply bD | apply bA); exact BK283.out))⟩; have n3_ : Aside0 (Below w.heap.size w w13) := ⟨(by rw [hw]; exact (by repeat (first | (with_reducible first | exact HB.out | apply pA | apply pN | apply pD | refine pS ?_ GE281.out | refine pS ?_ GE282.out | refine pS ?_ GE283.out) | exact HB.out)))⟩; clear hw; clear BK281; clear BK282; clear BK283; clear HB; have BK281 := n0_; have BK282 := n1_; have BK283 := n2_; have HB := n3_; clear n0_ n1_ n2_ n3_))
    refine bodyPost_ret (results_ct rfl _ _ gb283 23 #[.int .i64 0, .int .i64 0, .string (⟨#[]⟩ : ByteArray)] (0, 0) _ rfl (by (with_reducible repeat first | apply bN | apply bD | apply bA); exact BK283.out) Tryd.underlying23 rfl (by kernel_rfl)) rfl ?_
    exact ⟨by first | (simp only [ByteArray.size_extract, Nat.min_self]; rfl) | rfl | (simp [errW_none, errW_some] <;> rfl) | (simp [*, errW_none, errW_some] <;> rfl), by repeat (first | (with_reducible first | exact HB.out | apply pA | apply pN | apply pD | refine pS ?_ GE281.out | refine pS ?_ GE282.out | refine pS ?_ GE283.out) | exact HB.out)⟩
   ·
    replace c9 := Bool.eq_false_iff.mpr c9
    subst c9
    have H1 : ((unisonref01_Right.f a1_0 a1_1 a1_2).bind fun t284 => ((unisonref01_Right.f a2_0 a2_1 a2_2).bind fun t285 => (if t284 = true then (unisonref01_Compare.j1 kj3 a0 (!t285) a1_0 a1_1 a1_2 a2_0 a2_1 a2_2) else (unisonref01_Compare.j1 kj3 a0 true a1_0 a1_1 a1_2 a2_0 a2_1 a2_2)))) = some (r1, r2, r3, r4) := by rw [if_neg (show ¬ (false = true) by decide)] at H; exact H
    clear H
    have H := H1
    clear H1
    replace H := Option.bind_eq_some_iff.mp H
    obtain ⟨t284, A140, H⟩ := H
    replace H : ((unisonref01_Right.f a2_0 a2_1 a2_2).bind fun t285 => (if t284 = true then (unisonref01_Compare.j1 kj3 a0 (!t285) a1_0 a1_1 a1_2 a2_0 a2_1 a2_2) else (unisonref01_Compare.j1 kj3 a0 true a1_0 a1_1 a1_2 a2_0 a2_1 a2_2))) = some (r1, r2, r3, r4) := H
    have A14 := Aside0.mk A140
    clear A140
    replace H := Option.bind_eq_some_iff.mp H
    obtain ⟨t285, A150, H⟩ := H
    replace H : (if t284 = true then (unisonref01_Compare.j1 kj3 a0 (!t285) a1_0 a1_1 a1_2 a2_0 a2_1 a2_2) else (unisonref01_Compare.j1 kj3 a0 true a1_0 a1_1 a1_2 a2_0 a2_1 a2_2)) = some (r1, r2, r3, r4) := H
    have A15 := Aside0.mk A150
    clear A150
    have HC16 := Aside0.mk H
    clear H
    have hnb17 := NB281_282.out
    have hnc17 := NB282_281.out
    have hnb18 := NB281_283.out
    have hnc18 := NB283_281.out
    have hcz19_0 : wc.cell? ⟨gb281, 0, none⟩ = some (.int .i64 a1_0) := (blk_cell BK281.out 0).trans rfl
    have hcz19_1 : wc.cell? ⟨gb281, 1, none⟩ = some (.int .i64 a1_1) := (blk_cell BK281.out 1).trans rfl
    have hcz19_2 : wc.cell? ⟨gb281, 2, none⟩ = some (.string a1_2) := (blk_cell BK281.out 2).trans rfl
    have hfz19_0 := blk_frozen BK281.out 0
    have hfz19_1 := blk_frozen BK281.out 1
    have hfz19_2 := blk_frozen BK281.out 2
    go_upto_region 5 with (first | ((with_reducible refine gate_callee (f := 14) rfl ?_); refine goesL_ (some 20) rfl rfl Tryd.func14 (by kernel_rfl) rfl #[.agg #[.int .i64 a1_0, .int .i64 a1_1, .string a1_2]] rfl (by (try simp only [List.map_toArray, List.map_cons, List.map_nil]); first | done | rfl | (simp only [List.length_drop, List.length_take]; rfl)) ?_; (with_reducible refine (unisonref01_Right.calls a1_0 a1_1 a1_2 t284 _ A14.out).mono ?_); rintro e w20 ⟨rfl, hb⟩; refine ⟨_, rfl, ?_⟩; have n0_ := Aside0.mk (blk_below (g := gb281) (o := .cells #[.int .i64 a1_0, .int .i64 a1_1, .string a1_2] 23 (0, 0)) (by (with_reducible repeat first | apply bN | apply bD | apply bA); exact BK281.out) hb); have n1_ := Aside0.mk (blk_below (g := gb282) (o := .cells #[.int .i64 a2_0, .int .i64 a2_1, .string a2_2] 23 (0, 0)) (by (with_reducible repeat first | apply bN | apply bD | apply bA); exact BK282.out) hb); have n2_ := Aside0.mk (blk_below (g := gb283) (o := .cells #[.int .i64 0, .int .i64 0, .string (⟨#[]⟩ : ByteArray)] 23 (0, 0)) (by (with_reducible repeat first | apply bN | apply bD | apply bA); exact BK283.out) hb); have n3_ := Aside0.mk (below_step (by repeat (first | (with_reducible first | exact HB.out | apply pA | apply pN | apply pD | refine pS ?_ GE281.out | refine pS ?_ GE282.out | refine pS ?_ GE283.out) | exact HB.out)) hb); clear BK281; clear BK282; clear BK283; clear HB; have BK281 := n0_; have BK282 := n1_; have BK283 := n2_; have HB := n3_; clear n0_ n1_ n2_ n3_; (try clear hb); (try clear hb2); (try clear hk); (try clear hi); have hnb21 := NB282_283.out; have hnc21 := NB283_282.out; have hcz22_0 : w20.cell? ⟨gb282, 0, none⟩ = some (.int .i64 a2_0) := (blk_cell BK282.out 0).trans rfl; have hcz22_1 : w20.cell? ⟨gb282, 1, none⟩ = some (.int .i64 a2_1) := (blk_cell BK282.out 1).trans rfl; have hcz22_2 : w20.cell? ⟨gb282, 2, none⟩ = some (.string a2_2) := (blk_cell BK282.out 2).trans rfl; have hfz22_0 := blk_frozen BK282.out 0; have hfz22_1 := blk_frozen BK282.out 1; have hfz22_2 := blk_frozen BK282.out 2) | ((with_reducible refine gate_callee (f := 14) rfl ?_); refine goesL_ (some 22) rfl rfl Tryd.func14 (by kernel_rfl) rfl #[.agg #[.int .i64 a2_0, .int .i64 a2_1, .string a2_2]] rfl (by (try simp only [List.map_toArray, List.map_cons, List.map_nil]); first | done | rfl | (simp only [List.length_drop, List.length_take]; rfl)) ?_; (with_reducible refine (unisonref01_Right.calls a2_0 a2_1 a2_2 t285 _ A15.out).mono ?_); rintro e w23 ⟨rfl, hb⟩; refine ⟨_, rfl, ?_⟩; have n0_ := Aside0.mk (blk_below (g := gb281) (o := .cells #[.int .i64 a1_0, .int .i64 a1_1, .string a1_2] 23 (0, 0)) (by (with_reducible repeat first | apply bN | apply bD | apply bA); exact BK281.out) hb); have n1_ := Aside0.mk (blk_below (g := gb282) (o := .cells #[.int .i64 a2_0, .int .i64 a2_1, .string a2_2] 23 (0, 0)) (by (with_reducible repeat first | apply bN | apply bD | apply bA); exact BK282.out) hb); have n2_ := Aside0.mk (blk_below (g := gb283) (o := .cells #[.int .i64 0, .int .i64 0, .string (⟨#[]⟩ : ByteArray)] 23 (0, 0)) (by (with_reducible repeat first | apply bN | apply bD | apply bA); exact BK283.out) hb); have n3_ := Aside0.mk (below_step (by repeat (first | (with_reducible first | exact HB.out | apply pA | apply pN | apply pD | refine pS ?_ GE281.out | refine pS ?_ GE282.out | refine pS ?_ GE283.out) | exact HB.out)) hb); clear BK281; clear BK282; clear BK283; clear HB; have BK281 := n0_; have BK282 := n1_; have BK283 := n2_; have HB := n3_; clear n0_ n1_ n2_ n3_; (try clear hb); (try clear hb2); (try clear hk); (try clear hi)))
    (try simp only [Act.put, List.setIfInBounds_toArray, List.set_cons_zero, List.set_cons_succ])
    go_cut [28] (fun v28 wc => ∃ (kq : Nat) (x28_15 : Bool), v28 = .bool x28_15 ∧ Aside0 (unisonref01_Compare.j1 kq a0 x28_15 a1_0 a1_1 a1_2 a2_0 a2_1 a2_2 = some (r1, r2, r3, r4)) ∧ Aside0 (kq ≤ kj3) ∧ Aside0 (wc.heap[gb281]? = some (.cells #[.int .i64 a1_0, .int .i64 a1_1, .string a1_2] 23 (0, 0))) ∧ Aside0 (wc.heap[gb282]? = some (.cells #[.int .i64 a2_0, .int .i64 a2_1, .string a2_2] 23 (0, 0))) ∧ Aside0 (wc.heap[gb283]? = some (.cells #[.int .i64 0, .int .i64 0, .string (⟨#[]⟩ : ByteArray)] 23 (0, 0))) ∧ Aside0 (Below w.heap.size w wc))
    case first =>
     have H := HC16.out
     clear HC16
     by_cases c24 : t284 = true
     ·
      subst c24
      have H1 : (unisonref01_Compare.j1 kj3 a0 (!t285) a1_0 a1_1 a1_2 a2_0 a2_1 a2_2) = some (r1, r2, r3, r4) := by (first | rw [if_pos rfl] at H | rw [if_pos True.intro] at H | skip); exact H
      clear H
      have H := H1
      clear H1
      have H' := Aside0.mk H
      clear H
      go_wp2
      go_meet
      case rel => exact ⟨_, (!t285), (by first | rfl | (simp; done) | (simp [*]; done)), H', ⟨by have := HJ3.out; first | omega | exact Nat.le_refl _⟩, ⟨by (with_reducible repeat first | apply bN | apply bD | apply bA); exact BK281.out⟩, ⟨by (with_reducible repeat first | apply bN | apply bD | apply bA); exact BK282.out⟩, ⟨by (with_reducible repeat first | apply bN | apply bD | apply bA); exact BK283.out⟩, ⟨by repeat (first | (with_reducible first | exact HB.out | apply pA | apply pN | apply pD | refine pS ?_ GE281.out | refine pS ?_ GE282.out | refine pS ?_ GE283.out) | exact HB.out)⟩⟩
     ·
      replace c24 := Bool.eq_false_iff.mpr c24
      subst c24
      have H1 : (unisonref01_Compare.j1 kj3 a0 true a1_0 a1_1 a1_2 a2_0 a2_1 a2_2) = some (r1, r2, r3, r4) := by rw [if_neg (show ¬ (false = true) by decide)] at H; exact H
      clear H
      have H := H1
      clear H1
      have H' := Aside0.mk H
      clear H
      go_wp2
      go_meet
      case rel => exact ⟨_, (true), (by first | rfl | (simp; done) | (simp [*]; done)), H', ⟨by have := HJ3.out; first | omega | exact Nat.le_refl _⟩, ⟨by (with_reducible repeat first | apply bN | apply bD | apply bA); exact BK281.out⟩, ⟨by (with_reducible repeat first | apply bN | apply bD | apply bA); exact BK282.out⟩, ⟨by (with_reducible repeat first | apply bN | apply bD | apply bA); exact BK283.out⟩, ⟨by repeat (first | (with_reducible first | exact HB.out | apply pA | apply pN | apply pD | refine pS ?_ GE281.out | refine pS ?_ GE282.out | refine pS ?_ GE283.out) | exact HB.out)⟩⟩
    case rest =>
     clear HC16
     try clear c1
     try clear c2
     try clear p2
     try clear c8
     try clear c8b0
     try clear c8b1
     try clear c9
     try clear c10
     try clear c11
     try clear c14
     try clear c17
     try clear c18
     try clear c21
     try clear c24
     try clear hcz12_0
     try clear hcz12_1
     try clear hcz12_2
     try clear hcz19_0
     try clear hcz19_1
     try clear hcz19_2
     try clear hcz22_0
     try clear hcz22_1
     try clear hcz22_2
     try clear hfz12_0
     try clear hfz12_1
     try clear hfz12_2
     try clear hfz19_0
     try clear hfz19_1
     try clear hfz19_2
     try clear hfz22_0
     try clear hfz22_1
     try clear hfz22_2
     try clear p2
     obtain ⟨kq, x28_15, rfl, HA, HJ15, BK281, BK282, BK283, HB⟩ := hcut
     cases kq with
     | zero => exact absurd HA.out (by simp [unisonref01_Compare.j1])
     | succ kj15 =>
      have H := HA.out
      clear HA
      simp only [unisonref01_Compare.j1] at H
      by_cases c25 : x28_15 = true
      ·
       subst c25
       have H1 : (some (0, 0, (⟨#[]⟩ : ByteArray), 10)) = some (r1, r2, r3, r4) := by (first | rw [if_pos rfl] at H | rw [if_pos True.intro] at H | skip); exact H
       clear H
       have H := H1
       clear H1
       simp only [Option.some.injEq, Prod.mk.injEq] at H
       obtain ⟨rfl, rfl, rfl, rfl⟩ := H
       have hnb26 := NB283_281.out
       have hnc26 := NB281_283.out
       have hnb27 := NB283_282.out
       have hnc27 := NB282_283.out
       have hcz28_0 : wc.cell? ⟨gb283, 0, none⟩ = some (.int .i64 0) := (blk_cell BK283.out 0).trans rfl
       have hcz28_1 : wc.cell? ⟨gb283, 1, none⟩ = some (.int .i64 0) := (blk_cell BK283.out 1).trans rfl
       have hcz28_2 : wc.cell? ⟨gb283, 2, none⟩ = some (.string (⟨#[]⟩ : ByteArray)) := (blk_cell BK283.out 2).trans rfl
       have hfz28_0 := blk_frozen BK283.out 0
       have hfz28_1 := blk_frozen BK283.out 1
       have hfz28_2 := blk_frozen BK283.out 2
       go_wp2_with (first | ((with_reducible refine gate_store (t := 23) (p := 6) rfl ?_); refine store_event (t := 23) (p := 6) (v := ?vo_w29) (w1 := (((wc.setCell ⟨gb283, 0, none⟩ (.int .i64 0)).setCell ⟨gb283, 1, none⟩ (.int .i64 0)).setCell ⟨gb283, 2, none⟩ (.string (⟨#[]⟩ : ByteArray)))) ?hg ?ho ?hn ?hr ?_; (case ho => rfl); (case hg => rfl); (case hn => rfl); (case hr => first | (go_simp; done) | (go_simp; rfl)); intro w29 hw; have n0_ : Aside0 (w29.heap[gb281]? = some (.cells #[.int .i64 a1_0, .int .i64 a1_1, .string a1_2] 23 (0, 0))) := ⟨(by rw [hw]; exact (by (with_reducible repeat first | apply bN | apply bD | apply bA); refine bF ?_ NB281_283.out _; (with_reducible repeat first | apply bN | apply bD | apply bA); refine bF ?_ NB281_283.out _; (with_reducible repeat first | apply bN | apply bD | apply bA); refine bF ?_ NB281_283.out _; (with_reducible repeat first | apply bN | apply bD | apply bA); exact BK281.out))⟩; have n1_ : Aside0 (w29.heap[gb282]? = some (.cells #[.int .i64 a2_0, .int .i64 a2_1, .string a2_2] 23 (0, 0))) := ⟨(by rw [hw]; exact (by (with_reducible repeat first | apply bN | apply bD | apply bA); refine bF ?_ NB282_283.out _; (with_reducible repeat first | apply bN | apply bD | apply bA); refine bF ?_ NB282_283.out _; (with_reducible repeat first | apply bN | apply bD | apply bA); refine bF ?_ NB282_283.out _; (with_reducible repeat first | apply bN | apply bD | apply bA); exact BK282.out))⟩; have n2_ : Aside0 (w29.heap[gb283]? = some (.cells #[.int .i64 0, .int .i64 0, .string (⟨#[]⟩ : ByteArray)] 23 (0, 0))) := ⟨(by rw [hw]; exact (by (with_reducible repeat first | apply bN | apply bD | apply bA); refine blk_put (cs := #[.int .i64 0, .int .i64 0, .string (⟨#[]⟩ : ByteArray)]) ?_ 2 _ rfl; (with_reducible repeat first | apply bN | apply bD | apply bA); refine blk_put (cs := #[.int .i64 0, .int .i64 0, .string (⟨#[]⟩ : ByteArray)]) ?_ 1 _ rfl; (with_reducible repeat first | apply bN | apply bD | apply bA); refine blk_put (cs := #[.int .i64 0, .int .i64 0, .string (⟨#[]⟩ : ByteArray)]) ?_ 0 _ rfl; (with_reducible repeat first | apply bN | apply bD | apply bA); exact BK283.out))⟩; have n3_ : Aside0 (Below w.heap.size w w29) := ⟨(by rw [hw]; exact (by repeat (first | (with_reducible first | exact HB.out | apply pA | apply pN | apply pD | refine pS ?_ GE281.out | refine pS ?_ GE282.out | refine pS ?_ GE283.out) | exact HB.out)))⟩; clear hw; clear BK281; clear BK282; clear BK283; clear HB; have BK281 := n0_; have BK282 := n1_; have BK283 := n2_; have HB := n3_; clear n0_ n1_ n2_ n3_))
       refine bodyPost_ret (results_ct rfl _ _ gb283 23 #[.int .i64 0, .int .i64 0, .string (⟨#[]⟩ : ByteArray)] (0, 0) _ rfl (by (with_reducible repeat first | apply bN | apply bD | apply bA); exact BK283.out) Tryd.underlying23 rfl (by kernel_rfl)) rfl ?_
       exact ⟨by first | (simp only [ByteArray.size_extract, Nat.min_self]; rfl) | rfl | (simp [errW_none, errW_some] <;> rfl) | (simp [*, errW_none, errW_some] <;> rfl), by repeat (first | (with_reducible first | exact HB.out | apply pA | apply pN | apply pD | refine pS ?_ GE281.out | refine pS ?_ GE282.out | refine pS ?_ GE283.out) | exact HB.out)⟩
      ·
       replace c25 := Bool.eq_false_iff.mpr c25
       subst c25
       have H1 : (if a1_0 = 0 then (unisonref01_Compare.j2 kj15 a0 true a1_0 a1_1 a1_2 a2_0 a2_1 a2_2) else (unisonref01_Compare.j2 kj15 a0 (a2_0 == 0) a1_0 a1_1 a1_2 a2_0 a2_1 a2_2)) = some (r1, r2, r3, r4) := by rw [if_neg (show ¬ (false = true) by decide)] at H; exact H
       clear H
       have H := H1
       clear H1
       have HC30 := Aside0.mk H
       clear H
       go_upto_region 7 with (fail)
       go_cut [37] (fun v37 wc => ∃ (kq : Nat) (x37_29 : Bool), v37 = .bool x37_29 ∧ Aside0 (unisonref01_Compare.j2 kq a0 x37_29 a1_0 a1_1 a1_2 a2_0 a2_1 a2_2 = some (r1, r2, r3, r4)) ∧ Aside0 (kq ≤ kj15) ∧ Aside0 (wc.heap[gb281]? = some (.cells #[.int .i64 a1_0, .int .i64 a1_1, .string a1_2] 23 (0, 0))) ∧ Aside0 (wc.heap[gb282]? = some (.cells #[.int .i64 a2_0, .int .i64 a2_1, .string a2_2] 23 (0, 0))) ∧ Aside0 (wc.heap[gb283]? = some (.cells #[.int .i64 0, .int .i64 0, .string (⟨#[]⟩ : ByteArray)] 23 (0, 0))) ∧ Aside0 (Below w.heap.size w wc))
       case first =>
        have H := HC30.out
        clear HC30
        by_cases c31 : a1_0 = 0
        ·
         rw [if_pos c31] at H
         have c31b0 : (a1_0 == 0) = true := beq_iff_eq.mpr c31
         have c31b1 : (a1_0 != 0) = false := bne_eq_false_iff_eq.mpr c31
         clear c31
         (first | rw [c31b0] | (simp only [i64_w, i32_w, u8_w, u32_w]; rw [c31b0]) | rw [c31b1] | skip)
         have H' := Aside0.mk H
         clear H
         have hnb32 := NB281_282.out
         have hnc32 := NB282_281.out
         have hnb33 := NB281_283.out
         have hnc33 := NB283_281.out
         have hcz34_0 : wc.cell? ⟨gb281, 0, none⟩ = some (.int .i64 a1_0) := (blk_cell BK281.out 0).trans rfl
         have hcz34_1 : wc.cell? ⟨gb281, 1, none⟩ = some (.int .i64 a1_1) := (blk_cell BK281.out 1).trans rfl
         have hcz34_2 : wc.cell? ⟨gb281, 2, none⟩ = some (.string a1_2) := (blk_cell BK281.out 2).trans rfl
         have hfz34_0 := blk_frozen BK281.out 0
         have hfz34_1 := blk_frozen BK281.out 1
         have hfz34_2 := blk_frozen BK281.out 2
         go_wp2
         go_meet
         case rel => exact ⟨_, (true), (by first | rfl | (simp; done) | (simp [*]; done)), H', ⟨by have := HJ3.out; have := HJ15.out; first | omega | exact Nat.le_refl _⟩, ⟨by (with_reducible repeat first | apply bN | apply bD | apply bA); exact BK281.out⟩, ⟨by (with_reducible repeat first | apply bN | apply bD | apply bA); exact BK282.out⟩, ⟨by (with_reducible repeat first | apply bN | apply bD | apply bA); exact BK283.out⟩, ⟨by repeat (first | (with_reducible first | exact HB.out | apply pA | apply pN | apply pD | refine pS ?_ GE281.out | refine pS ?_ GE282.out | refine pS ?_ GE283.out) | exact HB.out)⟩⟩
        ·
         rw [if_neg c31] at H
         have c31b0 : (a1_0 == 0) = false := beq_eq_false_iff_ne.mpr c31
         have c31b1 : (a1_0 != 0) = true := bne_iff_ne.mpr c31
         (first | rw [c31b0] | (simp only [i64_w, i32_w, u8_w, u32_w]; rw [c31b0]) | rw [c31b1] | skip)
         have H' := Aside0.mk H
         clear H
         have hnb35 := NB281_282.out
         have hnc35 := NB282_281.out
         have hnb36 := NB281_283.out
         have hnc36 := NB283_281.out
         have hcz37_0 : wc.cell? ⟨gb281, 0, none⟩ = some (.int .i64 a1_0) := (blk_cell BK281.out 0).trans rfl
         have hcz37_1 : wc.cell? ⟨gb281, 1, none⟩ = some (.int .i64 a1_1) := (blk_cell BK281.out 1).trans rfl
         have hcz37_2 : wc.cell? ⟨gb281, 2, none⟩ = some (.string a1_2) := (blk_cell BK281.out 2).trans rfl
         have hfz37_0 := blk_frozen BK281.out 0
         have hfz37_1 := blk_frozen BK281.out 1
         have hfz37_2 := blk_frozen BK281.out 2
         have hnb38 := NB282_283.out
         have hnc38 := NB283_282.out
         have hcz39_0 : wc.cell? ⟨gb282, 0, none⟩ = some (.int .i64 a2_0) := (blk_cell BK282.out 0).trans rfl
         have hcz39_1 : wc.cell? ⟨gb282, 1, none⟩ = some (.int .i64 a2_1) := (blk_cell BK282.out 1).trans rfl
         have hcz39_2 : wc.cell? ⟨gb282, 2, none⟩ = some (.string a2_2) := (blk_cell BK282.out 2).trans rfl
         have hfz39_0 := blk_frozen BK282.out 0
         have hfz39_1 := blk_frozen BK282.out 1
         have hfz39_2 := blk_frozen BK282.out 2
         go_wp2
         go_meet
         case rel => exact ⟨_, ((a2_0 == 0)), (by first | rfl | (simp; done) | (simp [*]; done)), H', ⟨by have := HJ3.out; have := HJ15.out; first | omega | exact Nat.le_refl _⟩, ⟨by (with_reducible repeat first | apply bN | apply bD | apply bA); exact BK281.out⟩, ⟨by (with_reducible repeat first | apply bN | apply bD | apply bA); exact BK282.out⟩, ⟨by (with_reducible repeat first | apply bN | apply bD | apply bA); exact BK283.out⟩, ⟨by repeat (first | (with_reducible first | exact HB.out | apply pA | apply pN | apply pD | refine pS ?_ GE281.out | refine pS ?_ GE282.out | refine pS ?_ GE283.out) | exact HB.out)⟩⟩
       case rest =>
        clear HC30
        try clear c1
        try clear c2
        try clear p2
        try clear c3
        try clear c8
        try clear c8b0
        try clear c8b1
        try clear c9
        try clear c10
        try clear c11
        try clear c14
        try clear c17
        try clear c18
        try clear c21
        try clear c24
        try clear c25
        try clear c26
        try clear c27
        try clear c31
        try clear c31b0
        try clear c31b1
        try clear c32
        try clear c33
        try clear c35
        try clear c36
        try clear c38
        try clear hcz12_0
        try clear hcz12_1
        try clear hcz12_2
        try clear hcz19_0
        try clear hcz19_1
        try clear hcz19_2
        try clear hcz22_0
        try clear hcz22_1
        try clear hcz22_2
        try clear hcz28_0
        try clear hcz28_1
        try clear hcz28_2
        try clear hcz34_0
        try clear hcz34_1
        try clear hcz34_2
        try clear hcz37_0
        try clear hcz37_1
        try clear hcz37_2
        try clear hcz39_0
        try clear hcz39_1
        try clear hcz39_2
        try clear hfz12_0
        try clear hfz12_1
        try clear hfz12_2
        try clear hfz19_0
        try clear hfz19_1
        try clear hfz19_2
        try clear hfz22_0
        try clear hfz22_1
        try clear hfz22_2
        try clear hfz28_0
        try clear hfz28_1
        try clear hfz28_2
        try clear hfz34_0
        try clear hfz34_1
        try clear hfz34_2
        try clear hfz37_0
        try clear hfz37_1
        try clear hfz37_2
        try clear hfz39_0
        try clear hfz39_1
        try clear hfz39_2
        try clear p2
        obtain ⟨kq, x37_29, rfl, HA, HJ29, BK281, BK282, BK283, HB⟩ := hcut
        cases kq with
        | zero => exact absurd HA.out (by simp [unisonref01_Compare.j2])
        | succ kj29 =>
         have H := HA.out
         clear HA
         simp only [unisonref01_Compare.j2] at H
         by_cases c40 : x37_29 = true
         ·
          subst c40
          have H1 : (some (0, 0, (⟨#[]⟩ : ByteArray), 0)) = some (r1, r2, r3, r4) := by (first | rw [if_pos rfl] at H | rw [if_pos True.intro] at H | skip); exact H
          clear H
          have H := H1
          clear H1
          simp only [Option.some.injEq, Prod.mk.injEq] at H
          obtain ⟨rfl, rfl, rfl, rfl⟩ := H
          have hnb41 := NB283_281.out
          have hnc41 := NB281_283.out
          have hnb42 := NB283_282.out
          have hnc42 := NB282_283.out
          have hcz43_0 : wc.cell? ⟨gb283, 0, none⟩ = some (.int .i64 0) := (blk_cell BK283.out 0).trans rfl
          have hcz43_1 : wc.cell? ⟨gb283, 1, none⟩ = some (.int .i64 0) := (blk_cell BK283.out 1).trans rfl
          have hcz43_2 : wc.cell? ⟨gb283, 2, none⟩ = some (.string (⟨#[]⟩ : ByteArray)) := (blk_cell BK283.out 2).trans rfl
          have hfz43_0 := blk_frozen BK283.out 0
          have hfz43_1 := blk_frozen BK283.out 1
          have hfz43_2 := blk_frozen BK283.out 2
          go_wp2_with (first | ((with_reducible refine gate_store (t := 23) (p := 6) rfl ?_); refine store_event (t := 23) (p := 6) (v := ?vo_w44) (w1 := (((wc.setCell ⟨gb283, 0, none⟩ (.int .i64 0)).setCell ⟨gb283, 1, none⟩ (.int .i64 0)).setCell ⟨gb283, 2, none⟩ (.string (⟨#[]⟩ : ByteArray)))) ?hg ?ho ?hn ?hr ?_; (case ho => rfl); (case hg => rfl); (case hn => rfl); (case hr => first | (go_simp; done) | (go_simp; rfl)); intro w44 hw; have n0_ : Aside0 (w44.heap[gb281]? = some (.cells #[.int .i64 a1_0, .int .i64 a1_1, .string a1_2] 23 (0, 0))) := ⟨(by rw [hw]; exact (by (with_reducible repeat first | apply bN | apply bD | apply bA); refine bF ?_ NB281_283.out _; (with_reducible repeat first | apply bN | apply bD | apply bA); refine bF ?_ NB281_283.out _; (with_reducible repeat first | apply bN | apply bD | apply bA); refine bF ?_ NB281_283.out _; (with_reducible repeat first | apply bN | apply bD | apply bA); exact BK281.out))⟩; have n1_ : Aside0 (w44.heap[gb282]? = some (.cells #[.int .i64 a2_0, .int .i64 a2_1, .string a2_2] 23 (0, 0))) := ⟨(by rw [hw]; exact (by (with_reducible repeat first | apply bN | apply bD | apply bA); refine bF ?_ NB282_283.out _; (with_reducible repeat first | apply bN | apply bD | apply bA); refine bF ?_ NB282_283.out _; (with_reducible repeat first | apply bN | apply bD | apply bA); refine bF ?_ NB282_283.out _; (with_reducible repeat first | apply bN | apply bD | apply bA); exact BK282.out))⟩; have n2_ : Aside0 (w44.heap[gb283]? = some (.cells #[.int .i64 0, .int .i64 0, .string (⟨#[]⟩ : ByteArray)] 23 (0, 0))) := ⟨(by rw [hw]; exact (by (with_reducible repeat first | apply bN | apply bD | apply bA); refine blk_put (cs := #[.int .i64 0, .int .i64 0, .string (⟨#[]⟩ : ByteArray)]) ?_ 2 _ rfl; (with_reducible repeat first | apply bN | apply bD | apply bA); refine blk_put (cs := #[.int .i64 0, .int .i64 0, .string (⟨#[]⟩ : ByteArray)]) ?_ 1 _ rfl; (with_reducible repeat first | apply bN | apply bD | apply bA); refine blk_put (cs := #[.int .i64 0, .int .i64 0, .string (⟨#[]⟩ : ByteArray)]) ?_ 0 _ rfl; (with_reducible repeat first | apply bN | apply bD | apply bA); exact BK283.out))⟩; have n3_ : Aside0 (Below w.heap.size w w44) := ⟨(by rw [hw]; exact (by repeat (first | (with_reducible first | exact HB.out | apply pA | apply pN | apply pD | refine pS ?_ GE281.out | refine pS ?_ GE282.out | refine pS ?_ GE283.out) | exact HB.out)))⟩; clear hw; clear BK281; clear BK282; clear BK283; clear HB; have BK281 := n0_; have BK282 := n1_; have BK283 := n2_; have HB := n3_; clear n0_ n1_ n2_ n3_))
          refine bodyPost_ret (results_ct rfl _ _ gb283 23 #[.int .i64 0, .int .i64 0, .string (⟨#[]⟩ : ByteArray)] (0, 0) _ rfl (by (with_reducible repeat first | apply bN | apply bD | apply bA); exact BK283.out) Tryd.underlying23 rfl (by kernel_rfl)) rfl ?_
          exact ⟨by first | (simp only [ByteArray.size_extract, Nat.min_self]; rfl) | rfl | (simp [errW_none, errW_some] <;> rfl) | (simp [*, errW_none, errW_some] <;> rfl), by repeat (first | (with_reducible first | exact HB.out | apply pA | apply pN | apply pD | refine pS ?_ GE281.out | refine pS ?_ GE282.out | refine pS ?_ GE283.out) | exact HB.out)⟩
         ·
          replace c40 := Bool.eq_false_iff.mpr c40
          subst c40
          have H1 : (if a1_0 = a2_0 then ((unisonref01_Order.f a1_0 a1_1 a1_2 a2_0 a2_1 a2_2).bind fun t286 => (if a0 = 2 then ((unisonref01_Bool.f (t286 != 0)).bind fun bt287 => (some (bt287.1, bt287.2.1, bt287.2.2, 0))) else (if a0 = 3 then ((unisonref01_Bool.f (decide (t286 < 0))).bind fun bt290 => (some (bt290.1, bt290.2.1, bt290.2.2, 0))) else (if a0 = 4 then ((unisonref01_Bool.f (decide (t286 ≤ 0))).bind fun bt293 => (some (bt293.1, bt293.2.1, bt293.2.2, 0))) else (if a0 = 5 then ((unisonref01_Bool.f (decide (t286 > 0))).bind fun bt296 => (some (bt296.1, bt296.2.1, bt296.2.2, 0))) else (if a0 = 6 then ((unisonref01_Bool.f (decide (t286 ≥ 0))).bind fun bt299 => (some (bt299.1, bt299.2.1, bt299.2.2, 0))) else ((unisonref01_Bool.f (t286 == 0)).bind fun bt302 => (some (bt302.1, bt302.2.1, bt302.2.2, 0))))))))) else (some (0, 0, (⟨#[]⟩ : ByteArray), 11))) = some (r1, r2, r3, r4) := by rw [if_neg (show ¬ (false = true) by decide)] at H; exact H
          clear H
          have H := H1
          clear H1
          by_cases c45 : a1_0 = a2_0
          ·
           rw [if_pos c45] at H
           have c45b0 : (a1_0 == a2_0) = true := beq_iff_eq.mpr c45
           have c45b1 : (a1_0 != a2_0) = false := bne_eq_false_iff_eq.mpr c45
           clear c45
           replace H := Option.bind_eq_some_iff.mp H
           obtain ⟨t286, A460, H⟩ := H
           replace H : (if a0 = 2 then ((unisonref01_Bool.f (t286 != 0)).bind fun bt287 => (some (bt287.1, bt287.2.1, bt287.2.2, 0))) else (if a0 = 3 then ((unisonref01_Bool.f (decide (t286 < 0))).bind fun bt290 => (some (bt290.1, bt290.2.1, bt290.2.2, 0))) else (if a0 = 4 then ((unisonref01_Bool.f (decide (t286 ≤ 0))).bind fun bt293 => (some (bt293.1, bt293.2.1, bt293.2.2, 0))) else (if a0 = 5 then ((unisonref01_Bool.f (decide (t286 > 0))).bind fun bt296 => (some (bt296.1, bt296.2.1, bt296.2.2, 0))) else (if a0 = 6 then ((unisonref01_Bool.f (decide (t286 ≥ 0))).bind fun bt299 => (some (bt299.1, bt299.2.1, bt299.2.2, 0))) else ((unisonref01_Bool.f (t286 == 0)).bind fun bt302 => (some (bt302.1, bt302.2.1, bt302.2.2, 0)))))))) = some (r1, r2, r3, r4) := H
           have A46 := Aside0.mk A460
           clear A460
           by_cases c47 : a0 = 2
           ·
            rw [if_pos c47] at H
            have c47b0 : (a0 == 2) = true := beq_iff_eq.mpr c47
            have c47b1 : (a0 != 2) = false := bne_eq_false_iff_eq.mpr c47
            clear c47
            replace H := Option.bind_eq_some_iff.mp H
            obtain ⟨⟨t287, t288, t289⟩, A480, H⟩ := H
            replace H : (some (t287, t288, t289, 0)) = some (r1, r2, r3, r4) := H
            have A48 := Aside0.mk A480
            clear A480
            simp only [Option.some.injEq, Prod.mk.injEq] at H
            obtain ⟨rfl, rfl, rfl, rfl⟩ := H
            have hnb49 := NB281_282.out
            have hnc49 := NB282_281.out
            have hnb50 := NB281_283.out
            have hnc50 := NB283_281.out
            have hcz51_0 : wc.cell? ⟨gb281, 0, none⟩ = some (.int .i64 a1_0) := (blk_cell BK281.out 0).trans rfl
            have hcz51_1 : wc.cell? ⟨gb281, 1, none⟩ = some (.int .i64 a1_1) := (blk_cell BK281.out 1).trans rfl
            have hcz51_2 : wc.cell? ⟨gb281, 2, none⟩ = some (.string a1_2) := (blk_cell BK281.out 2).trans rfl
            have hfz51_0 := blk_frozen BK281.out 0
            have hfz51_1 := blk_frozen BK281.out 1
            have hfz51_2 := blk_frozen BK281.out 2
            have hnb52 := NB282_283.out
            have hnc52 := NB283_282.out
            have hcz53_0 : wc.cell? ⟨gb282, 0, none⟩ = some (.int .i64 a2_0) := (blk_cell BK282.out 0).trans rfl
            have hcz53_1 : wc.cell? ⟨gb282, 1, none⟩ = some (.int .i64 a2_1) := (blk_cell BK282.out 1).trans rfl
            have hcz53_2 : wc.cell? ⟨gb282, 2, none⟩ = some (.string a2_2) := (blk_cell BK282.out 2).trans rfl
            have hfz53_0 := blk_frozen BK282.out 0
            have hfz53_1 := blk_frozen BK282.out 1
            have hfz53_2 := blk_frozen BK282.out 2
            go_wp2_with (first | ((with_reducible refine gate_callee (f := 16) rfl ?_); refine goesL_ (some 47) rfl rfl Tryd.func16 (by kernel_rfl) rfl #[.agg #[.int .i64 a1_0, .int .i64 a1_1, .string a1_2], .agg #[.int .i64 a2_0, .int .i64 a2_1, .string a2_2]] rfl (by (try simp only [List.map_toArray, List.map_cons, List.map_nil]); first | done | rfl | (simp only [List.length_drop, List.length_take]; rfl)) ?_; (with_reducible refine (unisonref01_Order.calls a1_0 a1_1 a1_2 a2_0 a2_1 a2_2 t286 _ A46.out).mono ?_); rintro e w54 ⟨rfl, hb⟩; refine ⟨_, rfl, ?_⟩; have n0_ := Aside0.mk (blk_below (g := gb281) (o := .cells #[.int .i64 a1_0, .int .i64 a1_1, .string a1_2] 23 (0, 0)) (by (with_reducible repeat first | apply bN | apply bD | apply bA); exact BK281.out) hb); have n1_ := Aside0.mk (blk_below (g := gb282) (o := .cells #[.int .i64 a2_0, .int .i64 a2_1, .string a2_2] 23 (0, 0)) (by (with_reducible repeat first | apply bN | apply bD | apply bA); exact BK282.out) hb); have n2_ := Aside0.mk (blk_below (g := gb283) (o := .cells #[.int .i64 0, .int .i64 0, .string (⟨#[]⟩ : ByteArray)] 23 (0, 0)) (by (with_reducible repeat first | apply bN | apply bD | apply bA); exact BK283.out) hb); have n3_ := Aside0.mk (below_step (by repeat (first | (with_reducible first | exact HB.out | apply pA | apply pN | apply pD | refine pS ?_ GE281.out | refine pS ?_ GE282.out | refine pS ?_ GE283.out) | exact HB.out)) hb); clear BK281; clear BK282; clear BK283; clear HB; have BK281 := n0_; have BK282 := n1_; have BK283 := n2_; have HB := n3_; clear n0_ n1_ n2_ n3_; (try clear hb); (try clear hb2); (try clear hk); (try clear hi)) | ((with_reducible refine gate_callee (f := 43) rfl ?_); refine goesL_ (some 72) rfl rfl Tryd.func43 (by kernel_rfl) rfl #[.bool (t286 != 0)] rfl (by (try simp only [List.map_toArray, List.map_cons, List.map_nil]); first | done | rfl | (simp only [List.length_drop, List.length_take]; rfl)) ?_; (with_reducible refine (unisonref01_Bool.calls (t286 != 0) t287 t288 t289 _ A48.out).mono ?_); rintro e w55 ⟨rfl, hb⟩; refine ⟨_, rfl, ?_⟩; have n0_ := Aside0.mk (blk_below (g := gb281) (o := .cells #[.int .i64 a1_0, .int .i64 a1_1, .string a1_2] 23 (0, 0)) (by (with_reducible repeat first | apply bN | apply bD | apply bA); exact BK281.out) hb); have n1_ := Aside0.mk (blk_below (g := gb282) (o := .cells #[.int .i64 a2_0, .int .i64 a2_1, .string a2_2] 23 (0, 0)) (by (with_reducible repeat first | apply bN | apply bD | apply bA); exact BK282.out) hb); have n2_ := Aside0.mk (blk_below (g := gb283) (o := .cells #[.int .i64 0, .int .i64 0, .string (⟨#[]⟩ : ByteArray)] 23 (0, 0)) (by (with_reducible repeat first | apply bN | apply bD | apply bA); exact BK283.out) hb); have n3_ := Aside0.mk (below_step (by repeat (first | (with_reducible first | exact HB.out | apply pA | apply pN | apply pD | refine pS ?_ GE281.out | refine pS ?_ GE282.out | refine pS ?_ GE283.out) | exact HB.out)) hb); clear BK281; clear BK282; clear BK283; clear HB; have BK281 := n0_; have BK282 := n1_; have BK283 := n2_; have HB := n3_; clear n0_ n1_ n2_ n3_; (try clear hb); (try clear hb2); (try clear hk); (try clear hi); have hcz56_0 : w55.cell? ⟨gb283, 0, none⟩ = some (.int .i64 0) := (blk_cell BK283.out 0).trans rfl; have hcz56_1 : w55.cell? ⟨gb283, 1, none⟩ = some (.int .i64 0) := (blk_cell BK283.out 1).trans rfl; have hcz56_2 : w55.cell? ⟨gb283, 2, none⟩ = some (.string (⟨#[]⟩ : ByteArray)) := (blk_cell BK283.out 2).trans rfl; have hfz56_0 := blk_frozen BK283.out 0; have hfz56_1 := blk_frozen BK283.out 1; have hfz56_2 := blk_frozen BK283.out 2) | ((with_reducible refine gate_store (t := 23) (p := 6) rfl ?_); refine store_event (t := 23) (p := 6) (v := ?vo_w57) (w1 := (((w55.setCell ⟨gb283, 0, none⟩ (.int .i64 t287)).setCell ⟨gb283, 1, none⟩ (.int .i64 t288)).setCell ⟨gb283, 2, none⟩ (.string t289))) ?hg ?ho ?hn ?hr ?_; (case ho => rfl); (case hg => rfl); (case hn => rfl); (case hr => first | (go_simp; done) | (go_simp; rfl)); intro w57 hw; have n0_ : Aside0 (w57.heap[gb281]? = some (.cells #[.int .i64 a1_0, .int .i64 a1_1, .string a1_2] 23 (0, 0))) := ⟨(by rw [hw]; exact (by (with_reducible repeat first | apply bN | apply bD | apply bA); refine bF ?_ NB281_283.out _; (with_reducible repeat first | apply bN | apply bD | apply bA); refine bF ?_ NB281_283.out _; (with_reducible repeat first | apply bN | apply bD | apply bA); refine bF ?_ NB281_283.out _; (with_reducible repeat first | apply bN | apply bD | apply bA); exact BK281.out))⟩; have n1_ : Aside0 (w57.heap[gb282]? = some (.cells #[.int .i64 a2_0, .int .i64 a2_1, .string a2_2] 23 (0, 0))) := ⟨(by rw [hw]; exact (by (with_reducible repeat first | apply bN | apply bD | apply bA); refine bF ?_ NB282_283.out _; (with_reducible repeat first | apply bN | apply bD | apply bA); refine bF ?_ NB282_283.out _; (with_reducible repeat first | apply bN | apply bD | apply bA); refine bF ?_ NB282_283.out _; (with_reducible repeat first | apply bN | apply bD | apply bA); exact BK282.out))⟩; have n2_ : Aside0 (w57.heap[gb283]? = some (.cells #[.int .i64 t287, .int .i64 t288, .string t289] 23 (0, 0))) := ⟨(by rw [hw]; exact (by (with_reducible repeat first | apply bN | apply bD | apply bA); refine blk_put (cs := #[.int .i64 t287, .int .i64 t288, .string (⟨#[]⟩ : ByteArray)]) ?_ 2 _ rfl; (with_reducible repeat first | apply bN | apply bD | apply bA); refine blk_put (cs := #[.int .i64 t287, .int .i64 0, .string (⟨#[]⟩ : ByteArray)]) ?_ 1 _ rfl; (with_reducible repeat first | apply bN | apply bD | apply bA); refine blk_put (cs := #[.int .i64 0, .int .i64 0, .string (⟨#[]⟩ : ByteArray)]) ?_ 0 _ rfl; (with_reducible repeat first | apply bN | apply bD | apply bA); exact BK283.out))⟩; have n3_ : Aside0 (Below w.heap.size w w57) := ⟨(by rw [hw]; exact (by repeat (first | (with_reducible first | exact HB.out | apply pA | apply pN | apply pD | refine pS ?_ GE281.out | refine pS ?_ GE282.out | refine pS ?_ GE283.out) | exact HB.out)))⟩; clear hw; clear BK281; clear BK282; clear BK283; clear HB; have BK281 := n0_; have BK282 := n1_; have BK283 := n2_; have HB := n3_; clear n0_ n1_ n2_ n3_))
            refine bodyPost_ret (results_ct rfl _ _ gb283 23 #[.int .i64 t287, .int .i64 t288, .string t289] (0, 0) _ rfl (by (with_reducible repeat first | apply bN | apply bD | apply bA); exact BK283.out) Tryd.underlying23 rfl (by kernel_rfl)) rfl ?_
            exact ⟨by first | (simp only [ByteArray.size_extract, Nat.min_self]; rfl) | rfl | (simp [errW_none, errW_some] <;> rfl) | (simp [*, errW_none, errW_some] <;> rfl), by repeat (first | (with_reducible first | exact HB.out | apply pA | apply pN | apply pD | refine pS ?_ GE281.out | refine pS ?_ GE282.out | refine pS ?_ GE283.out) | exact HB.out)⟩
           ·
            rw [if_neg c47] at H
            have c47b0 : (a0 == 2) = false := beq_eq_false_iff_ne.mpr c47
            have c47b1 : (a0 != 2) = true := bne_iff_ne.mpr c47
            by_cases c58 : a0 = 3
            ·
             rw [if_pos c58] at H
             have c58b0 : (a0 == 3) = true := beq_iff_eq.mpr c58
             have c58b1 : (a0 != 3) = false := bne_eq_false_iff_eq.mpr c58
             clear c58
             replace H := Option.bind_eq_some_iff.mp H
             obtain ⟨⟨t290, t291, t292⟩, A590, H⟩ := H
             replace H : (some (t290, t291, t292, 0)) = some (r1, r2, r3, r4) := H
             have A59 := Aside0.mk A590
             clear A590
             simp only [Option.some.injEq, Prod.mk.injEq] at H
             obtain ⟨rfl, rfl, rfl, rfl⟩ := H
             have hnb60 := NB281_282.out
             have hnc60 := NB282_281.out
             have hnb61 := NB281_283.out
             have hnc61 := NB283_281.out
             have hcz62_0 : wc.cell? ⟨gb281, 0, none⟩ = some (.int .i64 a1_0) := (blk_cell BK281.out 0).trans rfl
             have hcz62_1 : wc.cell? ⟨gb281, 1, none⟩ = some (.int .i64 a1_1) := (blk_cell BK281.out 1).trans rfl
             have hcz62_2 : wc.cell? ⟨gb281, 2, none⟩ = some (.string a1_2) := (blk_cell BK281.out 2).trans rfl
             have hfz62_0 := blk_frozen BK281.out 0
             have hfz62_1 := blk_frozen BK281.out 1
             have hfz62_2 := blk_frozen BK281.out 2
             have hnb63 := NB282_283.out
             have hnc63 := NB283_282.out
             have hcz64_0 : wc.cell? ⟨gb282, 0, none⟩ = some (.int .i64 a2_0) := (blk_cell BK282.out 0).trans rfl
             have hcz64_1 : wc.cell? ⟨gb282, 1, none⟩ = some (.int .i64 a2_1) := (blk_cell BK282.out 1).trans rfl
             have hcz64_2 : wc.cell? ⟨gb282, 2, none⟩ = some (.string a2_2) := (blk_cell BK282.out 2).trans rfl
             have hfz64_0 := blk_frozen BK282.out 0
             have hfz64_1 := blk_frozen BK282.out 1
             have hfz64_2 := blk_frozen BK282.out 2
             go_wp2_with (first | ((with_reducible refine gate_callee (f := 16) rfl ?_); refine goesL_ (some 47) rfl rfl Tryd.func16 (by kernel_rfl) rfl #[.agg #[.int .i64 a1_0, .int .i64 a1_1, .string a1_2], .agg #[.int .i64 a2_0, .int .i64 a2_1, .string a2_2]] rfl (by (try simp only [List.map_toArray, List.map_cons, List.map_nil]); first | done | rfl | (simp only [List.length_drop, List.length_take]; rfl)) ?_; (with_reducible refine (unisonref01_Order.calls a1_0 a1_1 a1_2 a2_0 a2_1 a2_2 t286 _ A46.out).mono ?_); rintro e w65 ⟨rfl, hb⟩; refine ⟨_, rfl, ?_⟩; have n0_ := Aside0.mk (blk_below (g := gb281) (o := .cells #[.int .i64 a1_0, .int .i64 a1_1, .string a1_2] 23 (0, 0)) (by (with_reducible repeat first | apply bN | apply bD | apply bA); exact BK281.out) hb); have n1_ := Aside0.mk (blk_below (g := gb282) (o := .cells #[.int .i64 a2_0, .int .i64 a2_1, .string a2_2] 23 (0, 0)) (by (with_reducible repeat first | apply bN | apply bD | apply bA); exact BK282.out) hb); have n2_ := Aside0.mk (blk_below (g := gb283) (o := .cells #[.int .i64 0, .int .i64 0, .string (⟨#[]⟩ : ByteArray)] 23 (0, 0)) (by (with_reducible repeat first | apply bN | apply bD | apply bA); exact BK283.out) hb); have n3_ := Aside0.mk (below_step (by repeat (first | (with_reducible first | exact HB.out | apply pA | apply pN | apply pD | refine pS ?_ GE281.out | refine pS ?_ GE282.out | refine pS ?_ GE283.out) | exact HB.out)) hb); clear BK281; clear BK282; clear BK283; clear HB; have BK281 := n0_; have BK282 := n1_; have BK283 := n2_; have HB := n3_; clear n0_ n1_ n2_ n3_; (try clear hb); (try clear hb2); (try clear hk); (try clear hi)) | ((with_reducible refine gate_callee (f := 43) rfl ?_); refine goesL_ (some 72) rfl rfl Tryd.func43 (by kernel_rfl) rfl #[.bool (decide (t286 < 0))] rfl (by (try simp only [List.map_toArray, List.map_cons, List.map_nil]); first | done | rfl | (simp only [List.length_drop, List.length_take]; rfl)) ?_; (with_reducible refine (unisonref01_Bool.calls (decide (t286 < 0)) t290 t291 t292 _ A59.out).mono ?_); rintro e w66 ⟨rfl, hb⟩; refine ⟨_, rfl, ?_⟩; have n0_ := Aside0.mk (blk_below (g := gb281) (o := .cells #[.int .i64 a1_0, .int .i64 a1_1, .string a1_2] 23 (0, 0)) (by (with_reducible repeat first | apply bN | apply bD | apply bA); exact BK281.out) hb); have n1_ := Aside0.mk (blk_below (g := gb282) (o := .cells #[.int .i64 a2_0, .int .i64 a2_1, .string a2_2] 23 (0, 0)) (by (with_reducible repeat first | apply bN | apply bD | apply bA); exact BK282.out) hb); have n2_ := Aside0.mk (blk_below (g := gb283) (o := .cells #[.int .i64 0, .int .i64 0, .string (⟨#[]⟩ : ByteArray)] 23 (0, 0)) (by (with_reducible repeat first | apply bN | apply bD | apply bA); exact BK283.out) hb); have n3_ := Aside0.mk (below_step (by repeat (first | (with_reducible first | exact HB.out | apply pA | apply pN | apply pD | refine pS ?_ GE281.out | refine pS ?_ GE282.out | refine pS ?_ GE283.out) | exact HB.out)) hb); clear BK281; clear BK282; clear BK283; clear HB; have BK281 := n0_; have BK282 := n1_; have BK283 := n2_; have HB := n3_; clear n0_ n1_ n2_ n3_; (try clear hb); (try clear hb2); (try clear hk); (try clear hi); have hcz67_0 : w66.cell? ⟨gb283, 0, none⟩ = some (.int .i64 0) := (blk_cell BK283.out 0).trans rfl; have hcz67_1 : w66.cell? ⟨gb283, 1, none⟩ = some (.int .i64 0) := (blk_cell BK283.out 1).trans rfl; have hcz67_2 : w66.cell? ⟨gb283, 2, none⟩ = some (.string (⟨#[]⟩ : ByteArray)) := (blk_cell BK283.out 2).trans rfl; have hfz67_0 := blk_frozen BK283.out 0; have hfz67_1 := blk_frozen BK283.out 1; have hfz67_2 := blk_frozen BK283.out 2) | ((with_reducible refine gate_store (t := 23) (p := 6) rfl ?_); refine store_event (t := 23) (p := 6) (v := ?vo_w68) (w1 := (((w66.setCell ⟨gb283, 0, none⟩ (.int .i64 t290)).setCell ⟨gb283, 1, none⟩ (.int .i64 t291)).setCell ⟨gb283, 2, none⟩ (.string t292))) ?hg ?ho ?hn ?hr ?_; (case ho => rfl); (case hg => rfl); (case hn => rfl); (case hr => first | (go_simp; done) | (go_simp; rfl)); intro w68 hw; have n0_ : Aside0 (w68.heap[gb281]? = some (.cells #[.int .i64 a1_0, .int .i64 a1_1, .string a1_2] 23 (0, 0))) := ⟨(by rw [hw]; exact (by (with_reducible repeat first | apply bN | apply bD | apply bA); refine bF ?_ NB281_283.out _; (with_reducible repeat first | apply bN | apply bD | apply bA); refine bF ?_ NB281_283.out _; (with_reducible repeat first | apply bN | apply bD | apply bA); refine bF ?_ NB281_283.out _; (with_reducible repeat first | apply bN | apply bD | apply bA); exact BK281.out))⟩; have n1_ : Aside0 (w68.heap[gb282]? = some (.cells #[.int .i64 a2_0, .int .i64 a2_1, .string a2_2] 23 (0, 0))) := ⟨(by rw [hw]; exact (by (with_reducible repeat first | apply bN | apply bD | apply bA); refine bF ?_ NB282_283.out _; (with_reducible repeat first | apply bN | apply bD | apply bA); refine bF ?_ NB282_283.out _; (with_reducible repeat first | apply bN | apply bD | apply bA); refine bF ?_ NB282_283.out _; (with_reducible repeat first | apply bN | apply bD | apply bA); exact BK282.out))⟩; have n2_ : Aside0 (w68.heap[gb283]? = some (.cells #[.int .i64 t290, .int .i64 t291, .string t292] 23 (0, 0))) := ⟨(by rw [hw]; exact (by (with_reducible repeat first | apply bN | apply bD | apply bA); refine blk_put (cs := #[.int .i64 t290, .int .i64 t291, .string (⟨#[]⟩ : ByteArray)]) ?_ 2 _ rfl; (with_reducible repeat first | apply bN | apply bD | apply bA); refine blk_put (cs := #[.int .i64 t290, .int .i64 0, .string (⟨#[]⟩ : ByteArray)]) ?_ 1 _ rfl; (with_reducible repeat first | apply bN | apply bD | apply bA); refine blk_put (cs := #[.int .i64 0, .int .i64 0, .string (⟨#[]⟩ : ByteArray)]) ?_ 0 _ rfl; (with_reducible repeat first | apply bN | apply bD | apply bA); exact BK283.out))⟩; have n3_ : Aside0 (Below w.heap.size w w68) := ⟨(by rw [hw]; exact (by repeat (first | (with_reducible first | exact HB.out | apply pA | apply pN | apply pD | refine pS ?_ GE281.out | refine pS ?_ GE282.out | refine pS ?_ GE283.out) | exact HB.out)))⟩; clear hw; clear BK281; clear BK282; clear BK283; clear HB; have BK281 := n0_; have BK282 := n1_; have BK283 := n2_; have HB := n3_; clear n0_ n1_ n2_ n3_))
             refine bodyPost_ret (results_ct rfl _ _ gb283 23 #[.int .i64 t290, .int .i64 t291, .string t292] (0, 0) _ rfl (by (with_reducible repeat first | apply bN | apply bD | apply bA); exact BK283.out) Tryd.underlying23 rfl (by kernel_rfl)) rfl ?_
             exact ⟨by first | (simp only [ByteArray.size_extract, Nat.min_self]; rfl) | rfl | (simp [errW_none, errW_some] <;> rfl) | (simp [*, errW_none, errW_some] <;> rfl), by repeat (first | (with_reducible first | exact HB.out | apply pA | apply pN | apply pD | refine pS ?_ GE281.out | refine pS ?_ GE282.out | refine pS ?_ GE283.out) | exact HB.out)⟩
            ·
             rw [if_neg c58] at H
             have c58b0 : (a0 == 3) = false := beq_eq_false_iff_ne.mpr c58
             have c58b1 : (a0 != 3) = true := bne_iff_ne.mpr c58
             by_cases c69 : a0 = 4
             ·
              rw [if_pos c69] at H
              have c69b0 : (a0 == 4) = true := beq_iff_eq.mpr c69
              have c69b1 : (a0 != 4) = false := bne_eq_false_iff_eq.mpr c69
              clear c69
              replace H := Option.bind_eq_some_iff.mp H
              obtain ⟨⟨t293, t294, t295⟩, A700, H⟩ := H
              replace H : (some (t293, t294, t295, 0)) = some (r1, r2, r3, r4) := H
              have A70 := Aside0.mk A700
              clear A700
              simp only [Option.some.injEq, Prod.mk.injEq] at H
              obtain ⟨rfl, rfl, rfl, rfl⟩ := H
              have hnb71 := NB281_282.out
              have hnc71 := NB282_281.out
              have hnb72 := NB281_283.out
              have hnc72 := NB283_281.out
              have hcz73_0 : wc.cell? ⟨gb281, 0, none⟩ = some (.int .i64 a1_0) := (blk_cell BK281.out 0).trans rfl
              have hcz73_1 : wc.cell? ⟨gb281, 1, none⟩ = some (.int .i64 a1_1) := (blk_cell BK281.out 1).trans rfl
              have hcz73_2 : wc.cell? ⟨gb281, 2, none⟩ = some (.string a1_2) := (blk_cell BK281.out 2).trans rfl
              have hfz73_0 := blk_frozen BK281.out 0
              have hfz73_1 := blk_frozen BK281.out 1
              have hfz73_2 := blk_frozen BK281.out 2
              have hnb74 := NB282_283.out
              have hnc74 := NB283_282.out
              have hcz75_0 : wc.cell? ⟨gb282, 0, none⟩ = some (.int .i64 a2_0) := (blk_cell BK282.out 0).trans rfl
              have hcz75_1 : wc.cell? ⟨gb282, 1, none⟩ = some (.int .i64 a2_1) := (blk_cell BK282.out 1).trans rfl
              have hcz75_2 : wc.cell? ⟨gb282, 2, none⟩ = some (.string a2_2) := (blk_cell BK282.out 2).trans rfl
              have hfz75_0 := blk_frozen BK282.out 0
              have hfz75_1 := blk_frozen BK282.out 1
              have hfz75_2 := blk_frozen BK282.out 2
              go_wp2_with (first | ((with_reducible refine gate_callee (f := 16) rfl ?_); refine goesL_ (some 47) rfl rfl Tryd.func16 (by kernel_rfl) rfl #[.agg #[.int .i64 a1_0, .int .i64 a1_1, .string a1_2], .agg #[.int .i64 a2_0, .int .i64 a2_1, .string a2_2]] rfl (by (try simp only [List.map_toArray, List.map_cons, List.map_nil]); first | done | rfl | (simp only [List.length_drop, List.length_take]; rfl)) ?_; (with_reducible refine (unisonref01_Order.calls a1_0 a1_1 a1_2 a2_0 a2_1 a2_2 t286 _ A46.out).mono ?_); rintro e w76 ⟨rfl, hb⟩; refine ⟨_, rfl, ?_⟩; have n0_ := Aside0.mk (blk_below (g := gb281) (o := .cells #[.int .i64 a1_0, .int .i64 a1_1, .string a1_2] 23 (0, 0)) (by (with_reducible repeat first | apply bN | apply bD | apply bA); exact BK281.out) hb); have n1_ := Aside0.mk (blk_below (g := gb282) (o := .cells #[.int .i64 a2_0, .int .i64 a2_1, .string a2_2] 23 (0, 0)) (by (with_reducible repeat first | apply bN | apply bD | apply bA); exact BK282.out) hb); have n2_ := Aside0.mk (blk_below (g := gb283) (o := .cells #[.int .i64 0, .int .i64 0, .string (⟨#[]⟩ : ByteArray)] 23 (0, 0)) (by (with_reducible repeat first | apply bN | apply bD | apply bA); exact BK283.out) hb); have n3_ := Aside0.mk (below_step (by repeat (first | (with_reducible first | exact HB.out | apply pA | apply pN | apply pD | refine pS ?_ GE281.out | refine pS ?_ GE282.out | refine pS ?_ GE283.out) | exact HB.out)) hb); clear BK281; clear BK282; clear BK283; clear HB; have BK281 := n0_; have BK282 := n1_; have BK283 := n2_; have HB := n3_; clear n0_ n1_ n2_ n3_; (try clear hb); (try clear hb2); (try clear hk); (try clear hi)) | ((with_reducible refine gate_callee (f := 43) rfl ?_); refine goesL_ (some 72) rfl rfl Tryd.func43 (by kernel_rfl) rfl #[.bool (decide (t286 ≤ 0))] rfl (by (try simp only [List.map_toArray, List.map_cons, List.map_nil]); first | done | rfl | (simp only [List.length_drop, List.length_take]; rfl)) ?_; (with_reducible refine (unisonref01_Bool.calls (decide (t286 ≤ 0)) t293 t294 t295 _ A70.out).mono ?_); rintro e w77 ⟨rfl, hb⟩; refine ⟨_, rfl, ?_⟩; have n0_ := Aside0.mk (blk_below (g := gb281) (o := .cells #[.int .i64 a1_0, .int .i64 a1_1, .string a1_2] 23 (0, 0)) (by (with_reducible repeat first | apply bN | apply bD | apply bA); exact BK281.out) hb); have n1_ := Aside0.mk (blk_below (g := gb282) (o := .cells #[.int .i64 a2_0, .int .i64 a2_1, .string a2_2] 23 (0, 0)) (by (with_reducible repeat first | apply bN | apply bD | apply bA); exact BK282.out) hb); have n2_ := Aside0.mk (blk_below (g := gb283) (o := .cells #[.int .i64 0, .int .i64 0, .string (⟨#[]⟩ : ByteArray)] 23 (0, 0)) (by (with_reducible repeat first | apply bN | apply bD | apply bA); exact BK283.out) hb); have n3_ := Aside0.mk (below_step (by repeat (first | (with_reducible first | exact HB.out | apply pA | apply pN | apply pD | refine pS ?_ GE281.out | refine pS ?_ GE282.out | refine pS ?_ GE283.out) | exact HB.out)) hb); clear BK281; clear BK282; clear BK283; clear HB; have BK281 := n0_; have BK282 := n1_; have BK283 := n2_; have HB := n3_; clear n0_ n1_ n2_ n3_; (try clear hb); (try clear hb2); (try clear hk); (try clear hi); have hcz78_0 : w77.cell? ⟨gb283, 0, none⟩ = some (.int .i64 0) := (blk_cell BK283.out 0).trans rfl; have hcz78_1 : w77.cell? ⟨gb283, 1, none⟩ = some (.int .i64 0) := (blk_cell BK283.out 1).trans rfl; have hcz78_2 : w77.cell? ⟨gb283, 2, none⟩ = some (.string (⟨#[]⟩ : ByteArray)) := (blk_cell BK283.out 2).trans rfl; have hfz78_0 := blk_frozen BK283.out 0; have hfz78_1 := blk_frozen BK283.out 1; have hfz78_2 := blk_frozen BK283.out 2) | ((with_reducible refine gate_store (t := 23) (p := 6) rfl ?_); refine store_event (t := 23) (p := 6) (v := ?vo_w79) (w1 := (((w77.setCell ⟨gb283, 0, none⟩ (.int .i64 t293)).setCell ⟨gb283, 1, none⟩ (.int .i64 t294)).setCell ⟨gb283, 2, none⟩ (.string t295))) ?hg ?ho ?hn ?hr ?_; (case ho => rfl); (case hg => rfl); (case hn => rfl); (case hr => first | (go_simp; done) | (go_simp; rfl)); intro w79 hw; have n0_ : Aside0 (w79.heap[gb281]? = some (.cells #[.int .i64 a1_0, .int .i64 a1_1, .string a1_2] 23 (0, 0))) := ⟨(by rw [hw]; exact (by (with_reducible repeat first | apply bN | apply bD | apply bA); refine bF ?_ NB281_283.out _; (with_reducible repeat first | apply bN | apply bD | apply bA); refine bF ?_ NB281_283.out _; (with_reducible repeat first | apply bN | apply bD | apply bA); refine bF ?_ NB281_283.out _; (with_reducible repeat first | apply bN | apply bD | apply bA); exact BK281.out))⟩; have n1_ : Aside0 (w79.heap[gb282]? = some (.cells #[.int .i64 a2_0, .int .i64 a2_1, .string a2_2] 23 (0, 0))) := ⟨(by rw [hw]; exact (by (with_reducible repeat first | apply bN | apply bD | apply bA); refine bF ?_ NB282_283.out _; (with_reducible repeat first | apply bN | apply bD | apply bA); refine bF ?_ NB282_283.out _; (with_reducible repeat first | apply bN | apply bD | apply bA); refine bF ?_ NB282_283.out _; (with_reducible repeat first | apply bN | apply bD | apply bA); exact BK282.out))⟩; have n2_ : Aside0 (w79.heap[gb283]? = some (.cells #[.int .i64 t293, .int .i64 t294, .string t295] 23 (0, 0))) := ⟨(by rw [hw]; exact (by (with_reducible repeat first | apply bN | apply bD | apply bA); refine blk_put (cs := #[.int .i64 t293, .int .i64 t294, .string (⟨#[]⟩ : ByteArray)]) ?_ 2 _ rfl; (with_reducible repeat first | apply bN | apply bD | apply bA); refine blk_put (cs := #[.int .i64 t293, .int .i64 0, .string (⟨#[]⟩ : ByteArray)]) ?_ 1 _ rfl; (with_reducible repeat first | apply bN | apply bD | apply bA); refine blk_put (cs := #[.int .i64 0, .int .i64 0, .string (⟨#[]⟩ : ByteArray)]) ?_ 0 _ rfl; (with_reducible repeat first | apply bN | apply bD | apply bA); exact BK283.out))⟩; have n3_ : Aside0 (Below w.heap.size w w79) := ⟨(by rw [hw]; exact (by repeat (first | (with_reducible first | exact HB.out | apply pA | apply pN | apply pD | refine pS ?_ GE281.out | refine pS ?_ GE282.out | refine pS ?_ GE283.out) | exact HB.out)))⟩; clear hw; clear BK281; clear BK282; clear BK283; clear HB; have BK281 := n0_; have BK282 := n1_; have BK283 := n2_; have HB := n3_; clear n0_ n1_ n2_ n3_))
              refine bodyPost_ret (results_ct rfl _ _ gb283 23 #[.int .i64 t293, .int .i64 t294, .string t295] (0, 0) _ rfl (by (with_reducible repeat first | apply bN | apply bD | apply bA); exact BK283.out) Tryd.underlying23 rfl (by kernel_rfl)) rfl ?_
              exact ⟨by first | (simp only [ByteArray.size_extract, Nat.min_self]; rfl) | rfl | (simp [errW_none, errW_some] <;> rfl) | (simp [*, errW_none, errW_some] <;> rfl), by repeat (first | (with_reducible first | exact HB.out | apply pA | apply pN | apply pD | refine pS ?_ GE281.out | refine pS ?_ GE282.out | refine pS ?_ GE283.out) | exact HB.out)⟩
             ·
              rw [if_neg c69] at H
              have c69b0 : (a0 == 4) = false := beq_eq_false_iff_ne.mpr c69
              have c69b1 : (a0 != 4) = true := bne_iff_ne.mpr c69
              by_cases c80 : a0 = 5
              ·
               rw [if_pos c80] at H
               have c80b0 : (a0 == 5) = true := beq_iff_eq.mpr c80
               have c80b1 : (a0 != 5) = false := bne_eq_false_iff_eq.mpr c80
               clear c80
               replace H := Option.bind_eq_some_iff.mp H
               obtain ⟨⟨t296, t297, t298⟩, A810, H⟩ := H
               replace H : (some (t296, t297, t298, 0)) = some (r1, r2, r3, r4) := H
               have A81 := Aside0.mk A810
               clear A810
               simp only [Option.some.injEq, Prod.mk.injEq] at H
               obtain ⟨rfl, rfl, rfl, rfl⟩ := H
               have hnb82 := NB281_282.out
               have hnc82 := NB282_281.out
               have hnb83 := NB281_283.out
               have hnc83 := NB283_281.out
               have hcz84_0 : wc.cell? ⟨gb281, 0, none⟩ = some (.int .i64 a1_0) := (blk_cell BK281.out 0).trans rfl
               have hcz84_1 : wc.cell? ⟨gb281, 1, none⟩ = some (.int .i64 a1_1) := (blk_cell BK281.out 1).trans rfl
               have hcz84_2 : wc.cell? ⟨gb281, 2, none⟩ = some (.string a1_2) := (blk_cell BK281.out 2).trans rfl
               have hfz84_0 := blk_frozen BK281.out 0
               have hfz84_1 := blk_frozen BK281.out 1
               have hfz84_2 := blk_frozen BK281.out 2
               have hnb85 := NB282_283.out
               have hnc85 := NB283_282.out
               have hcz86_0 : wc.cell? ⟨gb282, 0, none⟩ = some (.int .i64 a2_0) := (blk_cell BK282.out 0).trans rfl
               have hcz86_1 : wc.cell? ⟨gb282, 1, none⟩ = some (.int .i64 a2_1) := (blk_cell BK282.out 1).trans rfl
               have hcz86_2 : wc.cell? ⟨gb282, 2, none⟩ = some (.string a2_2) := (blk_cell BK282.out 2).trans rfl
               have hfz86_0 := blk_frozen BK282.out 0
               have hfz86_1 := blk_frozen BK282.out 1
               have hfz86_2 := blk_frozen BK282.out 2
               go_wp2_with (first | ((with_reducible refine gate_callee (f := 16) rfl ?_); refine goesL_ (some 47) rfl rfl Tryd.func16 (by kernel_rfl) rfl #[.agg #[.int .i64 a1_0, .int .i64 a1_1, .string a1_2], .agg #[.int .i64 a2_0, .int .i64 a2_1, .string a2_2]] rfl (by (try simp only [List.map_toArray, List.map_cons, List.map_nil]); first | done | rfl | (simp only [List.length_drop, List.length_take]; rfl)) ?_; (with_reducible refine (unisonref01_Order.calls a1_0 a1_1 a1_2 a2_0 a2_1 a2_2 t286 _ A46.out).mono ?_); rintro e w87 ⟨rfl, hb⟩; refine ⟨_, rfl, ?_⟩; have n0_ := Aside0.mk (blk_below (g := gb281) (o := .cells #[.int .i64 a1_0, .int .i64 a1_1, .string a1_2] 23 (0, 0)) (by (with_reducible repeat first | apply bN | apply bD | apply bA); exact BK281.out) hb); have n1_ := Aside0.mk (blk_below (g := gb282) (o := .cells #[.int .i64 a2_0, .int .i64 a2_1, .string a2_2] 23 (0, 0)) (by (with_reducible repeat first | apply bN | apply bD | apply bA); exact BK282.out) hb); have n2_ := Aside0.mk (blk_below (g := gb283) (o := .cells #[.int .i64 0, .int .i64 0, .string (⟨#[]⟩ : ByteArray)] 23 (0, 0)) (by (with_reducible repeat first | apply bN | apply bD | apply bA); exact BK283.out) hb); have n3_ := Aside0.mk (below_step (by repeat (first | (with_reducible first | exact HB.out | apply pA | apply pN | apply pD | refine pS ?_ GE281.out | refine pS ?_ GE282.out | refine pS ?_ GE283.out) | exact HB.out)) hb); clear BK281; clear BK282; clear BK283; clear HB; have BK281 := n0_; have BK282 := n1_; have BK283 := n2_; have HB := n3_; clear n0_ n1_ n2_ n3_; (try clear hb); (try clear hb2); (try clear hk); (try clear hi)) | ((with_reducible refine gate_callee (f := 43) rfl ?_); refine goesL_ (some 72) rfl rfl Tryd.func43 (by kernel_rfl) rfl #[.bool (decide (t286 > 0))] rfl (by (try simp only [List.map_toArray, List.map_cons, List.map_nil]); first | done | rfl | (simp only [List.length_drop, List.length_take]; rfl)) ?_; (with_reducible refine (unisonref01_Bool.calls (decide (t286 > 0)) t296 t297 t298 _ A81.out).mono ?_); rintro e w88 ⟨rfl, hb⟩; refine ⟨_, rfl, ?_⟩; have n0_ := Aside0.mk (blk_below (g := gb281) (o := .cells #[.int .i64 a1_0, .int .i64 a1_1, .string a1_2] 23 (0, 0)) (by (with_reducible repeat first | apply bN | apply bD | apply bA); exact BK281.out) hb); have n1_ := Aside0.mk (blk_below (g := gb282) (o := .cells #[.int .i64 a2_0, .int .i64 a2_1, .string a2_2] 23 (0, 0)) (by (with_reducible repeat first | apply bN | apply bD | apply bA); exact BK282.out) hb); have n2_ := Aside0.mk (blk_below (g := gb283) (o := .cells #[.int .i64 0, .int .i64 0, .string (⟨#[]⟩ : ByteArray)] 23 (0, 0)) (by (with_reducible repeat first | apply bN | apply bD | apply bA); exact BK283.out) hb); have n3_ := Aside0.mk (below_step (by repeat (first | (with_reducible first | exact HB.out | apply pA | apply pN | apply pD | refine pS ?_ GE281.out | refine pS ?_ GE282.out | refine pS ?_ GE283.out) | exact HB.out)) hb); clear BK281; clear BK282; clear BK283; clear HB; have BK281 := n0_; have BK282 := n1_; have BK283 := n2_; have HB := n3_; clear n0_ n1_ n2_ n3_; (try clear hb); (try clear hb2); (try clear hk); (try clear hi); have hcz89_0 : w88.cell? ⟨gb283, 0, none⟩ = some (.int .i64 0) := (blk_cell BK283.out 0).trans rfl; have hcz89_1 : w88.cell? ⟨gb283, 1, none⟩ = some (.int .i64 0) := (blk_cell BK283.out 1).trans rfl; have hcz89_2 : w88.cell? ⟨gb283, 2, none⟩ = some (.string (⟨#[]⟩ : ByteArray)) := (blk_cell BK283.out 2).trans rfl; have hfz89_0 := blk_frozen BK283.out 0; have hfz89_1 := blk_frozen BK283.out 1; have hfz89_2 := blk_frozen BK283.out 2) | ((with_reducible refine gate_store (t := 23) (p := 6) rfl ?_); refine store_event (t := 23) (p := 6) (v := ?vo_w90) (w1 := (((w88.setCell ⟨gb283, 0, none⟩ (.int .i64 t296)).setCell ⟨gb283, 1, none⟩ (.int .i64 t297)).setCell ⟨gb283, 2, none⟩ (.string t298))) ?hg ?ho ?hn ?hr ?_; (case ho => rfl); (case hg => rfl); (case hn => rfl); (case hr => first | (go_simp; done) | (go_simp; rfl)); intro w90 hw; have n0_ : Aside0 (w90.heap[gb281]? = some (.cells #[.int .i64 a1_0, .int .i64 a1_1, .string a1_2] 23 (0, 0))) := ⟨(by rw [hw]; exact (by (with_reducible repeat first | apply bN | apply bD | apply bA); refine bF ?_ NB281_283.out _; (with_reducible repeat first | apply bN | apply bD | apply bA); refine bF ?_ NB281_283.out _; (with_reducible repeat first | apply bN | apply bD | apply bA); refine bF ?_ NB281_283.out _; (with_reducible repeat first | apply bN | apply bD | apply bA); exact BK281.out))⟩; have n1_ : Aside0 (w90.heap[gb282]? = some (.cells #[.int .i64 a2_0, .int .i64 a2_1, .string a2_2] 23 (0, 0))) := ⟨(by rw [hw]; exact (by (with_reducible repeat first | apply bN | apply bD | apply bA); refine bF ?_ NB282_283.out _; (with_reducible repeat first | apply bN | apply bD | apply bA); refine bF ?_ NB282_283.out _; (with_reducible repeat first | apply bN | apply bD | apply bA); refine bF ?_ NB282_283.out _; (with_reducible repeat first | apply bN | apply bD | apply bA); exact BK282.out))⟩; have n2_ : Aside0 (w90.heap[gb283]? = some (.cells #[.int .i64 t296, .int .i64 t297, .string t298] 23 (0, 0))) := ⟨(by rw [hw]; exact (by (with_reducible repeat first | apply bN | apply bD | apply bA); refine blk_put (cs := #[.int .i64 t296, .int .i64 t297, .string (⟨#[]⟩ : ByteArray)]) ?_ 2 _ rfl; (with_reducible repeat first | apply bN | apply bD | apply bA); refine blk_put (cs := #[.int .i64 t296, .int .i64 0, .string (⟨#[]⟩ : ByteArray)]) ?_ 1 _ rfl; (with_reducible repeat first | apply bN | apply bD | apply bA); refine blk_put (cs := #[.int .i64 0, .int .i64 0, .string (⟨#[]⟩ : ByteArray)]) ?_ 0 _ rfl; (with_reducible repeat first | apply bN | apply bD | apply bA); exact BK283.out))⟩; have n3_ : Aside0 (Below w.heap.size w w90) := ⟨(by rw [hw]; exact (by repeat (first | (with_reducible first | exact HB.out | apply pA | apply pN | apply pD | refine pS ?_ GE281.out | refine pS ?_ GE282.out | refine pS ?_ GE283.out) | exact HB.out)))⟩; clear hw; clear BK281; clear BK282; clear BK283; clear HB; have BK281 := n0_; have BK282 := n1_; have BK283 := n2_; have HB := n3_; clear n0_ n1_ n2_ n3_))
               refine bodyPost_ret (results_ct rfl _ _ gb283 23 #[.int .i64 t296, .int .i64 t297, .string t298] (0, 0) _ rfl (by (with_reducible repeat first | apply bN | apply bD | apply bA); exact BK283.out) Tryd.underlying23 rfl (by kernel_rfl)) rfl ?_
               exact ⟨by first | (simp only [ByteArray.size_extract, Nat.min_self]; rfl) | rfl | (simp [errW_none, errW_some] <;> rfl) | (simp [*, errW_none, errW_some] <;> rfl), by repeat (first | (with_reducible first | exact HB.out | apply pA | apply pN | apply pD | refine pS ?_ GE281.out | refine pS ?_ GE282.out | refine pS ?_ GE283.out) | exact HB.out)⟩
              ·
               rw [if_neg c80] at H
               have c80b0 : (a0 == 5) = false := beq_eq_false_iff_ne.mpr c80
               have c80b1 : (a0 != 5) = true := bne_iff_ne.mpr c80
               by_cases c91 : a0 = 6
               ·
                rw [if_pos c91] at H
                have c91b0 : (a0 == 6) = true := beq_iff_eq.mpr c91
                have c91b1 : (a0 != 6) = false := bne_eq_false_iff_eq.mpr c91
                clear c91
                replace H := Option.bind_eq_some_iff.mp H
                obtain ⟨⟨t299, t300, t301⟩, A920, H⟩ := H
                replace H : (some (t299, t300, t301, 0)) = some (r1, r2, r3, r4) := H
                have A92 := Aside0.mk A920
                clear A920
                simp only [Option.some.injEq, Prod.mk.injEq] at H
                obtain ⟨rfl, rfl, rfl, rfl⟩ := H
                have hnb93 := NB281_282.out
                have hnc93 := NB282_281.out
                have hnb94 := NB281_283.out
                have hnc94 := NB283_281.out
                have hcz95_0 : wc.cell? ⟨gb281, 0, none⟩ = some (.int .i64 a1_0) := (blk_cell BK281.out 0).trans rfl
                have hcz95_1 : wc.cell? ⟨gb281, 1, none⟩ = some (.int .i64 a1_1) := (blk_cell BK281.out 1).trans rfl
                have hcz95_2 : wc.cell? ⟨gb281, 2, none⟩ = some (.string a1_2) := (blk_cell BK281.out 2).trans rfl
                have hfz95_0 := blk_frozen BK281.out 0
                have hfz95_1 := blk_frozen BK281.out 1
                have hfz95_2 := blk_frozen BK281.out 2
                have hnb96 := NB282_283.out
                have hnc96 := NB283_282.out
                have hcz97_0 : wc.cell? ⟨gb282, 0, none⟩ = some (.int .i64 a2_0) := (blk_cell BK282.out 0).trans rfl
                have hcz97_1 : wc.cell? ⟨gb282, 1, none⟩ = some (.int .i64 a2_1) := (blk_cell BK282.out 1).trans rfl
                have hcz97_2 : wc.cell? ⟨gb282, 2, none⟩ = some (.string a2_2) := (blk_cell BK282.out 2).trans rfl
                have hfz97_0 := blk_frozen BK282.out 0
                have hfz97_1 := blk_frozen BK282.out 1
                have hfz97_2 := blk_frozen BK282.out 2
                go_wp2_with (first | ((with_reducible refine gate_callee (f := 16) rfl ?_); refine goesL_ (some 47) rfl rfl Tryd.func16 (by kernel_rfl) rfl #[.agg #[.int .i64 a1_0, .int .i64 a1_1, .string a1_2], .agg #[.int .i64 a2_0, .int .i64 a2_1, .string a2_2]] rfl (by (try simp only [List.map_toArray, List.map_cons, List.map_nil]); first | done | rfl | (simp only [List.length_drop, List.length_take]; rfl)) ?_; (with_reducible refine (unisonref01_Order.calls a1_0 a1_1 a1_2 a2_0 a2_1 a2_2 t286 _ A46.out).mono ?_); rintro e w98 ⟨rfl, hb⟩; refine ⟨_, rfl, ?_⟩; have n0_ := Aside0.mk (blk_below (g := gb281) (o := .cells #[.int .i64 a1_0, .int .i64 a1_1, .string a1_2] 23 (0, 0)) (by (with_reducible repeat first | apply bN | apply bD | apply bA); exact BK281.out) hb); have n1_ := Aside0.mk (blk_below (g := gb282) (o := .cells #[.int .i64 a2_0, .int .i64 a2_1, .string a2_2] 23 (0, 0)) (by (with_reducible repeat first | apply bN | apply bD | apply bA); exact BK282.out) hb); have n2_ := Aside0.mk (blk_below (g := gb283) (o := .cells #[.int .i64 0, .int .i64 0, .string (⟨#[]⟩ : ByteArray)] 23 (0, 0)) (by (with_reducible repeat first | apply bN | apply bD | apply bA); exact BK283.out) hb); have n3_ := Aside0.mk (below_step (by repeat (first | (with_reducible first | exact HB.out | apply pA | apply pN | apply pD | refine pS ?_ GE281.out | refine pS ?_ GE282.out | refine pS ?_ GE283.out) | exact HB.out)) hb); clear BK281; clear BK282; clear BK283; clear HB; have BK281 := n0_; have BK282 := n1_; have BK283 := n2_; have HB := n3_; clear n0_ n1_ n2_ n3_; (try clear hb); (try clear hb2); (try clear hk); (try clear hi)) | ((with_reducible refine gate_callee (f := 43) rfl ?_); refine goesL_ (some 72) rfl rfl Tryd.func43 (by kernel_rfl) rfl #[.bool (decide (t286 ≥ 0))] rfl (by (try simp only [List.map_toArray, List.map_cons, List.map_nil]); first | done | rfl | (simp only [List.length_drop, List.length_take]; rfl)) ?_; (with_reducible refine (unisonref01_Bool.calls (decide (t286 ≥ 0)) t299 t300 t301 _ A92.out).mono ?_); rintro e w99 ⟨rfl, hb⟩; refine ⟨_, rfl, ?_⟩; have n0_ := Aside0.mk (blk_below (g := gb281) (o := .cells #[.int .i64 a1_0, .int .i64 a1_1, .string a1_2] 23 (0, 0)) (by (with_reducible repeat first | apply bN | apply bD | apply bA); exact BK281.out) hb); have n1_ := Aside0.mk (blk_below (g := gb282) (o := .cells #[.int .i64 a2_0, .int .i64 a2_1, .string a2_2] 23 (0, 0)) (by (with_reducible repeat first | apply bN | apply bD | apply bA); exact BK282.out) hb); have n2_ := Aside0.mk (blk_below (g := gb283) (o := .cells #[.int .i64 0, .int .i64 0, .string (⟨#[]⟩ : ByteArray)] 23 (0, 0)) (by (with_reducible repeat first | apply bN | apply bD | apply bA); exact BK283.out) hb); have n3_ := Aside0.mk (below_step (by repeat (first | (with_reducible first | exact HB.out | apply pA | apply pN | apply pD | refine pS ?_ GE281.out | refine pS ?_ GE282.out | refine pS ?_ GE283.out) | exact HB.out)) hb); clear BK281; clear BK282; clear BK283; clear HB; have BK281 := n0_; have BK282 := n1_; have BK283 := n2_; have HB := n3_; clear n0_ n1_ n2_ n3_; (try clear hb); (try clear hb2); (try clear hk); (try clear hi); have hcz100_0 : w99.cell? ⟨gb283, 0, none⟩ = some (.int .i64 0) := (blk_cell BK283.out 0).trans rfl; have hcz100_1 : w99.cell? ⟨gb283, 1, none⟩ = some (.int .i64 0) := (blk_cell BK283.out 1).trans rfl; have hcz100_2 : w99.cell? ⟨gb283, 2, none⟩ = some (.string (⟨#[]⟩ : ByteArray)) := (blk_cell BK283.out 2).trans rfl; have hfz100_0 := blk_frozen BK283.out 0; have hfz100_1 := blk_frozen BK283.out 1; have hfz100_2 := blk_frozen BK283.out 2) | ((with_reducible refine gate_store (t := 23) (p := 6) rfl ?_); refine store_event (t := 23) (p := 6) (v := ?vo_w101) (w1 := (((w99.setCell ⟨gb283, 0, none⟩ (.int .i64 t299)).setCell ⟨gb283, 1, none⟩ (.int .i64 t300)).setCell ⟨gb283, 2, none⟩ (.string t301))) ?hg ?ho ?hn ?hr ?_; (case ho => rfl); (case hg => rfl); (case hn => rfl); (case hr => first | (go_simp; done) | (go_simp; rfl)); intro w101 hw; have n0_ : Aside0 (w101.heap[gb281]? = some (.cells #[.int .i64 a1_0, .int .i64 a1_1, .string a1_2] 23 (0, 0))) := ⟨(by rw [hw]; exact (by (with_reducible repeat first | apply bN | apply bD | apply bA); refine bF ?_ NB281_283.out _; (with_reducible repeat first | apply bN | apply bD | apply bA); refine bF ?_ NB281_283.out _; (with_reducible repeat first | apply bN | apply bD | apply bA); refine bF ?_ NB281_283.out _; (with_reducible repeat first | apply bN | apply bD | apply bA); exact BK281.out))⟩; have n1_ : Aside0 (w101.heap[gb282]? = some (.cells #[.int .i64 a2_0, .int .i64 a2_1, .string a2_2] 23 (0, 0))) := ⟨(by rw [hw]; exact (by (with_reducible repeat first | apply bN | apply bD | apply bA); refine bF ?_ NB282_283.out _; (with_reducible repeat first | apply bN | apply bD | apply bA); refine bF ?_ NB282_283.out _; (with_reducible repeat first | apply bN | apply bD | apply bA); refine bF ?_ NB282_283.out _; (with_reducible repeat first | apply bN | apply bD | apply bA); exact BK282.out))⟩; have n2_ : Aside0 (w101.heap[gb283]? = some (.cells #[.int .i64 t299, .int .i64 t300, .string t301] 23 (0, 0))) := ⟨(by rw [hw]; exact (by (with_reducible repeat first | apply bN | apply bD | apply bA); refine blk_put (cs := #[.int .i64 t299, .int .i64 t300, .string (⟨#[]⟩ : ByteArray)]) ?_ 2 _ rfl; (with_reducible repeat first | apply bN | apply bD | apply bA); refine blk_put (cs := #[.int .i64 t299, .int .i64 0, .string (⟨#[]⟩ : ByteArray)]) ?_ 1 _ rfl; (with_reducible repeat first | apply bN | apply bD | apply bA); refine blk_put (cs := #[.int .i64 0, .int .i64 0, .string (⟨#[]⟩ : ByteArray)]) ?_ 0 _ rfl; (with_reducible repeat first | apply bN | apply bD | apply bA); exact BK283.out))⟩; have n3_ : Aside0 (Below w.heap.size w w101) := ⟨(by rw [hw]; exact (by repeat (first | (with_reducible first | exact HB.out | apply pA | apply pN | apply pD | refine pS ?_ GE281.out | refine pS ?_ GE282.out | refine pS ?_ GE283.out) | exact HB.out)))⟩; clear hw; clear BK281; clear BK282; clear BK283; clear HB; have BK281 := n0_; have BK282 := n1_; have BK283 := n2_; have HB := n3_; clear n0_ n1_ n2_ n3_))
                refine bodyPost_ret (results_ct rfl _ _ gb283 23 #[.int .i64 t299, .int .i64 t300, .string t301] (0, 0) _ rfl (by (with_reducible repeat first | apply bN | apply bD | apply bA); exact BK283.out) Tryd.underlying23 rfl (by kernel_rfl)) rfl ?_
                exact ⟨by first | (simp only [ByteArray.size_extract, Nat.min_self]; rfl) | rfl | (simp [errW_none, errW_some] <;> rfl) | (simp [*, errW_none, errW_some] <;> rfl), by repeat (first | (with_reducible first | exact HB.out | apply pA | apply pN | apply pD | refine pS ?_ GE281.out | refine pS ?_ GE282.out | refine pS ?_ GE283.out) | exact HB.out)⟩
               ·
                rw [if_neg c91] at H
                have c91b0 : (a0 == 6) = false := beq_eq_false_iff_ne.mpr c91
                have c91b1 : (a0 != 6) = true := bne_iff_ne.mpr c91
                replace H := Option.bind_eq_some_iff.mp H
                obtain ⟨⟨t302, t303, t304⟩, A1020, H⟩ := H
                replace H : (some (t302, t303, t304, 0)) = some (r1, r2, r3, r4) := H
                have A102 := Aside0.mk A1020
                clear A1020
                simp only [Option.some.injEq, Prod.mk.injEq] at H
                obtain ⟨rfl, rfl, rfl, rfl⟩ := H
                have hnb103 := NB281_282.out
                have hnc103 := NB282_281.out
                have hnb104 := NB281_283.out
                have hnc104 := NB283_281.out
                have hcz105_0 : wc.cell? ⟨gb281, 0, none⟩ = some (.int .i64 a1_0) := (blk_cell BK281.out 0).trans rfl
                have hcz105_1 : wc.cell? ⟨gb281, 1, none⟩ = some (.int .i64 a1_1) := (blk_cell BK281.out 1).trans rfl
                have hcz105_2 : wc.cell? ⟨gb281, 2, none⟩ = some (.string a1_2) := (blk_cell BK281.out 2).trans rfl
                have hfz105_0 := blk_frozen BK281.out 0
                have hfz105_1 := blk_frozen BK281.out 1
                have hfz105_2 := blk_frozen BK281.out 2
                have hnb106 := NB282_283.out
                have hnc106 := NB283_282.out
                have hcz107_0 : wc.cell? ⟨gb282, 0, none⟩ = some (.int .i64 a2_0) := (blk_cell BK282.out 0).trans rfl
                have hcz107_1 : wc.cell? ⟨gb282, 1, none⟩ = some (.int .i64 a2_1) := (blk_cell BK282.out 1).trans rfl
                have hcz107_2 : wc.cell? ⟨gb282, 2, none⟩ = some (.string a2_2) := (blk_cell BK282.out 2).trans rfl
                have hfz107_0 := blk_frozen BK282.out 0
                have hfz107_1 := blk_frozen BK282.out 1
                have hfz107_2 := blk_frozen BK282.out 2
                go_wp2_with (first | ((with_reducible refine gate_callee (f := 16) rfl ?_); refine goesL_ (some 47) rfl rfl Tryd.func16 (by kernel_rfl) rfl #[.agg #[.int .i64 a1_0, .int .i64 a1_1, .string a1_2], .agg #[.int .i64 a2_0, .int .i64 a2_1, .string a2_2]] rfl (by (try simp only [List.map_toArray, List.map_cons, List.map_nil]); first | done | rfl | (simp only [List.length_drop, List.length_take]; rfl)) ?_; (with_reducible refine (unisonref01_Order.calls a1_0 a1_1 a1_2 a2_0 a2_1 a2_2 t286 _ A46.out).mono ?_); rintro e w108 ⟨rfl, hb⟩; refine ⟨_, rfl, ?_⟩; have n0_ := Aside0.mk (blk_below (g := gb281) (o := .cells #[.int .i64 a1_0, .int .i64 a1_1, .string a1_2] 23 (0, 0)) (by (with_reducible repeat first | apply bN | apply bD | apply bA); exact BK281.out) hb); have n1_ := Aside0.mk (blk_below (g := gb282) (o := .cells #[.int .i64 a2_0, .int .i64 a2_1, .string a2_2] 23 (0, 0)) (by (with_reducible repeat first | apply bN | apply bD | apply bA); exact BK282.out) hb); have n2_ := Aside0.mk (blk_below (g := gb283) (o := .cells #[.int .i64 0, .int .i64 0, .string (⟨#[]⟩ : ByteArray)] 23 (0, 0)) (by (with_reducible repeat first | apply bN | apply bD | apply bA); exact BK283.out) hb); have n3_ := Aside0.mk (below_step (by repeat (first | (with_reducible first | exact HB.out | apply pA | apply pN | apply pD | refine pS ?_ GE281.out | refine pS ?_ GE282.out | refine pS ?_ GE283.out) | exact HB.out)) hb); clear BK281; clear BK282; clear BK283; clear HB; have BK281 := n0_; have BK282 := n1_; have BK283 := n2_; have HB := n3_; clear n0_ n1_ n2_ n3_; (try clear hb); (try clear hb2); (try clear hk); (try clear hi)) | ((with_reducible refine gate_callee (f := 43) rfl ?_); refine goesL_ (some 72) rfl rfl Tryd.func43 (by kernel_rfl) rfl #[.bool (t286 == 0)] rfl (by (try simp only [List.map_toArray, List.map_cons, List.map_nil]); first | done | rfl | (simp only [List.length_drop, List.length_take]; rfl)) ?_; (with_reducible refine (unisonref01_Bool.calls (t286 == 0) t302 t303 t304 _ A102.out).mono ?_); rintro e w109 ⟨rfl, hb⟩; refine ⟨_, rfl, ?_⟩; have n0_ := Aside0.mk (blk_below (g := gb281) (o := .cells #[.int .i64 a1_0, .int .i64 a1_1, .string a1_2] 23 (0, 0)) (by (with_reducible repeat first | apply bN | apply bD | apply bA); exact BK281.out) hb); have n1_ := Aside0.mk (blk_below (g := gb282) (o := .cells #[.int .i64 a2_0, .int .i64 a2_1, .string a2_2] 23 (0, 0)) (by (with_reducible repeat first | apply bN | apply bD | apply bA); exact BK282.out) hb); have n2_ := Aside0.mk (blk_below (g := gb283) (o := .cells #[.int .i64 0, .int .i64 0, .string (⟨#[]⟩ : ByteArray)] 23 (0, 0)) (by (with_reducible repeat first | apply bN | apply bD | apply bA); exact BK283.out) hb); have n3_ := Aside0.mk (below_step (by repeat (first | (with_reducible first | exact HB.out | apply pA | apply pN | apply pD | refine pS ?_ GE281.out | refine pS ?_ GE282.out | refine pS ?_ GE283.out) | exact HB.out)) hb); clear BK281; clear BK282; clear BK283; clear HB; have BK281 := n0_; have BK282 := n1_; have BK283 := n2_; have HB := n3_; clear n0_ n1_ n2_ n3_; (try clear hb); (try clear hb2); (try clear hk); (try clear hi); have hcz110_0 : w109.cell? ⟨gb283, 0, none⟩ = some (.int .i64 0) := (blk_cell BK283.out 0).trans rfl; have hcz110_1 : w109.cell? ⟨gb283, 1, none⟩ = some (.int .i64 0) := (blk_cell BK283.out 1).trans rfl; have hcz110_2 : w109.cell? ⟨gb283, 2, none⟩ = some (.string (⟨#[]⟩ : ByteArray)) := (blk_cell BK283.out 2).trans rfl; have hfz110_0 := blk_frozen BK283.out 0; have hfz110_1 := blk_frozen BK283.out 1; have hfz110_2 := blk_frozen BK283.out 2) | ((with_reducible refine gate_store (t := 23) (p := 6) rfl ?_); refine store_event (t := 23) (p := 6) (v := ?vo_w111) (w1 := (((w109.setCell ⟨gb283, 0, none⟩ (.int .i64 t302)).setCell ⟨gb283, 1, none⟩ (.int .i64 t303)).setCell ⟨gb283, 2, none⟩ (.string t304))) ?hg ?ho ?hn ?hr ?_; (case ho => rfl); (case hg => rfl); (case hn => rfl); (case hr => first | (go_simp; done) | (go_simp; rfl)); intro w111 hw; have n0_ : Aside0 (w111.heap[gb281]? = some (.cells #[.int .i64 a1_0, .int .i64 a1_1, .string a1_2] 23 (0, 0))) := ⟨(by rw [hw]; exact (by (with_reducible repeat first | apply bN | apply bD | apply bA); refine bF ?_ NB281_283.out _; (with_reducible repeat first | apply bN | apply bD | apply bA); refine bF ?_ NB281_283.out _; (with_reducible repeat first | apply bN | apply bD | apply bA); refine bF ?_ NB281_283.out _; (with_reducible repeat first | apply bN | apply bD | apply bA); exact BK281.out))⟩; have n1_ : Aside0 (w111.heap[gb282]? = some (.cells #[.int .i64 a2_0, .int .i64 a2_1, .string a2_2] 23 (0, 0))) := ⟨(by rw [hw]; exact (by (with_reducible repeat first | apply bN | apply bD | apply bA); refine bF ?_ NB282_283.out _; (with_reducible repeat first | apply bN | apply bD | apply bA); refine bF ?_ NB282_283.out _; (with_reducible repeat first | apply bN | apply bD | apply bA); refine bF ?_ NB282_283.out _; (with_reducible repeat first | apply bN | apply bD | apply bA); exact BK282.out))⟩; have n2_ : Aside0 (w111.heap[gb283]? = some (.cells #[.int .i64 t302, .int .i64 t303, .string t304] 23 (0, 0))) := ⟨(by rw [hw]; exact (by (with_reducible repeat first | apply bN | apply bD | apply bA); refine blk_put (cs := #[.int .i64 t302, .int .i64 t303, .string (⟨#[]⟩ : ByteArray)]) ?_ 2 _ rfl; (with_reducible repeat first | apply bN | apply bD | apply bA); refine blk_put (cs := #[.int .i64 t302, .int .i64 0, .string (⟨#[]⟩ : ByteArray)]) ?_ 1 _ rfl; (with_reducible repeat first | apply bN | apply bD | apply bA); refine blk_put (cs := #[.int .i64 0, .int .i64 0, .string (⟨#[]⟩ : ByteArray)]) ?_ 0 _ rfl; (with_reducible repeat first | apply bN | apply bD | apply bA); exact BK283.out))⟩; have n3_ : Aside0 (Below w.heap.size w w111) := ⟨(by rw [hw]; exact (by repeat (first | (with_reducible first | exact HB.out | apply pA | apply pN | apply pD | refine pS ?_ GE281.out | refine pS ?_ GE282.out | refine pS ?_ GE283.out) | exact HB.out)))⟩; clear hw; clear BK281; clear BK282; clear BK283; clear HB; have BK281 := n0_; have BK282 := n1_; have BK283 := n2_; have HB := n3_; clear n0_ n1_ n2_ n3_))
                refine bodyPost_ret (results_ct rfl _ _ gb283 23 #[.int .i64 t302, .int .i64 t303, .string t304] (0, 0) _ rfl (by (with_reducible repeat first | apply bN | apply bD | apply bA); exact BK283.out) Tryd.underlying23 rfl (by kernel_rfl)) rfl ?_
                exact ⟨by first | (simp only [ByteArray.size_extract, Nat.min_self]; rfl) | rfl | (simp [errW_none, errW_some] <;> rfl) | (simp [*, errW_none, errW_some] <;> rfl), by repeat (first | (with_reducible first | exact HB.out | apply pA | apply pN | apply pD | refine pS ?_ GE281.out | refine pS ?_ GE282.out | refine pS ?_ GE283.out) | exact HB.out)⟩
          ·
           rw [if_neg c45] at H
           have c45b0 : (a1_0 == a2_0) = false := beq_eq_false_iff_ne.mpr c45
           have c45b1 : (a1_0 != a2_0) = true := bne_iff_ne.mpr c45
           simp only [Option.some.injEq, Prod.mk.injEq] at H
           obtain ⟨rfl, rfl, rfl, rfl⟩ := H
           have hnb112 := NB281_282.out
           have hnc112 := NB282_281.out
           have hnb113 := NB281_283.out
           have hnc113 := NB283_281.out
           have hcz114_0 : wc.cell? ⟨gb281, 0, none⟩ = some (.int .i64 a1_0) := (blk_cell BK281.out 0).trans rfl
           have hcz114_1 : wc.cell? ⟨gb281, 1, none⟩ = some (.int .i64 a1_1) := (blk_cell BK281.out 1).trans rfl
           have hcz114_2 : wc.cell? ⟨gb281, 2, none⟩ = some (.string a1_2) := (blk_cell BK281.out 2).trans rfl
           have hfz114_0 := blk_frozen BK281.out 0
           have hfz114_1 := blk_frozen BK281.out 1
           have hfz114_2 := blk_frozen BK281.out 2
           have hnb115 := NB282_283.out
           have hnc115 := NB283_282.out
           have hcz116_0 : wc.cell? ⟨gb282, 0, none⟩ = some (.int .i64 a2_0) := (blk_cell BK282.out 0).trans rfl
           have hcz116_1 : wc.cell? ⟨gb282, 1, none⟩ = some (.int .i64 a2_1) := (blk_cell BK282.out 1).trans rfl
           have hcz116_2 : wc.cell? ⟨gb282, 2, none⟩ = some (.string a2_2) := (blk_cell BK282.out 2).trans rfl
           have hfz116_0 := blk_frozen BK282.out 0
           have hfz116_1 := blk_frozen BK282.out 1
           have hfz116_2 := blk_frozen BK282.out 2
           have hcz117_0 : wc.cell? ⟨gb283, 0, none⟩ = some (.int .i64 0) := (blk_cell BK283.out 0).trans rfl
           have hcz117_1 : wc.cell? ⟨gb283, 1, none⟩ = some (.int .i64 0) := (blk_cell BK283.out 1).trans rfl
           have hcz117_2 : wc.cell? ⟨gb283, 2, none⟩ = some (.string (⟨#[]⟩ : ByteArray)) := (blk_cell BK283.out 2).trans rfl
           have hfz117_0 := blk_frozen BK283.out 0
           have hfz117_1 := blk_frozen BK283.out 1
           have hfz117_2 := blk_frozen BK283.out 2
           go_wp2_with (first | ((with_reducible refine gate_store (t := 23) (p := 6) rfl ?_); refine store_event (t := 23) (p := 6) (v := ?vo_w118) (w1 := (((wc.setCell ⟨gb283, 0, none⟩ (.int .i64 0)).setCell ⟨gb283, 1, none⟩ (.int .i64 0)).setCell ⟨gb283, 2, none⟩ (.string (⟨#[]⟩ : ByteArray)))) ?hg ?ho ?hn ?hr ?_; (case ho => rfl); (case hg => rfl); (case hn => rfl); (case hr => first | (go_simp; done) | (go_simp; rfl)); intro w118 hw; have n0_ : Aside0 (w118.heap[gb281]? = some (.cells #[.int .i64 a1_0, .int .i64 a1_1, .string a1_2] 23 (0, 0))) := ⟨(by rw [hw]; exact (by (with_reducible repeat first | apply bN | apply bD | apply bA); refine bF ?_ NB281_283.out _; (with_reducible repeat first | apply bN | apply bD | apply bA); refine bF ?_ NB281_283.out _; (with_reducible repeat first | apply bN | apply bD | apply bA); refine bF ?_ NB281_283.out _; (with_reducible repeat first | apply bN | apply bD | apply bA); exact BK281.out))⟩; have n1_ : Aside0 (w118.heap[gb282]? = some (.cells #[.int .i64 a2_0, .int .i64 a2_1, .string a2_2] 23 (0, 0))) := ⟨(by rw [hw]; exact (by (with_reducible repeat first | apply bN | apply bD | apply bA); refine bF ?_ NB282_283.out _; (with_reducible repeat first | apply bN | apply bD | apply bA); refine bF ?_ NB282_283.out _; (with_reducible repeat first | apply bN | apply bD | apply bA); refine bF ?_ NB282_283.out _; (with_reducible repeat first | apply bN | apply bD | apply bA); exact BK282.out))⟩; have n2_ : Aside0 (w118.heap[gb283]? = some (.cells #[.int .i64 0, .int .i64 0, .string (⟨#[]⟩ : ByteArray)] 23 (0, 0))) := ⟨(by rw [hw]; exact (by (with_reducible repeat first | apply bN | apply bD | apply bA); refine blk_put (cs := #[.int .i64 0, .int .i64 0, .string (⟨#[]⟩ : ByteArray)]) ?_ 2 _ rfl; (with_reducible repeat first | apply bN | apply bD | apply bA); refine blk_put (cs := #[.int .i64 0, .int .i64 0, .string (⟨#[]⟩ : ByteArray)]) ?_ 1 _ rfl; (with_reducible repeat first | apply bN | apply bD | apply bA); refine blk_put (cs := #[.int .i64 0, .int .i64 0, .string (⟨#[]⟩ : ByteArray)]) ?_ 0 _ rfl; (with_reducible repeat first | apply bN | apply bD | apply bA); exact BK283.out))⟩; have n3_ : Aside0 (Below w.heap.size w w118) := ⟨(by rw [hw]; exact (by repeat (first | (with_reducible first | exact HB.out | apply pA | apply pN | apply pD | refine pS ?_ GE281.out | refine pS ?_ GE282.out | refine pS ?_ GE283.out) | exact HB.out)))⟩; clear hw; clear BK281; clear BK282; clear BK283; clear HB; have BK281 := n0_; have BK282 := n1_; have BK283 := n2_; have HB := n3_; clear n0_ n1_ n2_ n3_))
           refine bodyPost_ret (results_ct rfl _ _ gb283 23 #[.int .i64 0, .int .i64 0, .string (⟨#[]⟩ : ByteArray)] (0, 0) _ rfl (by (with_reducible repeat first | apply bN | apply bD | apply bA); exact BK283.out) Tryd.underlying23 rfl (by kernel_rfl)) rfl ?_
           exact ⟨by first | (simp only [ByteArray.size_extract, Nat.min_self]; rfl) | rfl | (simp [errW_none, errW_some] <;> rfl) | (simp [*, errW_none, errW_some] <;> rfl), by repeat (first | (with_reducible first | exact HB.out | apply pA | apply pN | apply pD | refine pS ?_ GE281.out | refine pS ?_ GE282.out | refine pS ?_ GE283.out) | exact HB.out)⟩

end Go.Proofs.YteehcopkljiikaaDoor.PA
