-- Laid by a program of ours (wip/gen/xprint.py). Not trusted: Lean checks it.
import Derived.Test.YteehcopkljiikaaDoorPAx0
import Derived.Test.YteehcopkljiikaaDoorPFRFits
import Derived.Test.YteehcopkljiikaaDoorPFRRefused
import Derived.Test.YteehcopkljiikaaDoorPFRTimes
namespace Go.Proofs.YteehcopkljiikaaDoor.PA
open Go.RowKit Go.Proofs.YteehcopkljiikaaDoorW.PrintWords Go.Proofs.YteehcopkljiikaaDoorW.PrintLast Go.Proofs.YteehcopkljiikaaDoorW.PrintMore Go.Proofs.YteehcopkljiikaaDoorX
attribute [local go_sem] max2_int min2_int max_two min_two max_three min_three max_four min_four   -- for this text's walks alone
set_option linter.unusedVariables false
set_option linter.unusedSimpArgs false

/-! ### unisonref01_Arith: function 25 -/
mutual
def unisonref01_Arith.j0 : Nat → Int → Bool → Int → Int → ByteArray → Int → Int → ByteArray → Option (Int × Int × ByteArray × Int)
 | 0, _, _, _, _, _, _, _, _ => none
 | k + 1, x0, x16, x472000, x472001, x472002, x473000, x473001, x473002 => if x16 = true then (some (0, 0, (⟨#[]⟩ : ByteArray), 1)) else ((unisonref01_refused.f k 1 (([(⟨x472000, x472001, x472002⟩ : S23), (⟨x473000, x473001, x473002⟩ : S23)] : List (S23)))).bind fun t477 => (if t477 = 0 then (if x472000 = 0 then (unisonref01_Arith.j1 k x0 t477 true x472000 x472001 x472002 x473000 x473001 x473002) else (unisonref01_Arith.j1 k x0 t477 (x473000 == 0) x472000 x472001 x472002 x473000 x473001 x473002)) else (unisonref01_Arith.j1 k x0 t477 true x472000 x472001 x472002 x473000 x473001 x473002)))
def unisonref01_Arith.j1 : Nat → Int → Int → Bool → Int → Int → ByteArray → Int → Int → ByteArray → Option (Int × Int × ByteArray × Int)
 | 0, _, _, _, _, _, _, _, _, _ => none
 | k + 1, x0, x8, x33, x472000, x472001, x472002, x473000, x473001, x473002 => if x33 = true then (some (0, 0, (⟨#[]⟩ : ByteArray), x8)) else (if x0 = 1 then ((unisonref01_fits.f (wrap64 (x472001 + x473001))).bind fun bt478 => (some (bt478.1, bt478.2.1, bt478.2.2.1, bt478.2.2.2))) else (if x0 = 2 then ((unisonref01_fits.f (wrap64 (x472001 - x473001))).bind fun bt482 => (some (bt482.1, bt482.2.1, bt482.2.2.1, bt482.2.2.2))) else (if x0 = 3 then ((unisonref01_times.f k x472001 x473001).bind fun bt486 => (if bt486.2 = true then ((unisonref01_fits.f bt486.1).bind fun bt488 => (some (bt488.1, bt488.2.1, bt488.2.2.1, bt488.2.2.2))) else (some (0, 0, (⟨#[]⟩ : ByteArray), 12)))) else (if x473001 = 0 then (some (0, 0, (⟨#[]⟩ : ByteArray), 13)) else (if x0 = 4 then ((unisonref01_fits.f (wrap64 (Int.tdiv x472001 x473001))).bind fun bt492 => (some (bt492.1, bt492.2.1, bt492.2.2.1, bt492.2.2.2))) else ((unisonref01_fits.f (Int.tmod x472001 x473001)).bind fun bt496 => (some (bt496.1, bt496.2.1, bt496.2.2.1, bt496.2.2.2))))))))
end
def unisonref01_Arith.f (k : Nat) (a0 : Int) (a1_0 : Int) (a1_1 : Int) (a1_2 : ByteArray) (a2_0 : Int) (a2_1 : Int) (a2_2 : ByteArray) : Option (Int × Int × ByteArray × Int) := if a0 < 1 then (unisonref01_Arith.j0 k a0 true a1_0 a1_1 a1_2 a2_0 a2_1 a2_2) else (unisonref01_Arith.j0 k a0 (decide (a0 > 5)) a1_0 a1_1 a1_2 a2_0 a2_1 a2_2)
theorem unisonref01_Arith.mono_l : ∀ k, (∀ y0 y1 y2 y3 y4 y5 y6 y7, LeO (unisonref01_Arith.j0 k y0 y1 y2 y3 y4 y5 y6 y7) (unisonref01_Arith.j0 (k + 1) y0 y1 y2 y3 y4 y5 y6 y7)) ∧ (∀ y0 y1 y2 y3 y4 y5 y6 y7 y8, LeO (unisonref01_Arith.j1 k y0 y1 y2 y3 y4 y5 y6 y7 y8) (unisonref01_Arith.j1 (k + 1) y0 y1 y2 y3 y4 y5 y6 y7 y8))
 | 0 => ⟨fun _ _ _ _ _ _ _ _ r h => by simp [unisonref01_Arith.j0] at h, fun _ _ _ _ _ _ _ _ _ r h => by simp [unisonref01_Arith.j1] at h⟩
 | k + 1 => by
  obtain ⟨ih0, ih1⟩ := unisonref01_Arith.mono_l k
  refine ⟨?_, ?_⟩
  ·
   intro y0 y1 y2 y3 y4 y5 y6 y7
   unfold unisonref01_Arith.j0
   repeat' first
   | (with_reducible exact ih0 _ _ _ _ _ _ _ _)
   | (with_reducible exact ih1 _ _ _ _ _ _ _ _ _)
   | (with_reducible exact unisonref01_refused.mono _ _ _)
   | (with_reducible exact unisonref01_times.mono _ _ _)
   | (with_reducible exact LeO.refl _)
   | (with_reducible exact LeO.none _)
   | (with_reducible refine LeO.ite ?_ ?_)
   | (with_reducible refine LeO.bind ?_ (fun _ => ?_))
   | exact ih0 _ _ _ _ _ _ _ _
   | exact ih1 _ _ _ _ _ _ _ _ _
   | exact unisonref01_refused.mono _ _ _
   | exact unisonref01_times.mono _ _ _
   | exact LeO.none _
   | refine LeO.ite ?_ ?_
   | refine LeO.bind ?_ (fun _ => ?_)
  ·
   intro y0 y1 y2 y3 y4 y5 y6 y7 y8
   unfold unisonref01_Arith.j1
   repeat' first
   | (with_reducible exact ih0 _ _ _ _ _ _ _ _)
   | (with_reducible exact ih1 _ _ _ _ _ _ _ _ _)
   | (with_reducible exact unisonref01_refused.mono _ _ _)
   | (with_reducible exact unisonref01_times.mono _ _ _)
   | (with_reducible exact LeO.refl _)
   | (with_reducible exact LeO.none _)
   | (with_reducible refine LeO.ite ?_ ?_)
   | (with_reducible refine LeO.bind ?_ (fun _ => ?_))
   | exact ih0 _ _ _ _ _ _ _ _
   | exact ih1 _ _ _ _ _ _ _ _ _
   | exact unisonref01_refused.mono _ _ _
   | exact unisonref01_times.mono _ _ _
   | exact LeO.none _
   | refine LeO.ite ?_ ?_
   | refine LeO.bind ?_ (fun _ => ?_)
theorem unisonref01_Arith.mono : ∀ a0 a1 a2 a3 a4 a5 a6 k, LeO (unisonref01_Arith.f k a0 a1 a2 a3 a4 a5 a6) (unisonref01_Arith.f (k + 1) a0 a1 a2 a3 a4 a5 a6) := by
 intro a0 a1 a2 a3 a4 a5 a6 k
 obtain ⟨ih0, ih1⟩ := unisonref01_Arith.mono_l k
 unfold unisonref01_Arith.f
 repeat' first
   | (with_reducible exact ih0 _ _ _ _ _ _ _ _)
   | (with_reducible exact ih1 _ _ _ _ _ _ _ _ _)
   | (with_reducible exact unisonref01_refused.mono _ _ _)
   | (with_reducible exact unisonref01_times.mono _ _ _)
   | (with_reducible exact LeO.refl _)
   | (with_reducible exact LeO.none _)
   | (with_reducible refine LeO.ite ?_ ?_)
   | (with_reducible refine LeO.bind ?_ (fun _ => ?_))
   | exact ih0 _ _ _ _ _ _ _ _
   | exact ih1 _ _ _ _ _ _ _ _ _
   | exact unisonref01_refused.mono _ _ _
   | exact unisonref01_times.mono _ _ _
   | exact LeO.none _
   | refine LeO.ite ?_ ?_
   | refine LeO.bind ?_ (fun _ => ?_)
set_option maxHeartbeats 8000000 in
set_option maxRecDepth 100000 in
theorem unisonref01_Arith.calls (k : Nat) (a0 : Int) (a1_0 : Int) (a1_1 : Int) (a1_2 : ByteArray) (a2_0 : Int) (a2_1 : Int) (a2_2 : ByteArray) (r1 : Int) (r2 : Int) (r3 : ByteArray) (r4 : Int) (w : World) (h : unisonref01_Arith.f k a0 a1_0 a1_1 a1_2 a2_0 a2_1 a2_2 = some (r1, r2, r3, r4)) :
  Calls Tryd.prog 25 #[.int .i64 a0, .agg #[.int .i64 a1_0, .int .i64 a1_1, .string a1_2], .agg #[.int .i64 a2_0, .int .i64 a2_1, .string a2_2]] w fun e w' => e = .returned (.tuple #[.agg #[.int .i64 r1, .int .i64 r2, .string r3], .int .i64 r4]) ∧ Below w.heap.size w w' := by
 have hu23 := Tryd.underlying23; have HB := Aside0.mk (Below.refl w.heap.size w); have H : (if a0 < 1 then (unisonref01_Arith.j0 k a0 true a1_0 a1_1 a1_2 a2_0 a2_1 a2_2) else (unisonref01_Arith.j0 k a0 (decide (a0 > 5)) a1_0 a1_1 a1_2 a2_0 a2_1 a2_2)) = some (r1, r2, r3, r4) := h; clear h; have HC4 := Aside0.mk H; clear H
 go_enter Tryd.func25, Tryd.ntmps25
 go_upto_region 1 with (first | ((with_reducible refine gate_dst (N := 4) rfl ?_); refine box_event ?hg (N := 4) ?hd (cs := #[.int .i64 a1_0, .int .i64 a1_1, .string a1_2]) (t := 23) ?hr ?_; (case hd => rfl); (case hg => rfl); (case hr => first | (go_simp; done) | (go_simp; rfl)); intro gb471 hg w5 hbox hb; have BK471 := Aside0.mk (hbox); have GW471 := bz hg; have GE471 := bz hg; replace HB := bs hb; clear hb hbox hg) | ((with_reducible refine gate_dst (N := 5) rfl ?_); refine box_event ?hg (N := 5) ?hd (cs := #[.int .i64 a2_0, .int .i64 a2_1, .string a2_2]) (t := 23) ?hr ?_; (case hd => rfl); (case hg => rfl); (case hr => first | (go_simp; done) | (go_simp; rfl)); intro gb472 hg w6 hbox hb; have BK472 := Aside0.mk (hbox); have GW472 := bz hg; have GE472 := bz hg; have NB471_472 := bl BK471 hg; have NB472_471 := bg BK471 hg; replace BK471 := bb BK471 hb; replace HB := bs hb; clear hb hbox hg) | ((with_reducible refine gate_dst (N := 6) rfl ?_); refine box_event ?hg (N := 6) ?hd (cs := #[.int .i64 0, .int .i64 0, .string (⟨#[]⟩ : ByteArray)]) (t := 23) ?hr ?_; (case hd => rfl); (case hg => rfl); (case hr => first | (go_simp; done) | (go_simp; rfl)); intro gb473 hg w7 hbox hb; have BK473 := Aside0.mk (hbox); have GW473 := bz hg; have GE473 := bz hg; have NB471_473 := bl BK471 hg; have NB473_471 := bg BK471 hg; have NB472_473 := bl BK472 hg; have NB473_472 := bg BK472 hg; replace BK471 := bb BK471 hb; replace BK472 := bb BK472 hb; replace HB := bs hb; clear hb hbox hg))
 (try simp only [Act.put, List.setIfInBounds_toArray, List.set_cons_zero, List.set_cons_succ])
 go_cut [16] (fun v16 wc => ∃ (kq : Nat) (x16_3 : Bool), v16 = .bool x16_3 ∧ Aside0 (unisonref01_Arith.j0 kq a0 x16_3 a1_0 a1_1 a1_2 a2_0 a2_1 a2_2 = some (r1, r2, r3, r4)) ∧ Aside0 (kq ≤ k) ∧ Aside0 (wc.heap[gb471]? = some (.cells #[.int .i64 a1_0, .int .i64 a1_1, .string a1_2] 23 (0, 0))) ∧ Aside0 (wc.heap[gb472]? = some (.cells #[.int .i64 a2_0, .int .i64 a2_1, .string a2_2] 23 (0, 0))) ∧ Aside0 (wc.heap[gb473]? = some (.cells #[.int .i64 0, .int .i64 0, .string (⟨#[]⟩ : ByteArray)] 23 (0, 0))) ∧ Aside0 (Below w.heap.size w wc))
 case first =>
  have H := HC4.out; clear HC4
  by_cases c8 : a0 < 1
  ·
   rw [if_pos c8] at H
   have c8b0 : decide (a0 < 1) = true := decide_eq_true c8; clear c8
   (first | rw [c8b0] | (simp only [i64_w, i32_w, u8_w, u32_w]; rw [c8b0]) | rw [c8b1] | skip)
   have H' := Aside0.mk H
   clear H
   go_wp2
   go_meet
   case rel => exact ⟨_, (true), (by first | rfl | (simp; done) | (simp [*]; done)), H', ⟨by first | omega | exact Nat.le_refl _⟩, ⟨by (with_reducible repeat (first | refine blk_drewN ?_ _ | refine blk_drew ?_ | refine blk_alloc ?_ _)); exact BK471.out⟩, ⟨by (with_reducible repeat (first | refine blk_drewN ?_ _ | refine blk_drew ?_ | refine blk_alloc ?_ _)); exact BK472.out⟩, ⟨by (with_reducible repeat (first | refine blk_drewN ?_ _ | refine blk_drew ?_ | refine blk_alloc ?_ _)); exact BK473.out⟩, ⟨by repeat (first | (with_reducible first | exact HB.out | apply below_alloc | apply pw_below_drewN | apply below_drew1 | refine below_set ?_ GE471.out | refine below_set ?_ GE472.out | refine below_set ?_ GE473.out) | exact HB.out)⟩⟩
  ·
   rw [if_neg c8] at H
   have c8b0 : decide (a0 < 1) = false := decide_eq_false c8; clear c8
   (first | rw [c8b0] | (simp only [i64_w, i32_w, u8_w, u32_w]; rw [c8b0]) | rw [c8b1] | skip)
   have H' := Aside0.mk H
   clear H
   go_wp2
   go_meet
   case rel => exact ⟨_, (decide (a0 > 5)), (by first | rfl | (simp; done) | (simp [*]; done)), H', ⟨by first | omega | exact Nat.le_refl _⟩, ⟨by (with_reducible repeat (first | refine blk_drewN ?_ _ | refine blk_drew ?_ | refine blk_alloc ?_ _)); exact BK471.out⟩, ⟨by (with_reducible repeat (first | refine blk_drewN ?_ _ | refine blk_drew ?_ | refine blk_alloc ?_ _)); exact BK472.out⟩, ⟨by (with_reducible repeat (first | refine blk_drewN ?_ _ | refine blk_drew ?_ | refine blk_alloc ?_ _)); exact BK473.out⟩, ⟨by repeat (first | (with_reducible first | exact HB.out | apply below_alloc | apply pw_below_drewN | apply below_drew1 | refine below_set ?_ GE471.out | refine below_set ?_ GE472.out | refine below_set ?_ GE473.out) | exact HB.out)⟩⟩
 case rest =>
  clear HC4; (try clear c2); (try clear p2); (try clear c8); (try clear c8b0); (try clear c8b1)
  obtain ⟨kq, x16_3, rfl, HA, HJ3, BK471, BK472, BK473, HB⟩ := hcut
  cases kq with
  | zero => exact absurd HA.out (by simp [unisonref01_Arith.j0])
  | succ kj3 =>
   have H := HA.out; clear HA
   simp only [unisonref01_Arith.j0] at H
   by_cases c9 : x16_3 = true
   ·
    subst c9
    have H1 : (some (0, 0, (⟨#[]⟩ : ByteArray), 1)) = some (r1, r2, r3, r4) := by (first | rw [if_pos rfl] at H | rw [if_pos True.intro] at H | skip); exact H
    clear H; have H := H1; clear H1
    simp only [Option.some.injEq, Prod.mk.injEq] at H
    obtain ⟨rfl, rfl, rfl, rfl⟩ := H
    have hnb10 := NB473_471.out; have hnc10 := NB471_473.out; have hnb11 := NB473_472.out; have hnc11 := NB472_473.out; have hcz12_0 : wc.cell? ⟨gb473, 0, none⟩ = some (.int .i64 0) := (blk_cell BK473.out 0).trans rfl; have hcz12_1 : wc.cell? ⟨gb473, 1, none⟩ = some (.int .i64 0) := (blk_cell BK473.out 1).trans rfl; have hcz12_2 : wc.cell? ⟨gb473, 2, none⟩ = some (.string (⟨#[]⟩ : ByteArray)) := (blk_cell BK473.out 2).trans rfl; have hfz12_0 := blk_frozen BK473.out 0; have hfz12_1 := blk_frozen BK473.out 1; have hfz12_2 := blk_frozen BK473.out 2
    go_wp2_with (first | ((with_reducible refine gate_store (t := 23) (p := 6) rfl ?_); refine store_event (t := 23) (p := 6) (v := ?vo_w13) (w1 := (((wc.setCell ⟨gb473, 0, none⟩ (.int .i64 0)).setCell ⟨gb473, 1, none⟩ (.int .i64 0)).setCell ⟨gb473, 2, none⟩ (.string (⟨#[]⟩ : ByteArray)))) ?hg ?ho ?hn ?hr ?_; (case ho => rfl); (case hg => rfl); (case hn => rfl); (case hr => first | (go_simp; done) | (go_simp; rfl)); intro w13 hw; replace BK471 := bw BK471 hw; replace BK472 := bw BK472 hw; replace BK473 : Aside0 (w13.heap[gb473]? = some (.cells #[.int .i64 0, .int .i64 0, .string (⟨#[]⟩ : ByteArray)] 23 (0, 0))) := bp BK473 hw; replace HB := bv hw; clear hw))
    refine bodyPost_ret (results_ct rfl _ _ gb473 23 #[.int .i64 0, .int .i64 0, .string (⟨#[]⟩ : ByteArray)] (0, 0) _ rfl (by (with_reducible repeat (first | refine blk_drewN ?_ _ | refine blk_drew ?_ | refine blk_alloc ?_ _)); exact BK473.out) Tryd.underlying23 rfl (by kernel_rfl)) rfl ?_
    exact ⟨by first | (simp only [ByteArray.size_extract, Nat.min_self]; rfl) | rfl | (simp [errW_none, errW_some] <;> rfl) | (simp [*, errW_none, errW_some] <;> rfl), by repeat (first | (with_reducible first | exact HB.out | apply below_alloc | apply pw_below_drewN | apply below_drew1 | refine below_set ?_ GE471.out | refine below_set ?_ GE472.out | refine below_set ?_ GE473.out) | exact HB.out)⟩
   ·
    replace c9 := Bool.eq_false_iff.mpr c9
    subst c9
    have H1 : ((unisonref01_refused.f kj3 1 (([(⟨a1_0, a1_1, a1_2⟩ : S23), (⟨a2_0, a2_1, a2_2⟩ : S23)] : List (S23)))).bind fun t477 => (if t477 = 0 then (if a1_0 = 0 then (unisonref01_Arith.j1 kj3 a0 t477 true a1_0 a1_1 a1_2 a2_0 a2_1 a2_2) else (unisonref01_Arith.j1 kj3 a0 t477 (a2_0 == 0) a1_0 a1_1 a1_2 a2_0 a2_1 a2_2)) else (unisonref01_Arith.j1 kj3 a0 t477 true a1_0 a1_1 a1_2 a2_0 a2_1 a2_2))) = some (r1, r2, r3, r4) := by rw [if_neg (show ¬ (false = true) by decide)] at H; exact H
    clear H; have H := H1; clear H1
    obtain ⟨y474, hy474⟩ : ∃ y_ : List (S23), y_ = (([(⟨a1_0, a1_1, a1_2⟩ : S23), (⟨a2_0, a2_1, a2_2⟩ : S23)] : List (S23))) := ⟨_, rfl⟩
    replace H : ((unisonref01_refused.f kj3 1 y474).bind fun t477 => (if t477 = 0 then (if a1_0 = 0 then (unisonref01_Arith.j1 kj3 a0 t477 true a1_0 a1_1 a1_2 a2_0 a2_1 a2_2) else (unisonref01_Arith.j1 kj3 a0 t477 (a2_0 == 0) a1_0 a1_1 a1_2 a2_0 a2_1 a2_2)) else (unisonref01_Arith.j1 kj3 a0 t477 true a1_0 a1_1 a1_2 a2_0 a2_1 a2_2))) = some (r1, r2, r3, r4) := by first | (rw [hy474]; with_reducible exact H) | (have H2_ := (Option.bind_some _ _).symm.trans H; rw [hy474]; with_reducible exact H2_) | (have H2_ := (Option.bind_some _ _).symm.trans H; with_reducible exact H2_) | with_reducible exact H | (rw [hy474]; exact H) | exact H
    have Ny474 := Aside0.mk hy474; clear hy474; replace H := Option.bind_eq_some_iff.mp H
    obtain ⟨t477, A140, H⟩ := H
    replace H : (if t477 = 0 then (if a1_0 = 0 then (unisonref01_Arith.j1 kj3 a0 t477 true a1_0 a1_1 a1_2 a2_0 a2_1 a2_2) else (unisonref01_Arith.j1 kj3 a0 t477 (a2_0 == 0) a1_0 a1_1 a1_2 a2_0 a2_1 a2_2)) else (unisonref01_Arith.j1 kj3 a0 t477 true a1_0 a1_1 a1_2 a2_0 a2_1 a2_2)) = some (r1, r2, r3, r4) := H; have A14 := Aside0.mk A140; clear A140; have HC15 := Aside0.mk H; clear H; have hnb16 := NB471_472.out; have hnc16 := NB472_471.out; have hnb17 := NB471_473.out; have hnc17 := NB473_471.out; have hcz18_0 : wc.cell? ⟨gb471, 0, none⟩ = some (.int .i64 a1_0) := (blk_cell BK471.out 0).trans rfl; have hcz18_1 : wc.cell? ⟨gb471, 1, none⟩ = some (.int .i64 a1_1) := (blk_cell BK471.out 1).trans rfl; have hcz18_2 : wc.cell? ⟨gb471, 2, none⟩ = some (.string a1_2) := (blk_cell BK471.out 2).trans rfl; have hfz18_0 := blk_frozen BK471.out 0; have hfz18_1 := blk_frozen BK471.out 1; have hfz18_2 := blk_frozen BK471.out 2; have hnb19 := NB472_473.out; have hnc19 := NB473_472.out; have hcz20_0 : wc.cell? ⟨gb472, 0, none⟩ = some (.int .i64 a2_0) := (blk_cell BK472.out 0).trans rfl; have hcz20_1 : wc.cell? ⟨gb472, 1, none⟩ = some (.int .i64 a2_1) := (blk_cell BK472.out 1).trans rfl; have hcz20_2 : wc.cell? ⟨gb472, 2, none⟩ = some (.string a2_2) := (blk_cell BK472.out 2).trans rfl; have hfz20_0 := blk_frozen BK472.out 0; have hfz20_1 := blk_frozen BK472.out 1; have hfz20_2 := blk_frozen BK472.out 2
    go_upto_region 4 with (first | ((with_reducible refine gate_dst (N := 20) rfl ?_); refine Kd.R_lit k23 _ 23 ?hg (N := 20) ?hd (xs := ([(⟨a1_0, a1_1, a1_2⟩ : S23), (⟨a2_0, a2_1, a2_2⟩ : S23)] : List (S23))) (inner := [.int .i64 a1_0, .int .i64 a1_1, .string a1_2, .int .i64 a2_0, .int .i64 a2_1, .string a2_2]) (ok := fun _ => True) (okp := fun _ => True) ?hr ?hp (fun _ hk => hk) trivial (Below.refl _ _) (Nat.le_refl _) (by simp) ?_; (case hd => rfl); (case hg => rfl); (case hr => first | (go_simp; done) | (go_simp; rfl)); (case hp => exact (Reps.c3 (show Kd.M k23 _ _ _ (⟨a1_0, a1_1, a1_2⟩ : S23) [.int .i64 a1_0, .int .i64 a1_1, .string a1_2] from (k23_mkM _ _ _ (⟨a1_0, a1_1, a1_2⟩ : S23) )) (Reps.c3 (show Kd.M k23 _ _ _ (⟨a2_0, a2_1, a2_2⟩ : S23) [.int .i64 a2_0, .int .i64 a2_1, .string a2_2] from (k23_mkM _ _ _ (⟨a2_0, a2_1, a2_2⟩ : S23) )) (Reps.none _ _)))); intro v475 w21 ho22 hb hg_ hnew_; clear hg_ hnew_; (first | rw [← Ny474.out] at ho22 | (simp only [Int.reduceToNat] at ho22; rw [← Ny474.out] at ho22)); have HO476 := Aside0.mk (Kd.R_lower (Kd.R_newB (Kd.R_newB (Kd.R_newB ho22 (g := gb471) (o := .cells #[.int .i64 a1_0, .int .i64 a1_1, .string a1_2] 23 (0, 0)) (by (with_reducible repeat (first | refine blk_drewN ?_ _ | refine blk_drew ?_ | refine blk_alloc ?_ _)); exact BK471.out)) (g := gb472) (o := .cells #[.int .i64 a2_0, .int .i64 a2_1, .string a2_2] 23 (0, 0)) (by (with_reducible repeat (first | refine blk_drewN ?_ _ | refine blk_drew ?_ | refine blk_alloc ?_ _)); exact BK472.out)) (g := gb473) (o := .cells #[.int .i64 0, .int .i64 0, .string (⟨#[]⟩ : ByteArray)] 23 (0, 0)) (by (with_reducible repeat (first | refine blk_drewN ?_ _ | refine blk_drew ?_ | refine blk_alloc ?_ _)); exact BK473.out)) (below_size bel)); replace BK471 := bb BK471 hb; replace BK472 := bb BK472 hb; replace BK473 := bb BK473 hb; replace HB := bs hb; clear hb ho22; obtain ⟨Ao23, co23, eo23⟩ := Kd.R_slice HO476.out; subst eo23) | ((with_reducible refine gate_callee (f := 46) rfl ?_); refine gL (some 21) Tryd.func46 #[.int .i64 1, .slice Ao23 y474.length co23] ?_; (with_reducible refine (unisonref01_refused.calls kj3 1 _ _ y474 t477 _ ?side1 ?side2 A14.out).mono ?_); (case side1 => repeat (first | exact (Kd.R_reads' HO476.out).2.2 | (with_reducible refine Kd.C_alloc ?_ _) | (with_reducible refine Kd.C_drewN ?_ _) | (with_reducible refine Kd.C_drew ?_))); (case side2 => exact (Kd.R_reads' HO476.out).2.1); rintro e w24 ⟨rfl, hb⟩; refine ⟨_, rfl, ?_⟩; replace HO476 := Aside0.mk (Kd.R_below (by (with_reducible repeat (first | apply Kd.R_alloc | apply Kd.R_drewN | apply Kd.R_drew)); exact HO476.out) hb); replace BK471 := bb BK471 hb; replace BK472 := bb BK472 hb; replace BK473 := bb BK473 hb; replace HB := bs hb; (try clear hb); (try clear hb2); (try clear hk); (try clear hi)))
    (try simp only [Act.put, List.setIfInBounds_toArray, List.set_cons_zero, List.set_cons_succ])
    go_cut [33] (fun v33 wc => ∃ (kq : Nat) (x33_14 : Bool), v33 = .bool x33_14 ∧ Aside0 (unisonref01_Arith.j1 kq a0 t477 x33_14 a1_0 a1_1 a1_2 a2_0 a2_1 a2_2 = some (r1, r2, r3, r4)) ∧ Aside0 (kq ≤ kj3) ∧ Aside0 (wc.heap[gb471]? = some (.cells #[.int .i64 a1_0, .int .i64 a1_1, .string a1_2] 23 (0, 0))) ∧ Aside0 (wc.heap[gb472]? = some (.cells #[.int .i64 a2_0, .int .i64 a2_1, .string a2_2] 23 (0, 0))) ∧ Aside0 (wc.heap[gb473]? = some (.cells #[.int .i64 0, .int .i64 0, .string (⟨#[]⟩ : ByteArray)] 23 (0, 0))) ∧ Aside0 (Below w.heap.size w wc))
    case first =>
     have H := HC15.out; clear HC15
     by_cases c25 : t477 = 0
     ·
      rw [if_pos c25] at H
      have c25b0 : (t477 == 0) = true := beq_iff_eq.mpr c25; have c25b1 : (t477 != 0) = false := bne_eq_false_iff_eq.mpr c25; clear c25
      (first | rw [c25b0] | (simp only [i64_w, i32_w, u8_w, u32_w]; rw [c25b0]) | rw [c25b1] | skip)
      by_cases c26 : a1_0 = 0
      ·
       rw [if_pos c26] at H
       have c26b0 : (a1_0 == 0) = true := beq_iff_eq.mpr c26; have c26b1 : (a1_0 != 0) = false := bne_eq_false_iff_eq.mpr c26; clear c26
       have H' := Aside0.mk H
       clear H; have hnb27 := NB471_472.out; have hnc27 := NB472_471.out; have hnb28 := NB471_473.out; have hnc28 := NB473_471.out; have hcz29_0 : w24.cell? ⟨gb471, 0, none⟩ = some (.int .i64 a1_0) := (blk_cell BK471.out 0).trans rfl; have hcz29_1 : w24.cell? ⟨gb471, 1, none⟩ = some (.int .i64 a1_1) := (blk_cell BK471.out 1).trans rfl; have hcz29_2 : w24.cell? ⟨gb471, 2, none⟩ = some (.string a1_2) := (blk_cell BK471.out 2).trans rfl; have hfz29_0 := blk_frozen BK471.out 0; have hfz29_1 := blk_frozen BK471.out 1; have hfz29_2 := blk_frozen BK471.out 2
       go_wp2
       go_meet
       case rel => exact ⟨_, (true), (by first | rfl | (simp; done) | (simp [*]; done)), H', ⟨by have := HJ3.out; first | omega | exact Nat.le_refl _⟩, ⟨by (with_reducible repeat (first | refine blk_drewN ?_ _ | refine blk_drew ?_ | refine blk_alloc ?_ _)); exact BK471.out⟩, ⟨by (with_reducible repeat (first | refine blk_drewN ?_ _ | refine blk_drew ?_ | refine blk_alloc ?_ _)); exact BK472.out⟩, ⟨by (with_reducible repeat (first | refine blk_drewN ?_ _ | refine blk_drew ?_ | refine blk_alloc ?_ _)); exact BK473.out⟩, ⟨by repeat (first | (with_reducible first | exact HB.out | apply below_alloc | apply pw_below_drewN | apply below_drew1 | refine below_set ?_ GE471.out | refine below_set ?_ GE472.out | refine below_set ?_ GE473.out) | exact HB.out)⟩⟩
      ·
       rw [if_neg c26] at H
       have c26b0 : (a1_0 == 0) = false := beq_eq_false_iff_ne.mpr c26; have c26b1 : (a1_0 != 0) = true := bne_iff_ne.mpr c26
       have H' := Aside0.mk H
       clear H; have hnb30 := NB471_472.out; have hnc30 := NB472_471.out; have hnb31 := NB471_473.out; have hnc31 := NB473_471.out; have hcz32_0 : w24.cell? ⟨gb471, 0, none⟩ = some (.int .i64 a1_0) := (blk_cell BK471.out 0).trans rfl; have hcz32_1 : w24.cell? ⟨gb471, 1, none⟩ = some (.int .i64 a1_1) := (blk_cell BK471.out 1).trans rfl; have hcz32_2 : w24.cell? ⟨gb471, 2, none⟩ = some (.string a1_2) := (blk_cell BK471.out 2).trans rfl; have hfz32_0 := blk_frozen BK471.out 0; have hfz32_1 := blk_frozen BK471.out 1; have hfz32_2 := blk_frozen BK471.out 2; have hnb33 := NB472_473.out; have hnc33 := NB473_472.out; have hcz34_0 : w24.cell? ⟨gb472, 0, none⟩ = some (.int .i64 a2_0) := (blk_cell BK472.out 0).trans rfl; have hcz34_1 : w24.cell? ⟨gb472, 1, none⟩ = some (.int .i64 a2_1) := (blk_cell BK472.out 1).trans rfl; have hcz34_2 : w24.cell? ⟨gb472, 2, none⟩ = some (.string a2_2) := (blk_cell BK472.out 2).trans rfl; have hfz34_0 := blk_frozen BK472.out 0; have hfz34_1 := blk_frozen BK472.out 1; have hfz34_2 := blk_frozen BK472.out 2
       go_wp2
       go_meet
       case rel => exact ⟨_, ((a2_0 == 0)), (by first | rfl | (simp; done) | (simp [*]; done)), H', ⟨by have := HJ3.out; first | omega | exact Nat.le_refl _⟩, ⟨by (with_reducible repeat (first | refine blk_drewN ?_ _ | refine blk_drew ?_ | refine blk_alloc ?_ _)); exact BK471.out⟩, ⟨by (with_reducible repeat (first | refine blk_drewN ?_ _ | refine blk_drew ?_ | refine blk_alloc ?_ _)); exact BK472.out⟩, ⟨by (with_reducible repeat (first | refine blk_drewN ?_ _ | refine blk_drew ?_ | refine blk_alloc ?_ _)); exact BK473.out⟩, ⟨by repeat (first | (with_reducible first | exact HB.out | apply below_alloc | apply pw_below_drewN | apply below_drew1 | refine below_set ?_ GE471.out | refine below_set ?_ GE472.out | refine below_set ?_ GE473.out) | exact HB.out)⟩⟩
     ·
      rw [if_neg c25] at H
      have c25b0 : (t477 == 0) = false := beq_eq_false_iff_ne.mpr c25; have c25b1 : (t477 != 0) = true := bne_iff_ne.mpr c25
      (first | rw [c25b0] | (simp only [i64_w, i32_w, u8_w, u32_w]; rw [c25b0]) | rw [c25b1] | skip)
      have H' := Aside0.mk H
      clear H
      go_wp2
      go_meet
      case rel => exact ⟨_, (true), (by first | rfl | (simp; done) | (simp [*]; done)), H', ⟨by have := HJ3.out; first | omega | exact Nat.le_refl _⟩, ⟨by (with_reducible repeat (first | refine blk_drewN ?_ _ | refine blk_drew ?_ | refine blk_alloc ?_ _)); exact BK471.out⟩, ⟨by (with_reducible repeat (first | refine blk_drewN ?_ _ | refine blk_drew ?_ | refine blk_alloc ?_ _)); exact BK472.out⟩, ⟨by (with_reducible repeat (first | refine blk_drewN ?_ _ | refine blk_drew ?_ | refine blk_alloc ?_ _)); exact BK473.out⟩, ⟨by repeat (first | (with_reducible first | exact HB.out | apply below_alloc | apply pw_below_drewN | apply below_drew1 | refine below_set ?_ GE471.out | refine below_set ?_ GE472.out | refine below_set ?_ GE473.out) | exact HB.out)⟩⟩
    case rest =>
     clear HC15; (try clear c1); (try clear c2); (try clear p2); (try clear c3); (try clear c4); (try clear c8); (try clear c8b0); (try clear c8b1); (try clear c9); (try clear c10); (try clear c11); (try clear c16); (try clear c17); (try clear c19); (try clear c25); (try clear c25b0); (try clear c25b1); (try clear c26); (try clear c26b0); (try clear c26b1); (try clear c27); (try clear c28); (try clear c30); (try clear c31); (try clear c33); (try clear hcz12_0); (try clear hcz12_1); (try clear hcz12_2); (try clear hcz18_0); (try clear hcz18_1); (try clear hcz18_2); (try clear hcz20_0); (try clear hcz20_1); (try clear hcz20_2); (try clear hcz29_0); (try clear hcz29_1); (try clear hcz29_2); (try clear hcz32_0); (try clear hcz32_1); (try clear hcz32_2); (try clear hcz34_0); (try clear hcz34_1); (try clear hcz34_2); (try clear hfz12_0); (try clear hfz12_1); (try clear hfz12_2); (try clear hfz18_0); (try clear hfz18_1); (try clear hfz18_2); (try clear hfz20_0); (try clear hfz20_1); (try clear hfz20_2); (try clear hfz29_0); (try clear hfz29_1); (try clear hfz29_2); (try clear hfz32_0); (try clear hfz32_1); (try clear hfz32_2); (try clear hfz34_0); (try clear hfz34_1); (try clear hfz34_2); (try clear p2)
     obtain ⟨kq, x33_14, rfl, HA, HJ14, BK471, BK472, BK473, HB⟩ := hcut
     cases kq with
     | zero => exact absurd HA.out (by simp [unisonref01_Arith.j1])
     | succ kj14 =>
      have H := HA.out; clear HA
      simp only [unisonref01_Arith.j1] at H
      by_cases c35 : x33_14 = true
      ·
       subst c35
       have H1 : (some (0, 0, (⟨#[]⟩ : ByteArray), t477)) = some (r1, r2, r3, r4) := by (first | rw [if_pos rfl] at H | rw [if_pos True.intro] at H | skip); exact H
       clear H; have H := H1; clear H1
       simp only [Option.some.injEq, Prod.mk.injEq] at H
       obtain ⟨rfl, rfl, rfl, rfl⟩ := H
       have hnb36 := NB473_471.out; have hnc36 := NB471_473.out; have hnb37 := NB473_472.out; have hnc37 := NB472_473.out; have hcz38_0 : wc.cell? ⟨gb473, 0, none⟩ = some (.int .i64 0) := (blk_cell BK473.out 0).trans rfl; have hcz38_1 : wc.cell? ⟨gb473, 1, none⟩ = some (.int .i64 0) := (blk_cell BK473.out 1).trans rfl; have hcz38_2 : wc.cell? ⟨gb473, 2, none⟩ = some (.string (⟨#[]⟩ : ByteArray)) := (blk_cell BK473.out 2).trans rfl; have hfz38_0 := blk_frozen BK473.out 0; have hfz38_1 := blk_frozen BK473.out 1; have hfz38_2 := blk_frozen BK473.out 2
       go_wp2_with (first | ((with_reducible refine gate_store (t := 23) (p := 6) rfl ?_); refine store_event (t := 23) (p := 6) (v := ?vo_w39) (w1 := (((wc.setCell ⟨gb473, 0, none⟩ (.int .i64 0)).setCell ⟨gb473, 1, none⟩ (.int .i64 0)).setCell ⟨gb473, 2, none⟩ (.string (⟨#[]⟩ : ByteArray)))) ?hg ?ho ?hn ?hr ?_; (case ho => rfl); (case hg => rfl); (case hn => rfl); (case hr => first | (go_simp; done) | (go_simp; rfl)); intro w39 hw; replace BK471 := bw BK471 hw; replace BK472 := bw BK472 hw; replace BK473 : Aside0 (w39.heap[gb473]? = some (.cells #[.int .i64 0, .int .i64 0, .string (⟨#[]⟩ : ByteArray)] 23 (0, 0))) := bp BK473 hw; replace HB := bv hw; clear hw))
       refine bodyPost_ret (results_ct rfl _ _ gb473 23 #[.int .i64 0, .int .i64 0, .string (⟨#[]⟩ : ByteArray)] (0, 0) _ rfl (by (with_reducible repeat (first | refine blk_drewN ?_ _ | refine blk_drew ?_ | refine blk_alloc ?_ _)); exact BK473.out) Tryd.underlying23 rfl (by kernel_rfl)) rfl ?_
       exact ⟨by first | (simp only [ByteArray.size_extract, Nat.min_self]; rfl) | rfl | (simp [errW_none, errW_some] <;> rfl) | (simp [*, errW_none, errW_some] <;> rfl), by repeat (first | (with_reducible first | exact HB.out | apply below_alloc | apply pw_below_drewN | apply below_drew1 | refine below_set ?_ GE471.out | refine below_set ?_ GE472.out | refine below_set ?_ GE473.out) | exact HB.out)⟩
      ·
       replace c35 := Bool.eq_false_iff.mpr c35
       subst c35
       have H1 : (if a0 = 1 then ((unisonref01_fits.f (wrap64 (a1_1 + a2_1))).bind fun bt478 => (some (bt478.1, bt478.2.1, bt478.2.2.1, bt478.2.2.2))) else (if a0 = 2 then ((unisonref01_fits.f (wrap64 (a1_1 - a2_1))).bind fun bt482 => (some (bt482.1, bt482.2.1, bt482.2.2.1, bt482.2.2.2))) else (if a0 = 3 then ((unisonref01_times.f kj14 a1_1 a2_1).bind fun bt486 => (if bt486.2 = true then ((unisonref01_fits.f bt486.1).bind fun bt488 => (some (bt488.1, bt488.2.1, bt488.2.2.1, bt488.2.2.2))) else (some (0, 0, (⟨#[]⟩ : ByteArray), 12)))) else (if a2_1 = 0 then (some (0, 0, (⟨#[]⟩ : ByteArray), 13)) else (if a0 = 4 then ((unisonref01_fits.f (wrap64 (Int.tdiv a1_1 a2_1))).bind fun bt492 => (some (bt492.1, bt492.2.1, bt492.2.2.1, bt492.2.2.2))) else ((unisonref01_fits.f (Int.tmod a1_1 a2_1)).bind fun bt496 => (some (bt496.1, bt496.2.1, bt496.2.2.1, bt496.2.2.2)))))))) = some (r1, r2, r3, r4) := by rw [if_neg (show ¬ (false = true) by decide)] at H; exact H
       clear H; have H := H1; clear H1
       by_cases c40 : a0 = 1
       ·
        rw [if_pos c40] at H
        have c40b0 : (a0 == 1) = true := beq_iff_eq.mpr c40; have c40b1 : (a0 != 1) = false := bne_eq_false_iff_eq.mpr c40; clear c40; replace H := Option.bind_eq_some_iff.mp H
        obtain ⟨⟨t478, t479, t480, t481⟩, A410, H⟩ := H
        replace H : (some (t478, t479, t480, t481)) = some (r1, r2, r3, r4) := H; have A41 := Aside0.mk A410; clear A410
        simp only [Option.some.injEq, Prod.mk.injEq] at H
        obtain ⟨rfl, rfl, rfl, rfl⟩ := H
        have hnb42 := NB471_472.out; have hnc42 := NB472_471.out; have hnb43 := NB471_473.out; have hnc43 := NB473_471.out; have hcz44_0 : wc.cell? ⟨gb471, 0, none⟩ = some (.int .i64 a1_0) := (blk_cell BK471.out 0).trans rfl; have hcz44_1 : wc.cell? ⟨gb471, 1, none⟩ = some (.int .i64 a1_1) := (blk_cell BK471.out 1).trans rfl; have hcz44_2 : wc.cell? ⟨gb471, 2, none⟩ = some (.string a1_2) := (blk_cell BK471.out 2).trans rfl; have hfz44_0 := blk_frozen BK471.out 0; have hfz44_1 := blk_frozen BK471.out 1; have hfz44_2 := blk_frozen BK471.out 2; have hnb45 := NB472_473.out; have hnc45 := NB473_472.out; have hcz46_0 : wc.cell? ⟨gb472, 0, none⟩ = some (.int .i64 a2_0) := (blk_cell BK472.out 0).trans rfl; have hcz46_1 : wc.cell? ⟨gb472, 1, none⟩ = some (.int .i64 a2_1) := (blk_cell BK472.out 1).trans rfl; have hcz46_2 : wc.cell? ⟨gb472, 2, none⟩ = some (.string a2_2) := (blk_cell BK472.out 2).trans rfl; have hfz46_0 := blk_frozen BK472.out 0; have hfz46_1 := blk_frozen BK472.out 1; have hfz46_2 := blk_frozen BK472.out 2
        go_wp2_with (first | ((with_reducible refine gate_callee (f := 48) rfl ?_); refine gL (some 44) Tryd.func48 #[.int .i64 (wrap64 (a1_1 + a2_1))] ?_; (with_reducible refine (unisonref01_fits.calls (wrap64 (a1_1 + a2_1)) t478 t479 t480 t481 _ A41.out).mono ?_); rintro e w47 ⟨rfl, hb⟩; refine ⟨_, rfl, ?_⟩; replace BK471 := bb BK471 hb; replace BK472 := bb BK472 hb; replace BK473 := bb BK473 hb; replace HB := bs hb; (try clear hb); (try clear hb2); (try clear hk); (try clear hi); have hcz48_0 : w47.cell? ⟨gb473, 0, none⟩ = some (.int .i64 0) := (blk_cell BK473.out 0).trans rfl; have hcz48_1 : w47.cell? ⟨gb473, 1, none⟩ = some (.int .i64 0) := (blk_cell BK473.out 1).trans rfl; have hcz48_2 : w47.cell? ⟨gb473, 2, none⟩ = some (.string (⟨#[]⟩ : ByteArray)) := (blk_cell BK473.out 2).trans rfl; have hfz48_0 := blk_frozen BK473.out 0; have hfz48_1 := blk_frozen BK473.out 1; have hfz48_2 := blk_frozen BK473.out 2) | ((with_reducible refine gate_store (t := 23) (p := 6) rfl ?_); refine store_event (t := 23) (p := 6) (v := ?vo_w49) (w1 := (((w47.setCell ⟨gb473, 0, none⟩ (.int .i64 t478)).setCell ⟨gb473, 1, none⟩ (.int .i64 t479)).setCell ⟨gb473, 2, none⟩ (.string t480))) ?hg ?ho ?hn ?hr ?_; (case ho => rfl); (case hg => rfl); (case hn => rfl); (case hr => first | (go_simp; done) | (go_simp; rfl)); intro w49 hw; replace BK471 := bw BK471 hw; replace BK472 := bw BK472 hw; replace BK473 : Aside0 (w49.heap[gb473]? = some (.cells #[.int .i64 t478, .int .i64 t479, .string t480] 23 (0, 0))) := bp BK473 hw; replace HB := bv hw; clear hw))
        refine bodyPost_ret (results_ct rfl _ _ gb473 23 #[.int .i64 t478, .int .i64 t479, .string t480] (0, 0) _ rfl (by (with_reducible repeat (first | refine blk_drewN ?_ _ | refine blk_drew ?_ | refine blk_alloc ?_ _)); exact BK473.out) Tryd.underlying23 rfl (by kernel_rfl)) rfl ?_
        exact ⟨by first | (simp only [ByteArray.size_extract, Nat.min_self]; rfl) | rfl | (simp [errW_none, errW_some] <;> rfl) | (simp [*, errW_none, errW_some] <;> rfl), by repeat (first | (with_reducible first | exact HB.out | apply below_alloc | apply pw_below_drewN | apply below_drew1 | refine below_set ?_ GE471.out | refine below_set ?_ GE472.out | refine below_set ?_ GE473.out) | exact HB.out)⟩
       ·
        rw [if_neg c40] at H
        have c40b0 : (a0 == 1) = false := beq_eq_false_iff_ne.mpr c40; have c40b1 : (a0 != 1) = true := bne_iff_ne.mpr c40
        by_cases c50 : a0 = 2
        ·
         rw [if_pos c50] at H
         have c50b0 : (a0 == 2) = true := beq_iff_eq.mpr c50; have c50b1 : (a0 != 2) = false := bne_eq_false_iff_eq.mpr c50; clear c50; replace H := Option.bind_eq_some_iff.mp H
         obtain ⟨⟨t482, t483, t484, t485⟩, A510, H⟩ := H
         replace H : (some (t482, t483, t484, t485)) = some (r1, r2, r3, r4) := H; have A51 := Aside0.mk A510; clear A510
         simp only [Option.some.injEq, Prod.mk.injEq] at H
         obtain ⟨rfl, rfl, rfl, rfl⟩ := H
         have hnb52 := NB471_472.out; have hnc52 := NB472_471.out; have hnb53 := NB471_473.out; have hnc53 := NB473_471.out; have hcz54_0 : wc.cell? ⟨gb471, 0, none⟩ = some (.int .i64 a1_0) := (blk_cell BK471.out 0).trans rfl; have hcz54_1 : wc.cell? ⟨gb471, 1, none⟩ = some (.int .i64 a1_1) := (blk_cell BK471.out 1).trans rfl; have hcz54_2 : wc.cell? ⟨gb471, 2, none⟩ = some (.string a1_2) := (blk_cell BK471.out 2).trans rfl; have hfz54_0 := blk_frozen BK471.out 0; have hfz54_1 := blk_frozen BK471.out 1; have hfz54_2 := blk_frozen BK471.out 2; have hnb55 := NB472_473.out; have hnc55 := NB473_472.out; have hcz56_0 : wc.cell? ⟨gb472, 0, none⟩ = some (.int .i64 a2_0) := (blk_cell BK472.out 0).trans rfl; have hcz56_1 : wc.cell? ⟨gb472, 1, none⟩ = some (.int .i64 a2_1) := (blk_cell BK472.out 1).trans rfl; have hcz56_2 : wc.cell? ⟨gb472, 2, none⟩ = some (.string a2_2) := (blk_cell BK472.out 2).trans rfl; have hfz56_0 := blk_frozen BK472.out 0; have hfz56_1 := blk_frozen BK472.out 1; have hfz56_2 := blk_frozen BK472.out 2
         go_wp2_with (first | ((with_reducible refine gate_callee (f := 48) rfl ?_); refine gL (some 54) Tryd.func48 #[.int .i64 (wrap64 (a1_1 - a2_1))] ?_; (with_reducible refine (unisonref01_fits.calls (wrap64 (a1_1 - a2_1)) t482 t483 t484 t485 _ A51.out).mono ?_); rintro e w57 ⟨rfl, hb⟩; refine ⟨_, rfl, ?_⟩; replace BK471 := bb BK471 hb; replace BK472 := bb BK472 hb; replace BK473 := bb BK473 hb; replace HB := bs hb; (try clear hb); (try clear hb2); (try clear hk); (try clear hi); have hcz58_0 : w57.cell? ⟨gb473, 0, none⟩ = some (.int .i64 0) := (blk_cell BK473.out 0).trans rfl; have hcz58_1 : w57.cell? ⟨gb473, 1, none⟩ = some (.int .i64 0) := (blk_cell BK473.out 1).trans rfl; have hcz58_2 : w57.cell? ⟨gb473, 2, none⟩ = some (.string (⟨#[]⟩ : ByteArray)) := (blk_cell BK473.out 2).trans rfl; have hfz58_0 := blk_frozen BK473.out 0; have hfz58_1 := blk_frozen BK473.out 1; have hfz58_2 := blk_frozen BK473.out 2) | ((with_reducible refine gate_store (t := 23) (p := 6) rfl ?_); refine store_event (t := 23) (p := 6) (v := ?vo_w59) (w1 := (((w57.setCell ⟨gb473, 0, none⟩ (.int .i64 t482)).setCell ⟨gb473, 1, none⟩ (.int .i64 t483)).setCell ⟨gb473, 2, none⟩ (.string t484))) ?hg ?ho ?hn ?hr ?_; (case ho => rfl); (case hg => rfl); (case hn => rfl); (case hr => first | (go_simp; done) | (go_simp; rfl)); intro w59 hw; replace BK471 := bw BK471 hw; replace BK472 := bw BK472 hw; replace BK473 : Aside0 (w59.heap[gb473]? = some (.cells #[.int .i64 t482, .int .i64 t483, .string t484] 23 (0, 0))) := bp BK473 hw; replace HB := bv hw; clear hw))
         refine bodyPost_ret (results_ct rfl _ _ gb473 23 #[.int .i64 t482, .int .i64 t483, .string t484] (0, 0) _ rfl (by (with_reducible repeat (first | refine blk_drewN ?_ _ | refine blk_drew ?_ | refine blk_alloc ?_ _)); exact BK473.out) Tryd.underlying23 rfl (by kernel_rfl)) rfl ?_
         exact ⟨by first | (simp only [ByteArray.size_extract, Nat.min_self]; rfl) | rfl | (simp [errW_none, errW_some] <;> rfl) | (simp [*, errW_none, errW_some] <;> rfl), by repeat (first | (with_reducible first | exact HB.out | apply below_alloc | apply pw_below_drewN | apply below_drew1 | refine below_set ?_ GE471.out | refine below_set ?_ GE472.out | refine below_set ?_ GE473.out) | exact HB.out)⟩
        ·
         rw [if_neg c50] at H
         have c50b0 : (a0 == 2) = false := beq_eq_false_iff_ne.mpr c50; have c50b1 : (a0 != 2) = true := bne_iff_ne.mpr c50
         by_cases c60 : a0 = 3
         ·
          rw [if_pos c60] at H
          have c60b0 : (a0 == 3) = true := beq_iff_eq.mpr c60; have c60b1 : (a0 != 3) = false := bne_eq_false_iff_eq.mpr c60; clear c60; replace H := Option.bind_eq_some_iff.mp H
          obtain ⟨⟨t486, t487⟩, A610, H⟩ := H
          replace H : (if t487 = true then ((unisonref01_fits.f t486).bind fun bt488 => (some (bt488.1, bt488.2.1, bt488.2.2.1, bt488.2.2.2))) else (some (0, 0, (⟨#[]⟩ : ByteArray), 12))) = some (r1, r2, r3, r4) := H; have A61 := Aside0.mk A610; clear A610
          by_cases c62 : t487 = true
          ·
           subst c62
           have H1 : ((unisonref01_fits.f t486).bind fun bt488 => (some (bt488.1, bt488.2.1, bt488.2.2.1, bt488.2.2.2))) = some (r1, r2, r3, r4) := by (first | rw [if_pos rfl] at H | rw [if_pos True.intro] at H | skip); exact H
           clear H; have H := H1; clear H1; replace H := Option.bind_eq_some_iff.mp H
           obtain ⟨⟨t488, t489, t490, t491⟩, A630, H⟩ := H
           replace H : (some (t488, t489, t490, t491)) = some (r1, r2, r3, r4) := H; have A63 := Aside0.mk A630; clear A630
           simp only [Option.some.injEq, Prod.mk.injEq] at H
           obtain ⟨rfl, rfl, rfl, rfl⟩ := H
           have hnb64 := NB471_472.out; have hnc64 := NB472_471.out; have hnb65 := NB471_473.out; have hnc65 := NB473_471.out; have hcz66_0 : wc.cell? ⟨gb471, 0, none⟩ = some (.int .i64 a1_0) := (blk_cell BK471.out 0).trans rfl; have hcz66_1 : wc.cell? ⟨gb471, 1, none⟩ = some (.int .i64 a1_1) := (blk_cell BK471.out 1).trans rfl; have hcz66_2 : wc.cell? ⟨gb471, 2, none⟩ = some (.string a1_2) := (blk_cell BK471.out 2).trans rfl; have hfz66_0 := blk_frozen BK471.out 0; have hfz66_1 := blk_frozen BK471.out 1; have hfz66_2 := blk_frozen BK471.out 2; have hnb67 := NB472_473.out; have hnc67 := NB473_472.out; have hcz68_0 : wc.cell? ⟨gb472, 0, none⟩ = some (.int .i64 a2_0) := (blk_cell BK472.out 0).trans rfl; have hcz68_1 : wc.cell? ⟨gb472, 1, none⟩ = some (.int .i64 a2_1) := (blk_cell BK472.out 1).trans rfl; have hcz68_2 : wc.cell? ⟨gb472, 2, none⟩ = some (.string a2_2) := (blk_cell BK472.out 2).trans rfl; have hfz68_0 := blk_frozen BK472.out 0; have hfz68_1 := blk_frozen BK472.out 1; have hfz68_2 := blk_frozen BK472.out 2
           go_wp2_with (first | ((with_reducible refine gate_callee (f := 49) rfl ?_); refine gL (some 64) Tryd.func49 #[.int .i64 a1_1, .int .i64 a2_1] ?_; (with_reducible refine (unisonref01_times.calls kj14 a1_1 a2_1 t486 true _ A61.out).mono ?_); rintro e w' ⟨rfl, ⟨nd, rfl⟩⟩; refine ⟨_, rfl, ?_⟩; (try (rw [drewN_self wc]; generalize hq_ : World.drewN wc _ = wc; replace BK471 : Aside0 (wc.heap[gb471]? = some (.cells #[.int .i64 a1_0, .int .i64 a1_1, .string a1_2] 23 (0, 0))) := ⟨by rw [← hq_]; exact (by (with_reducible repeat (first | refine blk_drewN ?_ _ | refine blk_drew ?_ | refine blk_alloc ?_ _)); exact BK471.out)⟩; replace BK472 : Aside0 (wc.heap[gb472]? = some (.cells #[.int .i64 a2_0, .int .i64 a2_1, .string a2_2] 23 (0, 0))) := ⟨by rw [← hq_]; exact (by (with_reducible repeat (first | refine blk_drewN ?_ _ | refine blk_drew ?_ | refine blk_alloc ?_ _)); exact BK472.out)⟩; replace BK473 : Aside0 (wc.heap[gb473]? = some (.cells #[.int .i64 0, .int .i64 0, .string (⟨#[]⟩ : ByteArray)] 23 (0, 0))) := ⟨by rw [← hq_]; exact (by (with_reducible repeat (first | refine blk_drewN ?_ _ | refine blk_drew ?_ | refine blk_alloc ?_ _)); exact BK473.out)⟩; replace HB : Aside0 (Below w.heap.size w wc) := ⟨by rw [← hq_]; exact bel⟩; clear hq_)); (try (have hcz66_0 : wc.cell? ⟨gb471, 0, none⟩ = some (.int .i64 a1_0) := (blk_cell BK471.out 0).trans rfl; have hcz66_1 : wc.cell? ⟨gb471, 1, none⟩ = some (.int .i64 a1_1) := (blk_cell BK471.out 1).trans rfl; have hcz66_2 : wc.cell? ⟨gb471, 2, none⟩ = some (.string a1_2) := (blk_cell BK471.out 2).trans rfl; have hfz66_0 := blk_frozen BK471.out 0; have hfz66_1 := blk_frozen BK471.out 1; have hfz66_2 := blk_frozen BK471.out 2; have hcz68_0 : wc.cell? ⟨gb472, 0, none⟩ = some (.int .i64 a2_0) := (blk_cell BK472.out 0).trans rfl; have hcz68_1 : wc.cell? ⟨gb472, 1, none⟩ = some (.int .i64 a2_1) := (blk_cell BK472.out 1).trans rfl; have hcz68_2 : wc.cell? ⟨gb472, 2, none⟩ = some (.string a2_2) := (blk_cell BK472.out 2).trans rfl; have hfz68_0 := blk_frozen BK472.out 0; have hfz68_1 := blk_frozen BK472.out 1; have hfz68_2 := blk_frozen BK472.out 2))) | ((with_reducible refine gate_callee (f := 48) rfl ?_); refine gL (some 71) Tryd.func48 #[.int .i64 t486] ?_; (with_reducible refine (unisonref01_fits.calls t486 t488 t489 t490 t491 _ A63.out).mono ?_); rintro e w69 ⟨rfl, hb⟩; refine ⟨_, rfl, ?_⟩; replace BK471 := bb BK471 hb; replace BK472 := bb BK472 hb; replace BK473 := bb BK473 hb; replace HB := bs hb; (try clear hb); (try clear hb2); (try clear hk); (try clear hi); have hcz70_0 : w69.cell? ⟨gb473, 0, none⟩ = some (.int .i64 0) := (blk_cell BK473.out 0).trans rfl; have hcz70_1 : w69.cell? ⟨gb473, 1, none⟩ = some (.int .i64 0) := (blk_cell BK473.out 1).trans rfl; have hcz70_2 : w69.cell? ⟨gb473, 2, none⟩ = some (.string (⟨#[]⟩ : ByteArray)) := (blk_cell BK473.out 2).trans rfl; have hfz70_0 := blk_frozen BK473.out 0; have hfz70_1 := blk_frozen BK473.out 1; have hfz70_2 := blk_frozen BK473.out 2) | ((with_reducible refine gate_store (t := 23) (p := 6) rfl ?_); refine store_event (t := 23) (p := 6) (v := ?vo_w71) (w1 := (((w69.setCell ⟨gb473, 0, none⟩ (.int .i64 t488)).setCell ⟨gb473, 1, none⟩ (.int .i64 t489)).setCell ⟨gb473, 2, none⟩ (.string t490))) ?hg ?ho ?hn ?hr ?_; (case ho => rfl); (case hg => rfl); (case hn => rfl); (case hr => first | (go_simp; done) | (go_simp; rfl)); intro w71 hw; replace BK471 := bw BK471 hw; replace BK472 := bw BK472 hw; replace BK473 : Aside0 (w71.heap[gb473]? = some (.cells #[.int .i64 t488, .int .i64 t489, .string t490] 23 (0, 0))) := bp BK473 hw; replace HB := bv hw; clear hw))
           refine bodyPost_ret (results_ct rfl _ _ gb473 23 #[.int .i64 t488, .int .i64 t489, .string t490] (0, 0) _ rfl (by (with_reducible repeat (first | refine blk_drewN ?_ _ | refine blk_drew ?_ | refine blk_alloc ?_ _)); exact BK473.out) Tryd.underlying23 rfl (by kernel_rfl)) rfl ?_
           exact ⟨by first | (simp only [ByteArray.size_extract, Nat.min_self]; rfl) | rfl | (simp [errW_none, errW_some] <;> rfl) | (simp [*, errW_none, errW_some] <;> rfl), by repeat (first | (with_reducible first | exact HB.out | apply below_alloc | apply pw_below_drewN | apply below_drew1 | refine below_set ?_ GE471.out | refine below_set ?_ GE472.out | refine below_set ?_ GE473.out) | exact HB.out)⟩
          ·
           replace c62 := Bool.eq_false_iff.mpr c62
           subst c62
           have H1 : (some (0, 0, (⟨#[]⟩ : ByteArray), 12)) = some (r1, r2, r3, r4) := by rw [if_neg (show ¬ (false = true) by decide)] at H; exact H
           clear H; have H := H1; clear H1
           simp only [Option.some.injEq, Prod.mk.injEq] at H
           obtain ⟨rfl, rfl, rfl, rfl⟩ := H
           have hnb72 := NB471_472.out; have hnc72 := NB472_471.out; have hnb73 := NB471_473.out; have hnc73 := NB473_471.out; have hcz74_0 : wc.cell? ⟨gb471, 0, none⟩ = some (.int .i64 a1_0) := (blk_cell BK471.out 0).trans rfl; have hcz74_1 : wc.cell? ⟨gb471, 1, none⟩ = some (.int .i64 a1_1) := (blk_cell BK471.out 1).trans rfl; have hcz74_2 : wc.cell? ⟨gb471, 2, none⟩ = some (.string a1_2) := (blk_cell BK471.out 2).trans rfl; have hfz74_0 := blk_frozen BK471.out 0; have hfz74_1 := blk_frozen BK471.out 1; have hfz74_2 := blk_frozen BK471.out 2; have hnb75 := NB472_473.out; have hnc75 := NB473_472.out; have hcz76_0 : wc.cell? ⟨gb472, 0, none⟩ = some (.int .i64 a2_0) := (blk_cell BK472.out 0).trans rfl; have hcz76_1 : wc.cell? ⟨gb472, 1, none⟩ = some (.int .i64 a2_1) := (blk_cell BK472.out 1).trans rfl; have hcz76_2 : wc.cell? ⟨gb472, 2, none⟩ = some (.string a2_2) := (blk_cell BK472.out 2).trans rfl; have hfz76_0 := blk_frozen BK472.out 0; have hfz76_1 := blk_frozen BK472.out 1; have hfz76_2 := blk_frozen BK472.out 2
           go_wp2_with (first | ((with_reducible refine gate_callee (f := 49) rfl ?_); refine gL (some 64) Tryd.func49 #[.int .i64 a1_1, .int .i64 a2_1] ?_; (with_reducible refine (unisonref01_times.calls kj14 a1_1 a2_1 t486 false _ A61.out).mono ?_); rintro e w' ⟨rfl, ⟨nd, rfl⟩⟩; refine ⟨_, rfl, ?_⟩; (try (rw [drewN_self wc]; generalize hq_ : World.drewN wc _ = wc; replace BK471 : Aside0 (wc.heap[gb471]? = some (.cells #[.int .i64 a1_0, .int .i64 a1_1, .string a1_2] 23 (0, 0))) := ⟨by rw [← hq_]; exact (by (with_reducible repeat (first | refine blk_drewN ?_ _ | refine blk_drew ?_ | refine blk_alloc ?_ _)); exact BK471.out)⟩; replace BK472 : Aside0 (wc.heap[gb472]? = some (.cells #[.int .i64 a2_0, .int .i64 a2_1, .string a2_2] 23 (0, 0))) := ⟨by rw [← hq_]; exact (by (with_reducible repeat (first | refine blk_drewN ?_ _ | refine blk_drew ?_ | refine blk_alloc ?_ _)); exact BK472.out)⟩; replace BK473 : Aside0 (wc.heap[gb473]? = some (.cells #[.int .i64 0, .int .i64 0, .string (⟨#[]⟩ : ByteArray)] 23 (0, 0))) := ⟨by rw [← hq_]; exact (by (with_reducible repeat (first | refine blk_drewN ?_ _ | refine blk_drew ?_ | refine blk_alloc ?_ _)); exact BK473.out)⟩; replace HB : Aside0 (Below w.heap.size w wc) := ⟨by rw [← hq_]; exact bel⟩; clear hq_)); (try (have hcz74_0 : wc.cell? ⟨gb471, 0, none⟩ = some (.int .i64 a1_0) := (blk_cell BK471.out 0).trans rfl; have hcz74_1 : wc.cell? ⟨gb471, 1, none⟩ = some (.int .i64 a1_1) := (blk_cell BK471.out 1).trans rfl; have hcz74_2 : wc.cell? ⟨gb471, 2, none⟩ = some (.string a1_2) := (blk_cell BK471.out 2).trans rfl; have hfz74_0 := blk_frozen BK471.out 0; have hfz74_1 := blk_frozen BK471.out 1; have hfz74_2 := blk_frozen BK471.out 2; have hcz76_0 : wc.cell? ⟨gb472, 0, none⟩ = some (.int .i64 a2_0) := (blk_cell BK472.out 0).trans rfl; have hcz76_1 : wc.cell? ⟨gb472, 1, none⟩ = some (.int .i64 a2_1) := (blk_cell BK472.out 1).trans rfl; have hcz76_2 : wc.cell? ⟨gb472, 2, none⟩ = some (.string a2_2) := (blk_cell BK472.out 2).trans rfl; have hfz76_0 := blk_frozen BK472.out 0; have hfz76_1 := blk_frozen BK472.out 1; have hfz76_2 := blk_frozen BK472.out 2)); have hcz77_0 : wc.cell? ⟨gb473, 0, none⟩ = some (.int .i64 0) := (blk_cell BK473.out 0).trans rfl; have hcz77_1 : wc.cell? ⟨gb473, 1, none⟩ = some (.int .i64 0) := (blk_cell BK473.out 1).trans rfl; have hcz77_2 : wc.cell? ⟨gb473, 2, none⟩ = some (.string (⟨#[]⟩ : ByteArray)) := (blk_cell BK473.out 2).trans rfl; have hfz77_0 := blk_frozen BK473.out 0; have hfz77_1 := blk_frozen BK473.out 1; have hfz77_2 := blk_frozen BK473.out 2) | ((with_reducible refine gate_store (t := 23) (p := 6) rfl ?_); refine store_event (t := 23) (p := 6) (v := ?vo_w78) (w1 := (((wc.setCell ⟨gb473, 0, none⟩ (.int .i64 0)).setCell ⟨gb473, 1, none⟩ (.int .i64 0)).setCell ⟨gb473, 2, none⟩ (.string (⟨#[]⟩ : ByteArray)))) ?hg ?ho ?hn ?hr ?_; (case ho => rfl); (case hg => rfl); (case hn => rfl); (case hr => first | (go_simp; done) | (go_simp; rfl)); intro w78 hw; replace BK471 := bw BK471 hw; replace BK472 := bw BK472 hw; replace BK473 : Aside0 (w78.heap[gb473]? = some (.cells #[.int .i64 0, .int .i64 0, .string (⟨#[]⟩ : ByteArray)] 23 (0, 0))) := bp BK473 hw; replace HB := bv hw; clear hw))
           refine bodyPost_ret (results_ct rfl _ _ gb473 23 #[.int .i64 0, .int .i64 0, .string (⟨#[]⟩ : ByteArray)] (0, 0) _ rfl (by (with_reducible repeat (first | refine blk_drewN ?_ _ | refine blk_drew ?_ | refine blk_alloc ?_ _)); exact BK473.out) Tryd.underlying23 rfl (by kernel_rfl)) rfl ?_
           exact ⟨by first | (simp only [ByteArray.size_extract, Nat.min_self]; rfl) | rfl | (simp [errW_none, errW_some] <;> rfl) | (simp [*, errW_none, errW_some] <;> rfl), by repeat (first | (with_reducible first | exact HB.out | apply below_alloc | apply pw_below_drewN | apply below_drew1 | refine below_set ?_ GE471.out | refine below_set ?_ GE472.out | refine below_set ?_ GE473.out) | exact HB.out)⟩
         ·
          rw [if_neg c60] at H
          have c60b0 : (a0 == 3) = false := beq_eq_false_iff_ne.mpr c60; have c60b1 : (a0 != 3) = true := bne_iff_ne.mpr c60
          by_cases c79 : a2_1 = 0
          ·
           rw [if_pos c79] at H
           have c79b0 : (a2_1 == 0) = true := beq_iff_eq.mpr c79; have c79b1 : (a2_1 != 0) = false := bne_eq_false_iff_eq.mpr c79; clear c79
           simp only [Option.some.injEq, Prod.mk.injEq] at H
           obtain ⟨rfl, rfl, rfl, rfl⟩ := H
           have hnb80 := NB472_471.out; have hnc80 := NB471_472.out; have hnb81 := NB472_473.out; have hnc81 := NB473_472.out; have hcz82_0 : wc.cell? ⟨gb472, 0, none⟩ = some (.int .i64 a2_0) := (blk_cell BK472.out 0).trans rfl; have hcz82_1 : wc.cell? ⟨gb472, 1, none⟩ = some (.int .i64 a2_1) := (blk_cell BK472.out 1).trans rfl; have hcz82_2 : wc.cell? ⟨gb472, 2, none⟩ = some (.string a2_2) := (blk_cell BK472.out 2).trans rfl; have hfz82_0 := blk_frozen BK472.out 0; have hfz82_1 := blk_frozen BK472.out 1; have hfz82_2 := blk_frozen BK472.out 2; have hnb83 := NB473_471.out; have hnc83 := NB471_473.out; have hcz84_0 : wc.cell? ⟨gb473, 0, none⟩ = some (.int .i64 0) := (blk_cell BK473.out 0).trans rfl; have hcz84_1 : wc.cell? ⟨gb473, 1, none⟩ = some (.int .i64 0) := (blk_cell BK473.out 1).trans rfl; have hcz84_2 : wc.cell? ⟨gb473, 2, none⟩ = some (.string (⟨#[]⟩ : ByteArray)) := (blk_cell BK473.out 2).trans rfl; have hfz84_0 := blk_frozen BK473.out 0; have hfz84_1 := blk_frozen BK473.out 1; have hfz84_2 := blk_frozen BK473.out 2
           go_wp2_with (first | ((with_reducible refine gate_store (t := 23) (p := 6) rfl ?_); refine store_event (t := 23) (p := 6) (v := ?vo_w85) (w1 := (((wc.setCell ⟨gb473, 0, none⟩ (.int .i64 0)).setCell ⟨gb473, 1, none⟩ (.int .i64 0)).setCell ⟨gb473, 2, none⟩ (.string (⟨#[]⟩ : ByteArray)))) ?hg ?ho ?hn ?hr ?_; (case ho => rfl); (case hg => rfl); (case hn => rfl); (case hr => first | (go_simp; done) | (go_simp; rfl)); intro w85 hw; replace BK471 := bw BK471 hw; replace BK472 := bw BK472 hw; replace BK473 : Aside0 (w85.heap[gb473]? = some (.cells #[.int .i64 0, .int .i64 0, .string (⟨#[]⟩ : ByteArray)] 23 (0, 0))) := bp BK473 hw; replace HB := bv hw; clear hw))
           refine bodyPost_ret (results_ct rfl _ _ gb473 23 #[.int .i64 0, .int .i64 0, .string (⟨#[]⟩ : ByteArray)] (0, 0) _ rfl (by (with_reducible repeat (first | refine blk_drewN ?_ _ | refine blk_drew ?_ | refine blk_alloc ?_ _)); exact BK473.out) Tryd.underlying23 rfl (by kernel_rfl)) rfl ?_
           exact ⟨by first | (simp only [ByteArray.size_extract, Nat.min_self]; rfl) | rfl | (simp [errW_none, errW_some] <;> rfl) | (simp [*, errW_none, errW_some] <;> rfl), by repeat (first | (with_reducible first | exact HB.out | apply below_alloc | apply pw_below_drewN | apply below_drew1 | refine below_set ?_ GE471.out | refine below_set ?_ GE472.out | refine below_set ?_ GE473.out) | exact HB.out)⟩
          ·
           rw [if_neg c79] at H
           have c79b0 : (a2_1 == 0) = false := beq_eq_false_iff_ne.mpr c79; have c79b1 : (a2_1 != 0) = true := bne_iff_ne.mpr c79
           by_cases c86 : a0 = 4
           ·
            rw [if_pos c86] at H
            have c86b0 : (a0 == 4) = true := beq_iff_eq.mpr c86; have c86b1 : (a0 != 4) = false := bne_eq_false_iff_eq.mpr c86; clear c86; replace H := Option.bind_eq_some_iff.mp H
            obtain ⟨⟨t492, t493, t494, t495⟩, A870, H⟩ := H
            replace H : (some (t492, t493, t494, t495)) = some (r1, r2, r3, r4) := H; have A87 := Aside0.mk A870; clear A870
            simp only [Option.some.injEq, Prod.mk.injEq] at H
            obtain ⟨rfl, rfl, rfl, rfl⟩ := H
            have hnb88 := NB472_471.out; have hnc88 := NB471_472.out; have hnb89 := NB472_473.out; have hnc89 := NB473_472.out; have hcz90_0 : wc.cell? ⟨gb472, 0, none⟩ = some (.int .i64 a2_0) := (blk_cell BK472.out 0).trans rfl; have hcz90_1 : wc.cell? ⟨gb472, 1, none⟩ = some (.int .i64 a2_1) := (blk_cell BK472.out 1).trans rfl; have hcz90_2 : wc.cell? ⟨gb472, 2, none⟩ = some (.string a2_2) := (blk_cell BK472.out 2).trans rfl; have hfz90_0 := blk_frozen BK472.out 0; have hfz90_1 := blk_frozen BK472.out 1; have hfz90_2 := blk_frozen BK472.out 2; have hnb91 := NB471_473.out; have hnc91 := NB473_471.out; have hcz92_0 : wc.cell? ⟨gb471, 0, none⟩ = some (.int .i64 a1_0) := (blk_cell BK471.out 0).trans rfl; have hcz92_1 : wc.cell? ⟨gb471, 1, none⟩ = some (.int .i64 a1_1) := (blk_cell BK471.out 1).trans rfl; have hcz92_2 : wc.cell? ⟨gb471, 2, none⟩ = some (.string a1_2) := (blk_cell BK471.out 2).trans rfl; have hfz92_0 := blk_frozen BK471.out 0; have hfz92_1 := blk_frozen BK471.out 1; have hfz92_2 := blk_frozen BK471.out 2
            go_wp2_with (first | ((with_reducible refine gate_callee (f := 48) rfl ?_); refine gL (some 85) Tryd.func48 #[.int .i64 (wrap64 (Int.tdiv a1_1 a2_1))] ?_; (with_reducible refine (unisonref01_fits.calls (wrap64 (Int.tdiv a1_1 a2_1)) t492 t493 t494 t495 _ A87.out).mono ?_); rintro e w93 ⟨rfl, hb⟩; refine ⟨_, rfl, ?_⟩; replace BK471 := bb BK471 hb; replace BK472 := bb BK472 hb; replace BK473 := bb BK473 hb; replace HB := bs hb; (try clear hb); (try clear hb2); (try clear hk); (try clear hi); have hcz94_0 : w93.cell? ⟨gb473, 0, none⟩ = some (.int .i64 0) := (blk_cell BK473.out 0).trans rfl; have hcz94_1 : w93.cell? ⟨gb473, 1, none⟩ = some (.int .i64 0) := (blk_cell BK473.out 1).trans rfl; have hcz94_2 : w93.cell? ⟨gb473, 2, none⟩ = some (.string (⟨#[]⟩ : ByteArray)) := (blk_cell BK473.out 2).trans rfl; have hfz94_0 := blk_frozen BK473.out 0; have hfz94_1 := blk_frozen BK473.out 1; have hfz94_2 := blk_frozen BK473.out 2) | ((with_reducible refine gate_store (t := 23) (p := 6) rfl ?_); refine store_event (t := 23) (p := 6) (v := ?vo_w95) (w1 := (((w93.setCell ⟨gb473, 0, none⟩ (.int .i64 t492)).setCell ⟨gb473, 1, none⟩ (.int .i64 t493)).setCell ⟨gb473, 2, none⟩ (.string t494))) ?hg ?ho ?hn ?hr ?_; (case ho => rfl); (case hg => rfl); (case hn => rfl); (case hr => first | (go_simp; done) | (go_simp; rfl)); intro w95 hw; replace BK471 := bw BK471 hw; replace BK472 := bw BK472 hw; replace BK473 : Aside0 (w95.heap[gb473]? = some (.cells #[.int .i64 t492, .int .i64 t493, .string t494] 23 (0, 0))) := bp BK473 hw; replace HB := bv hw; clear hw))
            refine bodyPost_ret (results_ct rfl _ _ gb473 23 #[.int .i64 t492, .int .i64 t493, .string t494] (0, 0) _ rfl (by (with_reducible repeat (first | refine blk_drewN ?_ _ | refine blk_drew ?_ | refine blk_alloc ?_ _)); exact BK473.out) Tryd.underlying23 rfl (by kernel_rfl)) rfl ?_
            exact ⟨by first | (simp only [ByteArray.size_extract, Nat.min_self]; rfl) | rfl | (simp [errW_none, errW_some] <;> rfl) | (simp [*, errW_none, errW_some] <;> rfl), by repeat (first | (with_reducible first | exact HB.out | apply below_alloc | apply pw_below_drewN | apply below_drew1 | refine below_set ?_ GE471.out | refine below_set ?_ GE472.out | refine below_set ?_ GE473.out) | exact HB.out)⟩
           ·
            rw [if_neg c86] at H
            have c86b0 : (a0 == 4) = false := beq_eq_false_iff_ne.mpr c86; have c86b1 : (a0 != 4) = true := bne_iff_ne.mpr c86; replace H := Option.bind_eq_some_iff.mp H
            obtain ⟨⟨t496, t497, t498, t499⟩, A960, H⟩ := H
            replace H : (some (t496, t497, t498, t499)) = some (r1, r2, r3, r4) := H; have A96 := Aside0.mk A960; clear A960
            simp only [Option.some.injEq, Prod.mk.injEq] at H
            obtain ⟨rfl, rfl, rfl, rfl⟩ := H
            have hnb97 := NB472_471.out; have hnc97 := NB471_472.out; have hnb98 := NB472_473.out; have hnc98 := NB473_472.out; have hcz99_0 : wc.cell? ⟨gb472, 0, none⟩ = some (.int .i64 a2_0) := (blk_cell BK472.out 0).trans rfl; have hcz99_1 : wc.cell? ⟨gb472, 1, none⟩ = some (.int .i64 a2_1) := (blk_cell BK472.out 1).trans rfl; have hcz99_2 : wc.cell? ⟨gb472, 2, none⟩ = some (.string a2_2) := (blk_cell BK472.out 2).trans rfl; have hfz99_0 := blk_frozen BK472.out 0; have hfz99_1 := blk_frozen BK472.out 1; have hfz99_2 := blk_frozen BK472.out 2; have hnb100 := NB471_473.out; have hnc100 := NB473_471.out; have hcz101_0 : wc.cell? ⟨gb471, 0, none⟩ = some (.int .i64 a1_0) := (blk_cell BK471.out 0).trans rfl; have hcz101_1 : wc.cell? ⟨gb471, 1, none⟩ = some (.int .i64 a1_1) := (blk_cell BK471.out 1).trans rfl; have hcz101_2 : wc.cell? ⟨gb471, 2, none⟩ = some (.string a1_2) := (blk_cell BK471.out 2).trans rfl; have hfz101_0 := blk_frozen BK471.out 0; have hfz101_1 := blk_frozen BK471.out 1; have hfz101_2 := blk_frozen BK471.out 2
            go_wp2_with (first | ((with_reducible refine gate_callee (f := 48) rfl ?_); refine gL (some 93) Tryd.func48 #[.int .i64 (Int.tmod a1_1 a2_1)] ?_; (with_reducible refine (unisonref01_fits.calls (Int.tmod a1_1 a2_1) t496 t497 t498 t499 _ A96.out).mono ?_); rintro e w102 ⟨rfl, hb⟩; refine ⟨_, rfl, ?_⟩; replace BK471 := bb BK471 hb; replace BK472 := bb BK472 hb; replace BK473 := bb BK473 hb; replace HB := bs hb; (try clear hb); (try clear hb2); (try clear hk); (try clear hi); have hcz103_0 : w102.cell? ⟨gb473, 0, none⟩ = some (.int .i64 0) := (blk_cell BK473.out 0).trans rfl; have hcz103_1 : w102.cell? ⟨gb473, 1, none⟩ = some (.int .i64 0) := (blk_cell BK473.out 1).trans rfl; have hcz103_2 : w102.cell? ⟨gb473, 2, none⟩ = some (.string (⟨#[]⟩ : ByteArray)) := (blk_cell BK473.out 2).trans rfl; have hfz103_0 := blk_frozen BK473.out 0; have hfz103_1 := blk_frozen BK473.out 1; have hfz103_2 := blk_frozen BK473.out 2) | ((with_reducible refine gate_store (t := 23) (p := 6) rfl ?_); refine store_event (t := 23) (p := 6) (v := ?vo_w104) (w1 := (((w102.setCell ⟨gb473, 0, none⟩ (.int .i64 t496)).setCell ⟨gb473, 1, none⟩ (.int .i64 t497)).setCell ⟨gb473, 2, none⟩ (.string t498))) ?hg ?ho ?hn ?hr ?_; (case ho => rfl); (case hg => rfl); (case hn => rfl); (case hr => first | (go_simp; done) | (go_simp; rfl)); intro w104 hw; replace BK471 := bw BK471 hw; replace BK472 := bw BK472 hw; replace BK473 : Aside0 (w104.heap[gb473]? = some (.cells #[.int .i64 t496, .int .i64 t497, .string t498] 23 (0, 0))) := bp BK473 hw; replace HB := bv hw; clear hw))
            refine bodyPost_ret (results_ct rfl _ _ gb473 23 #[.int .i64 t496, .int .i64 t497, .string t498] (0, 0) _ rfl (by (with_reducible repeat (first | refine blk_drewN ?_ _ | refine blk_drew ?_ | refine blk_alloc ?_ _)); exact BK473.out) Tryd.underlying23 rfl (by kernel_rfl)) rfl ?_
            exact ⟨by first | (simp only [ByteArray.size_extract, Nat.min_self]; rfl) | rfl | (simp [errW_none, errW_some] <;> rfl) | (simp [*, errW_none, errW_some] <;> rfl), by repeat (first | (with_reducible first | exact HB.out | apply below_alloc | apply pw_below_drewN | apply below_drew1 | refine below_set ?_ GE471.out | refine below_set ?_ GE472.out | refine below_set ?_ GE473.out) | exact HB.out)⟩
end Go.Proofs.YteehcopkljiikaaDoor.PA
