/- Several texts in one (merge.py): PFValueOr, PFValueNot, PFLTurned; no conditions beyond those in each theorem's head. -/
import Derived.Test.YteehcopkljiikaaDoorPAx0
import Derived.Test.YteehcopkljiikaaDoorMA
section
namespace Go.Proofs.YteehcopkljiikaaDoor.PA
open Go.RowKit Go.Proofs.YteehcopkljiikaaDoorW.PrintWords Go.Proofs.YteehcopkljiikaaDoorW.PrintLast Go.Proofs.YteehcopkljiikaaDoorW.PrintMore Go.Proofs.YteehcopkljiikaaDoorX
attribute [local go_sem] max2_int min2_int max_two min_two max_three min_three max_four min_four   -- for this text's walks alone
set_option linter.unusedVariables false
set_option linter.unusedSimpArgs false

/-! ### value_Or: function 30 -/
def value_Or.f (k : Nat) (l0 : List (S23)) : Option (Int × Int × ByteArray × Int) := (value_both.f k 1 l0).bind fun bt561 => (some (bt561.1, bt561.2.1, bt561.2.2.1, bt561.2.2.2))
theorem value_Or.mono : ∀ a0 k, LeO (value_Or.f k a0) (value_Or.f (k + 1) a0) := by
 intro a0 k
 unfold value_Or.f
 repeat' first
   | (with_reducible exact value_both.mono _ _ _)
   | (with_reducible exact LeO.refl _)
   | (with_reducible exact LeO.none _)
   | (with_reducible refine LeO.ite ?_ ?_)
   | (with_reducible refine LeO.bind ?_ (fun _ => ?_))
   | exact value_both.mono _ _ _
   | exact LeO.none _
   | refine LeO.ite ?_ ?_
   | refine LeO.bind ?_ (fun _ => ?_)
set_option maxHeartbeats 8000000 in
set_option maxRecDepth 100000 in
theorem value_Or.calls (k : Nat) (A0 : Option Addr) (c0 : Nat) (l0 : List (S23)) (r1 : Int) (r2 : Int) (r3 : ByteArray) (r4 : Int) (w : World) (hr0 : Kd.C k23 w A0 l0.length l0) (hc0 : l0.length ≤ c0) (h : value_Or.f k l0 = some (r1, r2, r3, r4)) :
  Calls Tryd.prog 30 #[.slice A0 l0.length c0] w fun e w' => e = .returned (.tuple #[.agg #[.int .i64 r1, .int .i64 r2, .string r3], .int .i64 r4]) ∧ Below w.heap.size w w' := by
 have hu23 := Tryd.underlying23; have HR0 := Aside0.mk hr0; have HC0 := Aside0.mk hc0; clear hr0 hc0; have HB := Aside0.mk (Below.refl w.heap.size w); have H : ((value_both.f k 1 l0).bind fun bt561 => (some (bt561.1, bt561.2.1, bt561.2.2.1, bt561.2.2.2))) = some (r1, r2, r3, r4) := h; clear h; replace H := Option.bind_eq_some_iff.mp H
 obtain ⟨⟨t561, t562, t563, t564⟩, A20, H⟩ := H
 replace H : (some (t561, t562, t563, t564)) = some (r1, r2, r3, r4) := H; have A2 := Aside0.mk A20; clear A20
 simp only [Option.some.injEq, Prod.mk.injEq] at H
 obtain ⟨rfl, rfl, rfl, rfl⟩ := H
 go_enter Tryd.func30, Tryd.ntmps30
 go_wp2_with (first | ((with_reducible refine gate_dst (N := 2) rfl ?_); refine box_event ?hg (N := 2) ?hd (cs := #[.int .i64 0, .int .i64 0, .string (⟨#[]⟩ : ByteArray)]) (t := 23) ?hr ?_; (case hd => rfl); (case hg => rfl); (case hr => first | (go_simp; done) | (go_simp; rfl)); intro gb560 hg w3 hbox hb; have BK560 := Aside0.mk (hbox); have GW560 := bz hg; have GE560 := bz hg; replace HB := bs hb; clear hb hbox hg) | ((with_reducible refine gate_callee (f := 50) rfl ?_); refine gL (some 5) Tryd.func50 #[.int .i64 1, .slice A0 l0.length c0] ?_; (with_reducible refine (value_both.calls k 1 _ _ l0 t561 t562 t563 t564 _ ?side1 ?side2 A2.out).mono ?_); (case side1 => repeat (first | exact (Kd.C_below HR0.out HB.out) | (with_reducible refine Kd.C_alloc ?_ _) | (with_reducible refine Kd.C_drewN ?_ _) | (with_reducible refine Kd.C_drew ?_))); (case side2 => exact HC0.out); rintro e w4 ⟨rfl, hb⟩; refine ⟨_, rfl, ?_⟩; replace BK560 := bb BK560 hb; replace HB := bs hb; (try clear hb); (try clear hb2); (try clear hk); (try clear hi); have hcz5_0 : w4.cell? ⟨gb560, 0, none⟩ = some (.int .i64 0) := (blk_cell BK560.out 0).trans rfl; have hcz5_1 : w4.cell? ⟨gb560, 1, none⟩ = some (.int .i64 0) := (blk_cell BK560.out 1).trans rfl; have hcz5_2 : w4.cell? ⟨gb560, 2, none⟩ = some (.string (⟨#[]⟩ : ByteArray)) := (blk_cell BK560.out 2).trans rfl; have hfz5_0 := blk_frozen BK560.out 0; have hfz5_1 := blk_frozen BK560.out 1; have hfz5_2 := blk_frozen BK560.out 2) | ((with_reducible refine gate_store (t := 23) (p := 2) rfl ?_); refine store_event (t := 23) (p := 2) (v := ?vo_w6) (w1 := (((w4.setCell ⟨gb560, 0, none⟩ (.int .i64 t561)).setCell ⟨gb560, 1, none⟩ (.int .i64 t562)).setCell ⟨gb560, 2, none⟩ (.string t563))) ?hg ?ho ?hn ?hr ?_; (case ho => rfl); (case hg => rfl); (case hn => rfl); (case hr => first | (go_simp; done) | (go_simp; rfl)); intro w6 hw; replace BK560 : Aside0 (w6.heap[gb560]? = some (.cells #[.int .i64 t561, .int .i64 t562, .string t563] 23 (0, 0))) := bp BK560 hw; replace HB := bv hw; clear hw))
 refine bodyPost_ret (results_ct rfl _ _ gb560 23 #[.int .i64 t561, .int .i64 t562, .string t563] (0, 0) _ rfl (by (with_reducible repeat (first | refine blk_drewN ?_ _ | refine blk_drew ?_ | refine blk_alloc ?_ _)); exact BK560.out) Tryd.underlying23 rfl (by kernel_rfl)) rfl ?_
 exact ⟨by first | (simp only [ByteArray.size_extract, Nat.min_self]; rfl) | rfl | (simp [errW_none, errW_some] <;> rfl) | (simp [*, errW_none, errW_some] <;> rfl), by repeat (first | (with_reducible first | exact HB.out | apply below_alloc | apply pw_below_drewN | apply below_drew1 | refine below_set ?_ GE560.out) | exact HB.out)⟩
end Go.Proofs.YteehcopkljiikaaDoor.PA
end
section
namespace Go.Proofs.YteehcopkljiikaaDoor.PA
open Go.RowKit Go.Proofs.YteehcopkljiikaaDoorW.PrintWords Go.Proofs.YteehcopkljiikaaDoorW.PrintLast Go.Proofs.YteehcopkljiikaaDoorW.PrintMore Go.Proofs.YteehcopkljiikaaDoorX
attribute [local go_sem] max2_int min2_int max_two min_two max_three min_three max_four min_four   -- for this text's walks alone
set_option linter.unusedVariables false
set_option linter.unusedSimpArgs false
/-! ### value_Not: function 32 -/
def value_Not.f (k : Nat) (a0_0 : Int) (a0_1 : Int) (a0_2 : ByteArray) : Option (Int × Int × ByteArray × Int) := (value_all.f k 2 (([(⟨a0_0, a0_1, a0_2⟩ : S23)] : List (S23)))).bind fun t575 => (if t575 = 0 then (if a0_0 = 0 then (some (0, 0, (⟨#[]⟩ : ByteArray), t575)) else ((value_truth.f (a0_1 == 0)).bind fun bt576 => (some (bt576.1, bt576.2.1, bt576.2.2, 0)))) else (some (0, 0, (⟨#[]⟩ : ByteArray), t575)))
theorem value_Not.mono : ∀ a0 a1 a2 k, LeO (value_Not.f k a0 a1 a2) (value_Not.f (k + 1) a0 a1 a2) := by
 intro a0 a1 a2 k
 unfold value_Not.f
 repeat' first
   | (with_reducible exact value_all.mono _ _ _)
   | (with_reducible exact LeO.refl _)
   | (with_reducible exact LeO.none _)
   | (with_reducible refine LeO.ite ?_ ?_)
   | (with_reducible refine LeO.bind ?_ (fun _ => ?_))
   | exact value_all.mono _ _ _
   | exact LeO.none _
   | refine LeO.ite ?_ ?_
   | refine LeO.bind ?_ (fun _ => ?_)
set_option maxHeartbeats 8000000 in
set_option maxRecDepth 100000 in
theorem value_Not.calls (k : Nat) (a0_0 : Int) (a0_1 : Int) (a0_2 : ByteArray) (r1 : Int) (r2 : Int) (r3 : ByteArray) (r4 : Int) (w : World) (h : value_Not.f k a0_0 a0_1 a0_2 = some (r1, r2, r3, r4)) :
  Calls Tryd.prog 32 #[.agg #[.int .i64 a0_0, .int .i64 a0_1, .string a0_2]] w fun e w' => e = .returned (.tuple #[.agg #[.int .i64 r1, .int .i64 r2, .string r3], .int .i64 r4]) ∧ Below w.heap.size w w' := by
 have hu23 := Tryd.underlying23; have HB := Aside0.mk (Below.refl w.heap.size w); have H : ((value_all.f k 2 (([(⟨a0_0, a0_1, a0_2⟩ : S23)] : List (S23)))).bind fun t575 => (if t575 = 0 then (if a0_0 = 0 then (some (0, 0, (⟨#[]⟩ : ByteArray), t575)) else ((value_truth.f (a0_1 == 0)).bind fun bt576 => (some (bt576.1, bt576.2.1, bt576.2.2, 0)))) else (some (0, 0, (⟨#[]⟩ : ByteArray), t575)))) = some (r1, r2, r3, r4) := h; clear h
 obtain ⟨y572, hy572⟩ : ∃ y_ : List (S23), y_ = (([(⟨a0_0, a0_1, a0_2⟩ : S23)] : List (S23))) := ⟨_, rfl⟩
 replace H : ((value_all.f k 2 y572).bind fun t575 => (if t575 = 0 then (if a0_0 = 0 then (some (0, 0, (⟨#[]⟩ : ByteArray), t575)) else ((value_truth.f (a0_1 == 0)).bind fun bt576 => (some (bt576.1, bt576.2.1, bt576.2.2, 0)))) else (some (0, 0, (⟨#[]⟩ : ByteArray), t575)))) = some (r1, r2, r3, r4) := by first | (rw [hy572]; with_reducible exact H) | (have H2_ := (Option.bind_some _ _).symm.trans H; rw [hy572]; with_reducible exact H2_) | (have H2_ := (Option.bind_some _ _).symm.trans H; with_reducible exact H2_) | with_reducible exact H | (rw [hy572]; exact H) | exact H
 have Ny572 := Aside0.mk hy572; clear hy572; replace H := Option.bind_eq_some_iff.mp H
 obtain ⟨t575, A20, H⟩ := H
 replace H : (if t575 = 0 then (if a0_0 = 0 then (some (0, 0, (⟨#[]⟩ : ByteArray), t575)) else ((value_truth.f (a0_1 == 0)).bind fun bt576 => (some (bt576.1, bt576.2.1, bt576.2.2, 0)))) else (some (0, 0, (⟨#[]⟩ : ByteArray), t575))) = some (r1, r2, r3, r4) := H; have A2 := Aside0.mk A20; clear A20
 by_cases c3 : t575 = 0
 ·
  rw [if_pos c3] at H
  have c3b0 : (t575 == 0) = true := beq_iff_eq.mpr c3; have c3b1 : (t575 != 0) = false := bne_eq_false_iff_eq.mpr c3; clear c3
  by_cases c4 : a0_0 = 0
  ·
   rw [if_pos c4] at H
   have c4b0 : (a0_0 == 0) = true := beq_iff_eq.mpr c4; have c4b1 : (a0_0 != 0) = false := bne_eq_false_iff_eq.mpr c4; clear c4
   simp only [Option.some.injEq, Prod.mk.injEq] at H
   obtain ⟨rfl, rfl, rfl, rfl⟩ := H
   go_enter Tryd.func32, Tryd.ntmps32
   go_wp2_with (first | ((with_reducible refine gate_dst (N := 1) rfl ?_); refine box_event ?hg (N := 1) ?hd (cs := #[.int .i64 a0_0, .int .i64 a0_1, .string a0_2]) (t := 23) ?hr ?_; (case hd => rfl); (case hg => rfl); (case hr => first | (go_simp; done) | (go_simp; rfl)); intro gb570 hg w5 hbox hb; have BK570 := Aside0.mk (hbox); have GW570 := bz hg; have GE570 := bz hg; replace HB := bs hb; clear hb hbox hg) | ((with_reducible refine gate_dst (N := 2) rfl ?_); refine box_event ?hg (N := 2) ?hd (cs := #[.int .i64 0, .int .i64 0, .string (⟨#[]⟩ : ByteArray)]) (t := 23) ?hr ?_; (case hd => rfl); (case hg => rfl); (case hr => first | (go_simp; done) | (go_simp; rfl)); intro gb571 hg w6 hbox hb; have BK571 := Aside0.mk (hbox); have GW571 := bz hg; have GE571 := bz hg; have NB570_571 := bl BK570 hg; have NB571_570 := bg BK570 hg; replace BK570 := bb BK570 hb; replace HB := bs hb; clear hb hbox hg; have hnb7 := NB570_571.out; have hnc7 := NB571_570.out; have hcz8_0 : w6.cell? ⟨gb570, 0, none⟩ = some (.int .i64 a0_0) := (blk_cell BK570.out 0).trans rfl; have hcz8_1 : w6.cell? ⟨gb570, 1, none⟩ = some (.int .i64 a0_1) := (blk_cell BK570.out 1).trans rfl; have hcz8_2 : w6.cell? ⟨gb570, 2, none⟩ = some (.string a0_2) := (blk_cell BK570.out 2).trans rfl; have hfz8_0 := blk_frozen BK570.out 0; have hfz8_1 := blk_frozen BK570.out 1; have hfz8_2 := blk_frozen BK570.out 2) | ((with_reducible refine gate_dst (N := 6) rfl ?_); refine Kd.R_lit k23 _ 23 ?hg (N := 6) ?hd (xs := ([(⟨a0_0, a0_1, a0_2⟩ : S23)] : List (S23))) (inner := [.int .i64 a0_0, .int .i64 a0_1, .string a0_2]) (ok := fun _ => True) (okp := fun _ => True) ?hr ?hp (fun _ hk => hk) trivial (Below.refl _ _) (Nat.le_refl _) (by simp) ?_; (case hd => rfl); (case hg => rfl); (case hr => first | (go_simp; done) | (go_simp; rfl)); (case hp => exact (Reps.c3 (show Kd.M k23 _ _ _ (⟨a0_0, a0_1, a0_2⟩ : S23) [.int .i64 a0_0, .int .i64 a0_1, .string a0_2] from (k23_mkM _ _ _ (⟨a0_0, a0_1, a0_2⟩ : S23) )) (Reps.none _ _))); intro v573 w9 ho10 hb hg_ hnew_; clear hg_ hnew_; (first | rw [← Ny572.out] at ho10 | (simp only [Int.reduceToNat] at ho10; rw [← Ny572.out] at ho10)); have HO574 := Aside0.mk (Kd.R_lower (Kd.R_newB (Kd.R_newB ho10 (g := gb570) (o := .cells #[.int .i64 a0_0, .int .i64 a0_1, .string a0_2] 23 (0, 0)) (by (with_reducible repeat (first | refine blk_drewN ?_ _ | refine blk_drew ?_ | refine blk_alloc ?_ _)); exact BK570.out)) (g := gb571) (o := .cells #[.int .i64 0, .int .i64 0, .string (⟨#[]⟩ : ByteArray)] 23 (0, 0)) (by (with_reducible repeat (first | refine blk_drewN ?_ _ | refine blk_drew ?_ | refine blk_alloc ?_ _)); exact BK571.out)) (below_size bel)); replace BK570 := bb BK570 hb; replace BK571 := bb BK571 hb; replace HB := bs hb; clear hb ho10; obtain ⟨Ao11, co11, eo11⟩ := Kd.R_slice HO574.out; subst eo11) | ((with_reducible refine gate_callee (f := 44) rfl ?_); refine gL (some 7) Tryd.func44 #[.int .i64 2, .slice Ao11 y572.length co11] ?_; (with_reducible refine (value_all.calls k 2 _ _ y572 t575 _ ?side1 ?side2 A2.out).mono ?_); (case side1 => repeat (first | exact (Kd.R_reads' HO574.out).2.2 | (with_reducible refine Kd.C_alloc ?_ _) | (with_reducible refine Kd.C_drewN ?_ _) | (with_reducible refine Kd.C_drew ?_))); (case side2 => exact (Kd.R_reads' HO574.out).2.1); rintro e w12 ⟨rfl, hb⟩; refine ⟨_, rfl, ?_⟩; replace HO574 := Aside0.mk (Kd.R_below (by (with_reducible repeat (first | apply Kd.R_alloc | apply Kd.R_drewN | apply Kd.R_drew)); exact HO574.out) hb); replace BK570 := bb BK570 hb; replace BK571 := bb BK571 hb; replace HB := bs hb; (try clear hb); (try clear hb2); (try clear hk); (try clear hi); have hcz13_0 : w12.cell? ⟨gb570, 0, none⟩ = some (.int .i64 a0_0) := (blk_cell BK570.out 0).trans rfl; have hcz13_1 : w12.cell? ⟨gb570, 1, none⟩ = some (.int .i64 a0_1) := (blk_cell BK570.out 1).trans rfl; have hcz13_2 : w12.cell? ⟨gb570, 2, none⟩ = some (.string a0_2) := (blk_cell BK570.out 2).trans rfl; have hfz13_0 := blk_frozen BK570.out 0; have hfz13_1 := blk_frozen BK570.out 1; have hfz13_2 := blk_frozen BK570.out 2; have hcz14_0 : w12.cell? ⟨gb571, 0, none⟩ = some (.int .i64 0) := (blk_cell BK571.out 0).trans rfl; have hcz14_1 : w12.cell? ⟨gb571, 1, none⟩ = some (.int .i64 0) := (blk_cell BK571.out 1).trans rfl; have hcz14_2 : w12.cell? ⟨gb571, 2, none⟩ = some (.string (⟨#[]⟩ : ByteArray)) := (blk_cell BK571.out 2).trans rfl; have hfz14_0 := blk_frozen BK571.out 0; have hfz14_1 := blk_frozen BK571.out 1; have hfz14_2 := blk_frozen BK571.out 2) | ((with_reducible refine gate_store (t := 23) (p := 2) rfl ?_); refine store_event (t := 23) (p := 2) (v := ?vo_w15) (w1 := (((w12.setCell ⟨gb571, 0, none⟩ (.int .i64 0)).setCell ⟨gb571, 1, none⟩ (.int .i64 0)).setCell ⟨gb571, 2, none⟩ (.string (⟨#[]⟩ : ByteArray)))) ?hg ?ho ?hn ?hr ?_; (case ho => rfl); (case hg => rfl); (case hn => rfl); (case hr => first | (go_simp; done) | (go_simp; rfl)); intro w15 hw; replace HO574 : Aside0 (Kd.R k23 23 w15 w.heap.size (fun k_ => k_ ≠ gb570 ∧ k_ ≠ gb571) (.slice Ao11 y572.length co11) y572) := ⟨(by rw [hw]; exact (by (with_reducible repeat (first | apply Kd.R_alloc | apply Kd.R_drewN | apply Kd.R_drew)); exact Kd.R_mono (Kd.R_far (p := ⟨gb571, 2, none⟩) (Kd.R_far (p := ⟨gb571, 1, none⟩) (Kd.R_far (p := ⟨gb571, 0, none⟩) (Kd.R_mono HO574.out (fun k_ hk => (⟨hk, hk.2⟩ : _ ∧ k_ ≠ gb571))) (fun _ hk => hk.2) (.int .i64 0)) (fun _ hk => hk.2) (.int .i64 0)) (fun _ hk => hk.2) (.string (⟨#[]⟩ : ByteArray))) (fun _ hk => ⟨hk.1.1.2, hk.1.2⟩)))⟩; replace BK570 := bw BK570 hw; replace BK571 : Aside0 (w15.heap[gb571]? = some (.cells #[.int .i64 0, .int .i64 0, .string (⟨#[]⟩ : ByteArray)] 23 (0, 0))) := bp BK571 hw; replace HB := bv hw; clear hw))
   refine bodyPost_ret (results_ct rfl _ _ gb571 23 #[.int .i64 0, .int .i64 0, .string (⟨#[]⟩ : ByteArray)] (0, 0) _ rfl (by (with_reducible repeat (first | refine blk_drewN ?_ _ | refine blk_drew ?_ | refine blk_alloc ?_ _)); exact BK571.out) Tryd.underlying23 rfl (by kernel_rfl)) rfl ?_
   exact ⟨by first | (simp only [ByteArray.size_extract, Nat.min_self]; rfl) | rfl | (simp [errW_none, errW_some] <;> rfl) | (simp [*, errW_none, errW_some] <;> rfl), by repeat (first | (with_reducible first | exact HB.out | apply below_alloc | apply pw_below_drewN | apply below_drew1 | refine below_set ?_ GE570.out | refine below_set ?_ GE571.out) | exact HB.out)⟩
  ·
   rw [if_neg c4] at H
   have c4b0 : (a0_0 == 0) = false := beq_eq_false_iff_ne.mpr c4; have c4b1 : (a0_0 != 0) = true := bne_iff_ne.mpr c4; replace H := Option.bind_eq_some_iff.mp H
   obtain ⟨⟨t576, t577, t578⟩, A160, H⟩ := H
   replace H : (some (t576, t577, t578, 0)) = some (r1, r2, r3, r4) := H; have A16 := Aside0.mk A160; clear A160
   simp only [Option.some.injEq, Prod.mk.injEq] at H
   obtain ⟨rfl, rfl, rfl, rfl⟩ := H
   go_enter Tryd.func32, Tryd.ntmps32
   go_wp2_with (first | ((with_reducible refine gate_dst (N := 1) rfl ?_); refine box_event ?hg (N := 1) ?hd (cs := #[.int .i64 a0_0, .int .i64 a0_1, .string a0_2]) (t := 23) ?hr ?_; (case hd => rfl); (case hg => rfl); (case hr => first | (go_simp; done) | (go_simp; rfl)); intro gb570 hg w17 hbox hb; have BK570 := Aside0.mk (hbox); have GW570 := bz hg; have GE570 := bz hg; replace HB := bs hb; clear hb hbox hg) | ((with_reducible refine gate_dst (N := 2) rfl ?_); refine box_event ?hg (N := 2) ?hd (cs := #[.int .i64 0, .int .i64 0, .string (⟨#[]⟩ : ByteArray)]) (t := 23) ?hr ?_; (case hd => rfl); (case hg => rfl); (case hr => first | (go_simp; done) | (go_simp; rfl)); intro gb571 hg w18 hbox hb; have BK571 := Aside0.mk (hbox); have GW571 := bz hg; have GE571 := bz hg; have NB570_571 := bl BK570 hg; have NB571_570 := bg BK570 hg; replace BK570 := bb BK570 hb; replace HB := bs hb; clear hb hbox hg; have hnb19 := NB570_571.out; have hnc19 := NB571_570.out; have hcz20_0 : w18.cell? ⟨gb570, 0, none⟩ = some (.int .i64 a0_0) := (blk_cell BK570.out 0).trans rfl; have hcz20_1 : w18.cell? ⟨gb570, 1, none⟩ = some (.int .i64 a0_1) := (blk_cell BK570.out 1).trans rfl; have hcz20_2 : w18.cell? ⟨gb570, 2, none⟩ = some (.string a0_2) := (blk_cell BK570.out 2).trans rfl; have hfz20_0 := blk_frozen BK570.out 0; have hfz20_1 := blk_frozen BK570.out 1; have hfz20_2 := blk_frozen BK570.out 2) | ((with_reducible refine gate_dst (N := 6) rfl ?_); refine Kd.R_lit k23 _ 23 ?hg (N := 6) ?hd (xs := ([(⟨a0_0, a0_1, a0_2⟩ : S23)] : List (S23))) (inner := [.int .i64 a0_0, .int .i64 a0_1, .string a0_2]) (ok := fun _ => True) (okp := fun _ => True) ?hr ?hp (fun _ hk => hk) trivial (Below.refl _ _) (Nat.le_refl _) (by simp) ?_; (case hd => rfl); (case hg => rfl); (case hr => first | (go_simp; done) | (go_simp; rfl)); (case hp => exact (Reps.c3 (show Kd.M k23 _ _ _ (⟨a0_0, a0_1, a0_2⟩ : S23) [.int .i64 a0_0, .int .i64 a0_1, .string a0_2] from (k23_mkM _ _ _ (⟨a0_0, a0_1, a0_2⟩ : S23) )) (Reps.none _ _))); intro v573 w21 ho22 hb hg_ hnew_; clear hg_ hnew_; (first | rw [← Ny572.out] at ho22 | (simp only [Int.reduceToNat] at ho22; rw [← Ny572.out] at ho22)); have HO574 := Aside0.mk (Kd.R_lower (Kd.R_newB (Kd.R_newB ho22 (g := gb570) (o := .cells #[.int .i64 a0_0, .int .i64 a0_1, .string a0_2] 23 (0, 0)) (by (with_reducible repeat (first | refine blk_drewN ?_ _ | refine blk_drew ?_ | refine blk_alloc ?_ _)); exact BK570.out)) (g := gb571) (o := .cells #[.int .i64 0, .int .i64 0, .string (⟨#[]⟩ : ByteArray)] 23 (0, 0)) (by (with_reducible repeat (first | refine blk_drewN ?_ _ | refine blk_drew ?_ | refine blk_alloc ?_ _)); exact BK571.out)) (below_size bel)); replace BK570 := bb BK570 hb; replace BK571 := bb BK571 hb; replace HB := bs hb; clear hb ho22; obtain ⟨Ao23, co23, eo23⟩ := Kd.R_slice HO574.out; subst eo23) | ((with_reducible refine gate_callee (f := 44) rfl ?_); refine gL (some 7) Tryd.func44 #[.int .i64 2, .slice Ao23 y572.length co23] ?_; (with_reducible refine (value_all.calls k 2 _ _ y572 t575 _ ?side1 ?side2 A2.out).mono ?_); (case side1 => repeat (first | exact (Kd.R_reads' HO574.out).2.2 | (with_reducible refine Kd.C_alloc ?_ _) | (with_reducible refine Kd.C_drewN ?_ _) | (with_reducible refine Kd.C_drew ?_))); (case side2 => exact (Kd.R_reads' HO574.out).2.1); rintro e w24 ⟨rfl, hb⟩; refine ⟨_, rfl, ?_⟩; replace HO574 := Aside0.mk (Kd.R_below (by (with_reducible repeat (first | apply Kd.R_alloc | apply Kd.R_drewN | apply Kd.R_drew)); exact HO574.out) hb); replace BK570 := bb BK570 hb; replace BK571 := bb BK571 hb; replace HB := bs hb; (try clear hb); (try clear hb2); (try clear hk); (try clear hi); have hcz25_0 : w24.cell? ⟨gb570, 0, none⟩ = some (.int .i64 a0_0) := (blk_cell BK570.out 0).trans rfl; have hcz25_1 : w24.cell? ⟨gb570, 1, none⟩ = some (.int .i64 a0_1) := (blk_cell BK570.out 1).trans rfl; have hcz25_2 : w24.cell? ⟨gb570, 2, none⟩ = some (.string a0_2) := (blk_cell BK570.out 2).trans rfl; have hfz25_0 := blk_frozen BK570.out 0; have hfz25_1 := blk_frozen BK570.out 1; have hfz25_2 := blk_frozen BK570.out 2) | ((with_reducible refine gate_callee (f := 42) rfl ?_); refine gL (some 20) Tryd.func42 #[.bool (a0_1 == 0)] ?_; (with_reducible refine (value_truth.calls (a0_1 == 0) t576 t577 t578 _ A16.out).mono ?_); rintro e w26 ⟨rfl, hb⟩; refine ⟨_, rfl, ?_⟩; replace HO574 := Aside0.mk (Kd.R_below (by (with_reducible repeat (first | apply Kd.R_alloc | apply Kd.R_drewN | apply Kd.R_drew)); exact HO574.out) hb); replace BK570 := bb BK570 hb; replace BK571 := bb BK571 hb; replace HB := bs hb; (try clear hb); (try clear hb2); (try clear hk); (try clear hi); have hcz27_0 : w26.cell? ⟨gb571, 0, none⟩ = some (.int .i64 0) := (blk_cell BK571.out 0).trans rfl; have hcz27_1 : w26.cell? ⟨gb571, 1, none⟩ = some (.int .i64 0) := (blk_cell BK571.out 1).trans rfl; have hcz27_2 : w26.cell? ⟨gb571, 2, none⟩ = some (.string (⟨#[]⟩ : ByteArray)) := (blk_cell BK571.out 2).trans rfl; have hfz27_0 := blk_frozen BK571.out 0; have hfz27_1 := blk_frozen BK571.out 1; have hfz27_2 := blk_frozen BK571.out 2) | ((with_reducible refine gate_store (t := 23) (p := 2) rfl ?_); refine store_event (t := 23) (p := 2) (v := ?vo_w28) (w1 := (((w26.setCell ⟨gb571, 0, none⟩ (.int .i64 t576)).setCell ⟨gb571, 1, none⟩ (.int .i64 t577)).setCell ⟨gb571, 2, none⟩ (.string t578))) ?hg ?ho ?hn ?hr ?_; (case ho => rfl); (case hg => rfl); (case hn => rfl); (case hr => first | (go_simp; done) | (go_simp; rfl)); intro w28 hw; replace HO574 : Aside0 (Kd.R k23 23 w28 w.heap.size (fun k_ => k_ ≠ gb570 ∧ k_ ≠ gb571) (.slice Ao23 y572.length co23) y572) := ⟨(by rw [hw]; exact (by (with_reducible repeat (first | apply Kd.R_alloc | apply Kd.R_drewN | apply Kd.R_drew)); exact Kd.R_mono (Kd.R_far (p := ⟨gb571, 2, none⟩) (Kd.R_far (p := ⟨gb571, 1, none⟩) (Kd.R_far (p := ⟨gb571, 0, none⟩) (Kd.R_mono HO574.out (fun k_ hk => (⟨hk, hk.2⟩ : _ ∧ k_ ≠ gb571))) (fun _ hk => hk.2) (.int .i64 t576)) (fun _ hk => hk.2) (.int .i64 t577)) (fun _ hk => hk.2) (.string t578)) (fun _ hk => ⟨hk.1.1.2, hk.1.2⟩)))⟩; replace BK570 := bw BK570 hw; replace BK571 : Aside0 (w28.heap[gb571]? = some (.cells #[.int .i64 t576, .int .i64 t577, .string t578] 23 (0, 0))) := bp BK571 hw; replace HB := bv hw; clear hw))
   refine bodyPost_ret (results_ct rfl _ _ gb571 23 #[.int .i64 t576, .int .i64 t577, .string t578] (0, 0) _ rfl (by (with_reducible repeat (first | refine blk_drewN ?_ _ | refine blk_drew ?_ | refine blk_alloc ?_ _)); exact BK571.out) Tryd.underlying23 rfl (by kernel_rfl)) rfl ?_
   exact ⟨by first | (simp only [ByteArray.size_extract, Nat.min_self]; rfl) | rfl | (simp [errW_none, errW_some] <;> rfl) | (simp [*, errW_none, errW_some] <;> rfl), by repeat (first | (with_reducible first | exact HB.out | apply below_alloc | apply pw_below_drewN | apply below_drew1 | refine below_set ?_ GE570.out | refine below_set ?_ GE571.out) | exact HB.out)⟩
 ·
  rw [if_neg c3] at H
  have c3b0 : (t575 == 0) = false := beq_eq_false_iff_ne.mpr c3; have c3b1 : (t575 != 0) = true := bne_iff_ne.mpr c3
  simp only [Option.some.injEq, Prod.mk.injEq] at H
  obtain ⟨rfl, rfl, rfl, rfl⟩ := H
  go_enter Tryd.func32, Tryd.ntmps32
  go_wp2_with (first | ((with_reducible refine gate_dst (N := 1) rfl ?_); refine box_event ?hg (N := 1) ?hd (cs := #[.int .i64 a0_0, .int .i64 a0_1, .string a0_2]) (t := 23) ?hr ?_; (case hd => rfl); (case hg => rfl); (case hr => first | (go_simp; done) | (go_simp; rfl)); intro gb570 hg w29 hbox hb; have BK570 := Aside0.mk (hbox); have GW570 := bz hg; have GE570 := bz hg; replace HB := bs hb; clear hb hbox hg) | ((with_reducible refine gate_dst (N := 2) rfl ?_); refine box_event ?hg (N := 2) ?hd (cs := #[.int .i64 0, .int .i64 0, .string (⟨#[]⟩ : ByteArray)]) (t := 23) ?hr ?_; (case hd => rfl); (case hg => rfl); (case hr => first | (go_simp; done) | (go_simp; rfl)); intro gb571 hg w30 hbox hb; have BK571 := Aside0.mk (hbox); have GW571 := bz hg; have GE571 := bz hg; have NB570_571 := bl BK570 hg; have NB571_570 := bg BK570 hg; replace BK570 := bb BK570 hb; replace HB := bs hb; clear hb hbox hg; have hnb31 := NB570_571.out; have hnc31 := NB571_570.out; have hcz32_0 : w30.cell? ⟨gb570, 0, none⟩ = some (.int .i64 a0_0) := (blk_cell BK570.out 0).trans rfl; have hcz32_1 : w30.cell? ⟨gb570, 1, none⟩ = some (.int .i64 a0_1) := (blk_cell BK570.out 1).trans rfl; have hcz32_2 : w30.cell? ⟨gb570, 2, none⟩ = some (.string a0_2) := (blk_cell BK570.out 2).trans rfl; have hfz32_0 := blk_frozen BK570.out 0; have hfz32_1 := blk_frozen BK570.out 1; have hfz32_2 := blk_frozen BK570.out 2) | ((with_reducible refine gate_dst (N := 6) rfl ?_); refine Kd.R_lit k23 _ 23 ?hg (N := 6) ?hd (xs := ([(⟨a0_0, a0_1, a0_2⟩ : S23)] : List (S23))) (inner := [.int .i64 a0_0, .int .i64 a0_1, .string a0_2]) (ok := fun _ => True) (okp := fun _ => True) ?hr ?hp (fun _ hk => hk) trivial (Below.refl _ _) (Nat.le_refl _) (by simp) ?_; (case hd => rfl); (case hg => rfl); (case hr => first | (go_simp; done) | (go_simp; rfl)); (case hp => exact (Reps.c3 (show Kd.M k23 _ _ _ (⟨a0_0, a0_1, a0_2⟩ : S23) [.int .i64 a0_0, .int .i64 a0_1, .string a0_2] from (k23_mkM _ _ _ (⟨a0_0, a0_1, a0_2⟩ : S23) )) (Reps.none _ _))); intro v573 w33 ho34 hb hg_ hnew_; clear hg_ hnew_; (first | rw [← Ny572.out] at ho34 | (simp only [Int.reduceToNat] at ho34; rw [← Ny572.out] at ho34)); have HO574 := Aside0.mk (Kd.R_lower (Kd.R_newB (Kd.R_newB ho34 (g := gb570) (o := .cells #[.int .i64 a0_0, .int .i64 a0_1, .string a0_2] 23 (0, 0)) (by (with_reducible repeat (first | refine blk_drewN ?_ _ | refine blk_drew ?_ | refine blk_alloc ?_ _)); exact BK570.out)) (g := gb571) (o := .cells #[.int .i64 0, .int .i64 0, .string (⟨#[]⟩ : ByteArray)] 23 (0, 0)) (by (with_reducible repeat (first | refine blk_drewN ?_ _ | refine blk_drew ?_ | refine blk_alloc ?_ _)); exact BK571.out)) (below_size bel)); replace BK570 := bb BK570 hb; replace BK571 := bb BK571 hb; replace HB := bs hb; clear hb ho34; obtain ⟨Ao35, co35, eo35⟩ := Kd.R_slice HO574.out; subst eo35) | ((with_reducible refine gate_callee (f := 44) rfl ?_); refine gL (some 7) Tryd.func44 #[.int .i64 2, .slice Ao35 y572.length co35] ?_; (with_reducible refine (value_all.calls k 2 _ _ y572 t575 _ ?side1 ?side2 A2.out).mono ?_); (case side1 => repeat (first | exact (Kd.R_reads' HO574.out).2.2 | (with_reducible refine Kd.C_alloc ?_ _) | (with_reducible refine Kd.C_drewN ?_ _) | (with_reducible refine Kd.C_drew ?_))); (case side2 => exact (Kd.R_reads' HO574.out).2.1); rintro e w36 ⟨rfl, hb⟩; refine ⟨_, rfl, ?_⟩; replace HO574 := Aside0.mk (Kd.R_below (by (with_reducible repeat (first | apply Kd.R_alloc | apply Kd.R_drewN | apply Kd.R_drew)); exact HO574.out) hb); replace BK570 := bb BK570 hb; replace BK571 := bb BK571 hb; replace HB := bs hb; (try clear hb); (try clear hb2); (try clear hk); (try clear hi); have hcz37_0 : w36.cell? ⟨gb571, 0, none⟩ = some (.int .i64 0) := (blk_cell BK571.out 0).trans rfl; have hcz37_1 : w36.cell? ⟨gb571, 1, none⟩ = some (.int .i64 0) := (blk_cell BK571.out 1).trans rfl; have hcz37_2 : w36.cell? ⟨gb571, 2, none⟩ = some (.string (⟨#[]⟩ : ByteArray)) := (blk_cell BK571.out 2).trans rfl; have hfz37_0 := blk_frozen BK571.out 0; have hfz37_1 := blk_frozen BK571.out 1; have hfz37_2 := blk_frozen BK571.out 2) | ((with_reducible refine gate_store (t := 23) (p := 2) rfl ?_); refine store_event (t := 23) (p := 2) (v := ?vo_w38) (w1 := (((w36.setCell ⟨gb571, 0, none⟩ (.int .i64 0)).setCell ⟨gb571, 1, none⟩ (.int .i64 0)).setCell ⟨gb571, 2, none⟩ (.string (⟨#[]⟩ : ByteArray)))) ?hg ?ho ?hn ?hr ?_; (case ho => rfl); (case hg => rfl); (case hn => rfl); (case hr => first | (go_simp; done) | (go_simp; rfl)); intro w38 hw; replace HO574 : Aside0 (Kd.R k23 23 w38 w.heap.size (fun k_ => k_ ≠ gb570 ∧ k_ ≠ gb571) (.slice Ao35 y572.length co35) y572) := ⟨(by rw [hw]; exact (by (with_reducible repeat (first | apply Kd.R_alloc | apply Kd.R_drewN | apply Kd.R_drew)); exact Kd.R_mono (Kd.R_far (p := ⟨gb571, 2, none⟩) (Kd.R_far (p := ⟨gb571, 1, none⟩) (Kd.R_far (p := ⟨gb571, 0, none⟩) (Kd.R_mono HO574.out (fun k_ hk => (⟨hk, hk.2⟩ : _ ∧ k_ ≠ gb571))) (fun _ hk => hk.2) (.int .i64 0)) (fun _ hk => hk.2) (.int .i64 0)) (fun _ hk => hk.2) (.string (⟨#[]⟩ : ByteArray))) (fun _ hk => ⟨hk.1.1.2, hk.1.2⟩)))⟩; replace BK570 := bw BK570 hw; replace BK571 : Aside0 (w38.heap[gb571]? = some (.cells #[.int .i64 0, .int .i64 0, .string (⟨#[]⟩ : ByteArray)] 23 (0, 0))) := bp BK571 hw; replace HB := bv hw; clear hw))
  refine bodyPost_ret (results_ct rfl _ _ gb571 23 #[.int .i64 0, .int .i64 0, .string (⟨#[]⟩ : ByteArray)] (0, 0) _ rfl (by (with_reducible repeat (first | refine blk_drewN ?_ _ | refine blk_drew ?_ | refine blk_alloc ?_ _)); exact BK571.out) Tryd.underlying23 rfl (by kernel_rfl)) rfl ?_
  exact ⟨by first | (simp only [ByteArray.size_extract, Nat.min_self]; rfl) | rfl | (simp [errW_none, errW_some] <;> rfl) | (simp [*, errW_none, errW_some] <;> rfl), by repeat (first | (with_reducible first | exact HB.out | apply below_alloc | apply pw_below_drewN | apply below_drew1 | refine below_set ?_ GE570.out | refine below_set ?_ GE571.out) | exact HB.out)⟩
end Go.Proofs.YteehcopkljiikaaDoor.PA
end
section
namespace Go.Proofs.YteehcopkljiikaaDoor.PA
open Go.RowKit Go.Proofs.YteehcopkljiikaaDoorW.PrintWords Go.Proofs.YteehcopkljiikaaDoorW.PrintLast Go.Proofs.YteehcopkljiikaaDoorW.PrintMore Go.Proofs.YteehcopkljiikaaDoorX
attribute [local go_sem] max2_int min2_int max_two min_two max_three min_three max_four min_four   -- for this text's walks alone
set_option linter.unusedVariables false
set_option linter.unusedSimpArgs false

/-! ### unisonlaw01_turned: function 24 -/
def unisonlaw01_turned.l0 : Nat → List (S23) → List (S23) → Int → Option ((List (S23)))
 | 0, _, _, _ => none
 | k + 1, x0, x3, x4 => if x4 ≥ 0 then (if 0 ≤ x4 then (if x4 < (x0.length : Int) then (if x3.length < 4398046511104 then (unisonlaw01_turned.l0 k x0 (x3 ++ [(⟨(rd_T23 x0 x4).f0, (rd_T23 x0 x4).f1, (rd_T23 x0 x4).f2⟩ : S23)]) (wrap64 (x4 - 1))) else (none)) else (none)) else (none)) else (if (x0.length : Int) > 0 then (if 0 < (x0.length : Int) then (if x3.length < 4398046511104 then (some (x3 ++ [(⟨(rd_T23 x0 0).f0, (rd_T23 x0 0).f1, (rd_T23 x0 0).f2⟩ : S23)])) else (none)) else (none)) else (some x3))
def unisonlaw01_turned.f (k : Nat) (l0 : List (S23)) : Option ((List (S23))) := unisonlaw01_turned.l0 k l0 ([] : List (S23)) (wrap64 ((l0.length : Int) - 1))
theorem unisonlaw01_turned.mono_l : ∀ k, (∀ y0 y1 y2, LeO (unisonlaw01_turned.l0 k y0 y1 y2) (unisonlaw01_turned.l0 (k + 1) y0 y1 y2))
 | 0 => fun _ _ _ r h => by simp [unisonlaw01_turned.l0] at h
 | k + 1 => by
  have ih0 := unisonlaw01_turned.mono_l k
  ·
   intro y0 y1 y2
   unfold unisonlaw01_turned.l0
   repeat' first
   | (with_reducible exact ih0 _ _ _)
   | (with_reducible exact LeO.refl _)
   | (with_reducible exact LeO.none _)
   | (with_reducible refine LeO.ite ?_ ?_)
   | (with_reducible refine LeO.bind ?_ (fun _ => ?_))
   | exact ih0 _ _ _
   | exact LeO.none _
   | refine LeO.ite ?_ ?_
   | refine LeO.bind ?_ (fun _ => ?_)
theorem unisonlaw01_turned.mono : ∀ a0 k, LeO (unisonlaw01_turned.f k a0) (unisonlaw01_turned.f (k + 1) a0) := by
 intro a0 k
 have ih0 := unisonlaw01_turned.mono_l k
 unfold unisonlaw01_turned.f
 repeat' first
   | (with_reducible exact ih0 _ _ _)
   | (with_reducible exact LeO.refl _)
   | (with_reducible exact LeO.none _)
   | (with_reducible refine LeO.ite ?_ ?_)
   | (with_reducible refine LeO.bind ?_ (fun _ => ?_))
   | exact ih0 _ _ _
   | exact LeO.none _
   | refine LeO.ite ?_ ?_
   | refine LeO.bind ?_ (fun _ => ?_)
set_option maxHeartbeats 8000000 in
set_option maxRecDepth 100000 in
theorem unisonlaw01_turned.calls (k : Nat) (A0 : Option Addr) (c0 : Nat) (l0 : List (S23)) (r : List (S23)) (w : World) (hr0 : Kd.C k23 w A0 l0.length l0) (hc0 : l0.length ≤ c0) (h : unisonlaw01_turned.f k l0 = some r) :
  Calls Tryd.prog 24 #[.slice A0 l0.length c0] w fun e w' => ∃ v0_ : Value, e = .returned (v0_) ∧ Kd.R k23 23 w' w.heap.size (fun _ => True) v0_ r ∧ Below w.heap.size w w' := by
 have hu23 := Tryd.underlying23; have HR0 := Aside0.mk hr0; have HC0 := Aside0.mk hc0; clear hr0 hc0; have HB := Aside0.mk (Below.refl w.heap.size w); have H : (unisonlaw01_turned.l0 k l0 ([] : List (S23)) (wrap64 ((l0.length : Int) - 1))) = some r := h; clear h
 have H' := Aside0.mk H
 clear H
 go_enter Tryd.func24, Tryd.ntmps24
 go_wp2
 go_loopg [3, 4] k (fun kq v3 v4 w' => ∃ (x3_1 : List (S23)) (x4_1 : Int), v4 = .int .i64 x4_1 ∧ Aside0 (unisonlaw01_turned.l0 kq l0 x3_1 x4_1 = some r) ∧ Aside0 (kq ≤ k) ∧ Aside0 (Kd.R k23 23 w' w.heap.size (fun _ => True) v3 x3_1) ∧ Aside0 (Below w.heap.size w w'))
 case atStart => exact ⟨(([] : List (S23))), (wrap64 ((l0.length : Int) - 1)), (by first | rfl | (simp; done) | (simp [*]; done)), H', ⟨Nat.le_refl _⟩, ⟨by first | exact Kd.R_nil _ _ _ _ _ | exact Kd.N_nil _ _ _ _ _ | exact Kd.V_nil _ _ _ _ _ | exact Kd.Q_nil _ _ _ _ _ | exact Kd.S_nil _ _ _ _ _⟩, ⟨by repeat (first | (with_reducible first | exact HB.out | apply below_alloc | apply pw_below_drewN | apply below_drew1) | exact HB.out)⟩⟩
 case round =>
  clear H'
  obtain ⟨x3_1, x4_1, rfl, HA, HK1, HO_3, HB⟩ := hrel
  cases gk with
  | zero => exact absurd HA.out (by simp [unisonlaw01_turned.l0])
  | succ k1 =>
   have H := HA.out; clear HA
   simp only [unisonlaw01_turned.l0] at H
   by_cases c2 : x4_1 ≥ 0
   ·
    rw [if_pos c2] at H
    have c2b0 : decide (0 ≤ x4_1) = true := decide_eq_true c2; clear c2
    by_cases c3 : 0 ≤ x4_1
    ·
     rw [if_pos c3] at H
     have c3b0 : decide (0 ≤ x4_1) = true := decide_eq_true c3; clear c3
     by_cases c4 : x4_1 < (l0.length : Int)
     ·
      rw [if_pos c4] at H
      have c4b0 : decide (x4_1 < (l0.length : Int)) = true := decide_eq_true c4; clear c4
      by_cases c5 : x3_1.length < 4398046511104
      ·
       rw [if_pos c5] at H
       have LMc5 := Aside0.mk c5; clear c5
       obtain ⟨y394, hy394⟩ : ∃ y_ : List (S23), y_ = (x3_1 ++ [(⟨(rd_T23 l0 x4_1).f0, (rd_T23 l0 x4_1).f1, (rd_T23 l0 x4_1).f2⟩ : S23)]) := ⟨_, rfl⟩
       replace H : (unisonlaw01_turned.l0 k1 l0 y394 (wrap64 (x4_1 - 1))) = some r := by first | (rw [hy394]; with_reducible exact H) | (have H2_ := (Option.bind_some _ _).symm.trans H; rw [hy394]; with_reducible exact H2_) | (have H2_ := (Option.bind_some _ _).symm.trans H; with_reducible exact H2_) | with_reducible exact H | (rw [hy394]; exact H) | exact H
       have Ny394 := Aside0.mk hy394; clear hy394
       have H' := Aside0.mk H
       clear H; have p393 : 0 ≤ (x4_1 : Int) := of_decide_eq_true (by first | (with_reducible assumption) | assumption); have q393 : x4_1 < (l0.length : Int) := of_decide_eq_true (by first | (with_reducible assumption) | assumption)
       obtain ⟨ad393, e393, hx393_0, hx393_1, hx393_2⟩ := at_T23 HR0.out x4_1 p393 q393
       cases e393
       replace hx393_0 := (HB.out.cell (World.block_lt_of_cell? w _ hx393_0)).trans hx393_0; replace hx393_1 := (HB.out.cell (World.block_lt_of_cell? w _ hx393_1)).trans hx393_1; replace hx393_2 := (HB.out.cell (World.block_lt_of_cell? w _ hx393_2)).trans hx393_2; replace p393 := eq_true p393; replace q393 := eq_true q393
       go_wp2_with (first | ((with_reducible refine gate_builtin (b := .append) (xs := #[.tmp 12, .tmp 17]) rfl ?_); at_builtin; refine Kd.R_append k23 (w0 := w) w.heap.size rfl (.tmp 12) (.tmp 17) 31 23 (.agg #[(.int .i64 0), (.int .i64 0), (.string ⟨#[]⟩)]) 32 rfl Tryd.underlying31 info23 rfl (by decide) (by omega) u3 x3_1 (⟨(rd_T23 l0 x4_1).f0, (rd_T23 l0 x4_1).f1, (rd_T23 l0 x4_1).f2⟩ : S23) [.int .i64 ((rd_T23 l0 x4_1).f0), .int .i64 ((rd_T23 l0 x4_1).f1), .string ((rd_T23 l0 x4_1).f2)] (fun _ => True) (fun _ => False) rfl rfl ?aP (fun _ hk => hk.elim) ?aF ?aO ?aB ?aS ?aL ?_; (case aP => exact k23_mkM _ _ _ (⟨(rd_T23 l0 x4_1).f0, (rd_T23 l0 x4_1).f1, (rd_T23 l0 x4_1).f2⟩ : S23)); (case aB => exact bel); (case aF => exact (fun _ _ => trivial)); (case aO => exact (by (with_reducible repeat (first | apply Kd.R_alloc | apply Kd.R_drewN | apply Kd.R_drew)); exact HO_3.out)); (case aS => exact (below_size bel)); (case aL => have := LMc5.out; omega); intro v395 w6 ho hb hg hat; rw [← Ny394.out] at ho; have n0_ := Aside0.mk (hb); have n1_ := Aside0.mk (ho); clear HB; clear HO_3; have HB := n0_; have HO396 := n1_; clear n0_ n1_; clear ho hb hg hat))
       go_roundg k1
       case measure => have := HK1.out; omega
       case rel => exact ⟨(y394), (wrap64 (x4_1 - 1)), (by first | rfl | (simp; done) | (simp [*]; done)), H', ⟨by have := HK1.out; omega⟩, ⟨by (with_reducible repeat (first | apply Kd.R_alloc | apply Kd.R_drewN | apply Kd.R_drew)); exact HO396.out⟩, ⟨by repeat (first | (with_reducible first | exact HB.out | apply below_alloc | apply pw_below_drewN | apply below_drew1) | exact HB.out)⟩⟩
      ·
       rw [if_neg c5] at H
       exact absurd H (by simp)
     ·
      rw [if_neg c4] at H
      exact absurd H (by simp)
    ·
     rw [if_neg c3] at H
     exact absurd H (by simp)
   ·
    rw [if_neg c2] at H
    have c2b0 : decide (0 ≤ x4_1) = false := decide_eq_false c2; clear c2
    by_cases c7 : (l0.length : Int) > 0
    ·
     rw [if_pos c7] at H
     have c7b0 : decide (0 < (l0.length : Int)) = true := decide_eq_true c7; have c7b1 : decide (0 < l0.length) = true := decide_eq_true (by omega); clear c7
     by_cases c8 : 0 < (l0.length : Int)
     ·
      rw [if_pos c8] at H
      have c8b0 : decide (0 < (l0.length : Int)) = true := decide_eq_true c8; have c8b1 : decide (0 < l0.length) = true := decide_eq_true (by omega); clear c8
      by_cases c9 : x3_1.length < 4398046511104
      ·
       rw [if_pos c9] at H
       have LMc9 := Aside0.mk c9; clear c9
       obtain ⟨y398, hy398⟩ : ∃ y_ : List (S23), y_ = (x3_1 ++ [(⟨(rd_T23 l0 0).f0, (rd_T23 l0 0).f1, (rd_T23 l0 0).f2⟩ : S23)]) := ⟨_, rfl⟩
       replace H : (some y398) = some r := by first | (rw [hy398]; with_reducible exact H) | (have H2_ := (Option.bind_some _ _).symm.trans H; rw [hy398]; with_reducible exact H2_) | (have H2_ := (Option.bind_some _ _).symm.trans H; with_reducible exact H2_) | with_reducible exact H | (rw [hy398]; exact H) | exact H
       have Ny398 := Aside0.mk hy398; clear hy398
       obtain rfl := Option.some.inj H
       have p397 : 0 ≤ (0 : Int) := (by omega); have q397 : 0 < (l0.length : Int) := of_decide_eq_true (by first | (with_reducible assumption) | assumption)
       obtain ⟨ad397, e397, hx397_0, hx397_1, hx397_2⟩ := at_T23 HR0.out 0 p397 q397
       cases e397
       have qi397 : (0 < l0.length) = True := eq_true (by omega)
       (try rw [show ((0 : Int)).toNat = 0 from rfl] at hx397_0)
       (try rw [show 0 * 3 = 0 from rfl] at hx397_0)
       (try rw [Addr.add_zero'] at hx397_0)
       (try rw [show ((0 : Int)).toNat = 0 from rfl] at hx397_1)
       (try rw [show 0 * 3 = 0 from rfl] at hx397_1)
       (try rw [Addr.add_zero'] at hx397_1)
       (try rw [show ((0 : Int)).toNat = 0 from rfl] at hx397_2)
       (try rw [show 0 * 3 = 0 from rfl] at hx397_2)
       (try rw [Addr.add_zero'] at hx397_2)
       replace hx397_0 := (HB.out.cell (World.block_lt_of_cell? w _ hx397_0)).trans hx397_0; replace hx397_1 := (HB.out.cell (World.block_lt_of_cell? w _ hx397_1)).trans hx397_1; replace hx397_2 := (HB.out.cell (World.block_lt_of_cell? w _ hx397_2)).trans hx397_2; replace p397 := eq_true p397; replace q397 := eq_true q397
       go_wp2_with (first | ((with_reducible refine gate_builtin (b := .append) (xs := #[.tmp 22, .tmp 26]) rfl ?_); at_builtin; refine Kd.R_append k23 (w0 := w) w.heap.size rfl (.tmp 22) (.tmp 26) 31 23 (.agg #[(.int .i64 0), (.int .i64 0), (.string ⟨#[]⟩)]) 32 rfl Tryd.underlying31 info23 rfl (by decide) (by omega) u3 x3_1 (⟨(rd_T23 l0 0).f0, (rd_T23 l0 0).f1, (rd_T23 l0 0).f2⟩ : S23) [.int .i64 ((rd_T23 l0 0).f0), .int .i64 ((rd_T23 l0 0).f1), .string ((rd_T23 l0 0).f2)] (fun _ => True) (fun _ => False) rfl rfl ?aP (fun _ hk => hk.elim) ?aF ?aO ?aB ?aS ?aL ?_; (case aP => exact k23_mkM _ _ _ (⟨(rd_T23 l0 0).f0, (rd_T23 l0 0).f1, (rd_T23 l0 0).f2⟩ : S23)); (case aB => exact bel); (case aF => exact (fun _ _ => trivial)); (case aO => exact (by (with_reducible repeat (first | apply Kd.R_alloc | apply Kd.R_drewN | apply Kd.R_drew)); exact HO_3.out)); (case aS => exact (below_size bel)); (case aL => have := LMc9.out; omega); intro v399 w10 ho hb hg hat; rw [← Ny398.out] at ho; have n0_ := Aside0.mk (hb); have n1_ := Aside0.mk (ho); clear HB; clear HO_3; have HB := n0_; have HO400 := n1_; clear n0_ n1_; clear ho hb hg hat))
       go_ret
       exact ⟨_, by first | rfl | (simp [errW_none, errW_some] <;> rfl) | (simp [*, errW_none, errW_some] <;> rfl), by (with_reducible repeat (first | apply Kd.R_alloc | apply Kd.R_drewN | apply Kd.R_drew)); exact HO400.out, by repeat (first | (with_reducible first | exact HB.out | apply below_alloc | apply pw_below_drewN | apply below_drew1) | exact HB.out)⟩
      ·
       rw [if_neg c9] at H
       exact absurd H (by simp)
     ·
      rw [if_neg c8] at H
      exact absurd H (by simp)
    ·
     rw [if_neg c7] at H
     have c7b0 : decide (0 < (l0.length : Int)) = false := decide_eq_false c7; have c7b1 : decide (0 < l0.length) = false := decide_eq_false (by omega); clear c7
     obtain rfl := Option.some.inj H
     go_wp2
     go_ret
     exact ⟨_, by first | rfl | (simp [errW_none, errW_some] <;> rfl) | (simp [*, errW_none, errW_some] <;> rfl), by (with_reducible repeat (first | apply Kd.R_alloc | apply Kd.R_drewN | apply Kd.R_drew)); exact HO_3.out, by repeat (first | (with_reducible first | exact HB.out | apply below_alloc | apply pw_below_drewN | apply below_drew1) | exact HB.out)⟩
end Go.Proofs.YteehcopkljiikaaDoor.PA
end
