-- Laid by a program of ours (wip/gen/xprint.py). Not trusted: Lean checks it.
import Derived.Test.YteehcopkljiikaaDoorPAx0
import Derived.Test.YteehcopkljiikaaDoorPFRNumber
namespace Go.Proofs.YteehcopkljiikaaDoor.PA
open Go.RowKit Go.Proofs.YteehcopkljiikaaDoorW.PrintWords Go.Proofs.YteehcopkljiikaaDoorW.PrintLast Go.Proofs.YteehcopkljiikaaDoorW.PrintMore Go.Proofs.YteehcopkljiikaaDoorX
attribute [local go_sem] max2_int min2_int max_two min_two max_three min_three max_four min_four   -- for this text's walks alone
set_option linter.unusedVariables false
set_option linter.unusedSimpArgs false
/-! ### unisonref01_fits: function 48 -/
def unisonref01_fits.f (a0 : Int) : Option (Int × Int × ByteArray × Int) := if a0 < (-4611686018427387904) then (some (0, 0, (⟨#[]⟩ : ByteArray), 12)) else (if a0 > 4611686018427387904 then (some (0, 0, (⟨#[]⟩ : ByteArray), 12)) else ((unisonref01_Number.f a0).bind fun bt468 => (some (bt468.1, bt468.2.1, bt468.2.2, 0))))
set_option maxHeartbeats 8000000 in
set_option maxRecDepth 100000 in
theorem unisonref01_fits.calls (a0 : Int) (r1 : Int) (r2 : Int) (r3 : ByteArray) (r4 : Int) (w : World) (h : unisonref01_fits.f a0 = some (r1, r2, r3, r4)) :
  Calls Tryd.prog 48 #[.int .i64 a0] w fun e w' => e = .returned (.tuple #[.agg #[.int .i64 r1, .int .i64 r2, .string r3], .int .i64 r4]) ∧ Below w.heap.size w w' := by
 have hu23 := Tryd.underlying23; have HB := Aside0.mk (Below.refl w.heap.size w); have H : (if a0 < (-4611686018427387904) then (some (0, 0, (⟨#[]⟩ : ByteArray), 12)) else (if a0 > 4611686018427387904 then (some (0, 0, (⟨#[]⟩ : ByteArray), 12)) else ((unisonref01_Number.f a0).bind fun bt468 => (some (bt468.1, bt468.2.1, bt468.2.2, 0))))) = some (r1, r2, r3, r4) := h; clear h
 by_cases c2 : a0 < (-4611686018427387904)
 ·
  rw [if_pos c2] at H
  have c2b0 : decide (a0 < (-4611686018427387904)) = true := decide_eq_true c2; clear c2
  simp only [Option.some.injEq, Prod.mk.injEq] at H
  obtain ⟨rfl, rfl, rfl, rfl⟩ := H
  go_enter Tryd.func48, Tryd.ntmps48
  go_wp2_with (first | ((with_reducible refine gate_dst (N := 2) rfl ?_); refine box_event ?hg (N := 2) ?hd (cs := #[.int .i64 0, .int .i64 0, .string (⟨#[]⟩ : ByteArray)]) (t := 23) ?hr ?_; (case hd => rfl); (case hg => rfl); (case hr => first | (go_simp; done) | (go_simp; rfl)); intro gb467 hg w3 hbox hb; have BK467 := Aside0.mk (hbox); have GW467 := bz hg; have GE467 := bz hg; replace HB := bs hb; clear hb hbox hg; have hcz4_0 : w3.cell? ⟨gb467, 0, none⟩ = some (.int .i64 0) := (blk_cell BK467.out 0).trans rfl; have hcz4_1 : w3.cell? ⟨gb467, 1, none⟩ = some (.int .i64 0) := (blk_cell BK467.out 1).trans rfl; have hcz4_2 : w3.cell? ⟨gb467, 2, none⟩ = some (.string (⟨#[]⟩ : ByteArray)) := (blk_cell BK467.out 2).trans rfl; have hfz4_0 := blk_frozen BK467.out 0; have hfz4_1 := blk_frozen BK467.out 1; have hfz4_2 := blk_frozen BK467.out 2) | ((with_reducible refine gate_store (t := 23) (p := 2) rfl ?_); refine store_event (t := 23) (p := 2) (v := ?vo_w5) (w1 := (((w3.setCell ⟨gb467, 0, none⟩ (.int .i64 0)).setCell ⟨gb467, 1, none⟩ (.int .i64 0)).setCell ⟨gb467, 2, none⟩ (.string (⟨#[]⟩ : ByteArray)))) ?hg ?ho ?hn ?hr ?_; (case ho => rfl); (case hg => rfl); (case hn => rfl); (case hr => first | (go_simp; done) | (go_simp; rfl)); intro w5 hw; replace BK467 : Aside0 (w5.heap[gb467]? = some (.cells #[.int .i64 0, .int .i64 0, .string (⟨#[]⟩ : ByteArray)] 23 (0, 0))) := bp BK467 hw; replace HB := bv hw; clear hw))
  refine bodyPost_ret (results_ct rfl _ _ gb467 23 #[.int .i64 0, .int .i64 0, .string (⟨#[]⟩ : ByteArray)] (0, 0) _ rfl (by (with_reducible repeat (first | refine blk_drewN ?_ _ | refine blk_drew ?_ | refine blk_alloc ?_ _)); exact BK467.out) Tryd.underlying23 rfl (by kernel_rfl)) rfl ?_
  exact ⟨by first | (simp only [ByteArray.size_extract, Nat.min_self]; rfl) | rfl | (simp [errW_none, errW_some] <;> rfl) | (simp [*, errW_none, errW_some] <;> rfl), by repeat (first | (with_reducible first | exact HB.out | apply below_alloc | apply pw_below_drewN | apply below_drew1 | refine below_set ?_ GE467.out) | exact HB.out)⟩
 ·
  rw [if_neg c2] at H
  have c2b0 : decide (a0 < (-4611686018427387904)) = false := decide_eq_false c2; clear c2
  by_cases c6 : a0 > 4611686018427387904
  ·
   rw [if_pos c6] at H
   have c6b0 : decide (4611686018427387904 < a0) = true := decide_eq_true c6; clear c6
   simp only [Option.some.injEq, Prod.mk.injEq] at H
   obtain ⟨rfl, rfl, rfl, rfl⟩ := H
   go_enter Tryd.func48, Tryd.ntmps48
   go_wp2_with (first | ((with_reducible refine gate_dst (N := 2) rfl ?_); refine box_event ?hg (N := 2) ?hd (cs := #[.int .i64 0, .int .i64 0, .string (⟨#[]⟩ : ByteArray)]) (t := 23) ?hr ?_; (case hd => rfl); (case hg => rfl); (case hr => first | (go_simp; done) | (go_simp; rfl)); intro gb467 hg w7 hbox hb; have BK467 := Aside0.mk (hbox); have GW467 := bz hg; have GE467 := bz hg; replace HB := bs hb; clear hb hbox hg; have hcz8_0 : w7.cell? ⟨gb467, 0, none⟩ = some (.int .i64 0) := (blk_cell BK467.out 0).trans rfl; have hcz8_1 : w7.cell? ⟨gb467, 1, none⟩ = some (.int .i64 0) := (blk_cell BK467.out 1).trans rfl; have hcz8_2 : w7.cell? ⟨gb467, 2, none⟩ = some (.string (⟨#[]⟩ : ByteArray)) := (blk_cell BK467.out 2).trans rfl; have hfz8_0 := blk_frozen BK467.out 0; have hfz8_1 := blk_frozen BK467.out 1; have hfz8_2 := blk_frozen BK467.out 2) | ((with_reducible refine gate_store (t := 23) (p := 2) rfl ?_); refine store_event (t := 23) (p := 2) (v := ?vo_w9) (w1 := (((w7.setCell ⟨gb467, 0, none⟩ (.int .i64 0)).setCell ⟨gb467, 1, none⟩ (.int .i64 0)).setCell ⟨gb467, 2, none⟩ (.string (⟨#[]⟩ : ByteArray)))) ?hg ?ho ?hn ?hr ?_; (case ho => rfl); (case hg => rfl); (case hn => rfl); (case hr => first | (go_simp; done) | (go_simp; rfl)); intro w9 hw; replace BK467 : Aside0 (w9.heap[gb467]? = some (.cells #[.int .i64 0, .int .i64 0, .string (⟨#[]⟩ : ByteArray)] 23 (0, 0))) := bp BK467 hw; replace HB := bv hw; clear hw))
   refine bodyPost_ret (results_ct rfl _ _ gb467 23 #[.int .i64 0, .int .i64 0, .string (⟨#[]⟩ : ByteArray)] (0, 0) _ rfl (by (with_reducible repeat (first | refine blk_drewN ?_ _ | refine blk_drew ?_ | refine blk_alloc ?_ _)); exact BK467.out) Tryd.underlying23 rfl (by kernel_rfl)) rfl ?_
   exact ⟨by first | (simp only [ByteArray.size_extract, Nat.min_self]; rfl) | rfl | (simp [errW_none, errW_some] <;> rfl) | (simp [*, errW_none, errW_some] <;> rfl), by repeat (first | (with_reducible first | exact HB.out | apply below_alloc | apply pw_below_drewN | apply below_drew1 | refine below_set ?_ GE467.out) | exact HB.out)⟩
  ·
   rw [if_neg c6] at H
   have c6b0 : decide (4611686018427387904 < a0) = false := decide_eq_false c6; clear c6; replace H := Option.bind_eq_some_iff.mp H
   obtain ⟨⟨t468, t469, t470⟩, A100, H⟩ := H
   replace H : (some (t468, t469, t470, 0)) = some (r1, r2, r3, r4) := H; have A10 := Aside0.mk A100; clear A100
   simp only [Option.some.injEq, Prod.mk.injEq] at H
   obtain ⟨rfl, rfl, rfl, rfl⟩ := H
   go_enter Tryd.func48, Tryd.ntmps48
   go_wp2_with (first | ((with_reducible refine gate_dst (N := 2) rfl ?_); refine box_event ?hg (N := 2) ?hd (cs := #[.int .i64 0, .int .i64 0, .string (⟨#[]⟩ : ByteArray)]) (t := 23) ?hr ?_; (case hd => rfl); (case hg => rfl); (case hr => first | (go_simp; done) | (go_simp; rfl)); intro gb467 hg w11 hbox hb; have BK467 := Aside0.mk (hbox); have GW467 := bz hg; have GE467 := bz hg; replace HB := bs hb; clear hb hbox hg) | ((with_reducible refine gate_callee (f := 47) rfl ?_); refine gL (some 12) Tryd.func47 #[.int .i64 a0] ?_; (with_reducible refine (unisonref01_Number.calls a0 t468 t469 t470 _ A10.out).mono ?_); rintro e w12 ⟨rfl, hb⟩; refine ⟨_, rfl, ?_⟩; replace BK467 := bb BK467 hb; replace HB := bs hb; (try clear hb); (try clear hb2); (try clear hk); (try clear hi); have hcz13_0 : w12.cell? ⟨gb467, 0, none⟩ = some (.int .i64 0) := (blk_cell BK467.out 0).trans rfl; have hcz13_1 : w12.cell? ⟨gb467, 1, none⟩ = some (.int .i64 0) := (blk_cell BK467.out 1).trans rfl; have hcz13_2 : w12.cell? ⟨gb467, 2, none⟩ = some (.string (⟨#[]⟩ : ByteArray)) := (blk_cell BK467.out 2).trans rfl; have hfz13_0 := blk_frozen BK467.out 0; have hfz13_1 := blk_frozen BK467.out 1; have hfz13_2 := blk_frozen BK467.out 2) | ((with_reducible refine gate_store (t := 23) (p := 2) rfl ?_); refine store_event (t := 23) (p := 2) (v := ?vo_w14) (w1 := (((w12.setCell ⟨gb467, 0, none⟩ (.int .i64 t468)).setCell ⟨gb467, 1, none⟩ (.int .i64 t469)).setCell ⟨gb467, 2, none⟩ (.string t470))) ?hg ?ho ?hn ?hr ?_; (case ho => rfl); (case hg => rfl); (case hn => rfl); (case hr => first | (go_simp; done) | (go_simp; rfl)); intro w14 hw; replace BK467 : Aside0 (w14.heap[gb467]? = some (.cells #[.int .i64 t468, .int .i64 t469, .string t470] 23 (0, 0))) := bp BK467 hw; replace HB := bv hw; clear hw))
   refine bodyPost_ret (results_ct rfl _ _ gb467 23 #[.int .i64 t468, .int .i64 t469, .string t470] (0, 0) _ rfl (by (with_reducible repeat (first | refine blk_drewN ?_ _ | refine blk_drew ?_ | refine blk_alloc ?_ _)); exact BK467.out) Tryd.underlying23 rfl (by kernel_rfl)) rfl ?_
   exact ⟨by first | (simp only [ByteArray.size_extract, Nat.min_self]; rfl) | rfl | (simp [errW_none, errW_some] <;> rfl) | (simp [*, errW_none, errW_some] <;> rfl), by repeat (first | (with_reducible first | exact HB.out | apply below_alloc | apply pw_below_drewN | apply below_drew1 | refine below_set ?_ GE467.out) | exact HB.out)⟩
end Go.Proofs.YteehcopkljiikaaDoor.PA
