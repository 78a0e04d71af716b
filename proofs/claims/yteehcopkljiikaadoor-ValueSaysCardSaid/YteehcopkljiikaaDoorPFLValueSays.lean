-- Laid by a program of ours (wip/gen/xprint.py). Not trusted: Lean checks it.
import Derived.Test.YteehcopkljiikaaDoorPAx0
import Derived.Test.YteehcopkljiikaaDoorPAx1
import Derived.Test.YteehcopkljiikaaDoorPFLAwakeG
import Derived.Test.YteehcopkljiikaaDoorME
import Derived.Test.YteehcopkljiikaaDoorX6
import Derived.Test.YteehcopkljiikaaDoorX7
namespace Go.Proofs.YteehcopkljiikaaDoor.PA
open Go.RowKit Go.Proofs.YteehcopkljiikaaDoorW.PrintWords Go.Proofs.YteehcopkljiikaaDoorW.PrintLast Go.Proofs.YteehcopkljiikaaDoorW.PrintMore Go.Proofs.YteehcopkljiikaaDoorX
attribute [local go_sem] max2_int min2_int max_two min_two max_three min_three max_four min_four   -- for this text's walks alone
set_option linter.unusedVariables false
set_option linter.unusedSimpArgs false
attribute [local go_sem high] eqA23
/-! ### unisonlaw01_ValueSays: function 10 -/
def unisonlaw01_ValueSays.f (k : Nat) (a0_0 : Int) (a0_1 : Int) (a0_2 : ByteArray) (a1 : ByteArray) : Option (Bool) := if (a1.size : Int) > 2147483647 then (some true) else ((unisonlaw01_awake.f k).bind fun t346 => ((value_Print.f a0_0 a0_1 a0_2).bind fun bt347 => ((unisonref01_Print.f k a0_0 a0_1 a0_2).bind fun bt349 => ((value_Parse.f a1).bind fun bt351 => ((unisonref01_Parse.f k a1).bind fun bt356 => (if t346 = true then (if bt347.1.toList = bt349.1.toList then (if bt347.2 = bt349.2 then (if (bt351.1 == bt356.1 && (bt351.2.1 == bt356.2.1 && (bt351.2.2.1.toList == bt356.2.2.1.toList))) = true then (some (bt351.2.2.2 == bt356.2.2.2)) else (none)) else (none)) else (none)) else (none)))))))
theorem unisonlaw01_ValueSays.mono : ∀ a0 a1 a2 a3 k, LeO (unisonlaw01_ValueSays.f k a0 a1 a2 a3) (unisonlaw01_ValueSays.f (k + 1) a0 a1 a2 a3) := by
 intro a0 a1 a2 a3 k
 unfold unisonlaw01_ValueSays.f
 repeat' first
   | (with_reducible exact unisonlaw01_awake.mono _)
   | (with_reducible exact unisonref01_Parse.mono _ _)
   | (with_reducible exact unisonref01_Print.mono _ _ _ _)
   | (with_reducible exact LeO.refl _)
   | (with_reducible exact LeO.none _)
   | (with_reducible refine LeO.ite ?_ ?_)
   | (with_reducible refine LeO.bind ?_ (fun _ => ?_))
   | exact unisonlaw01_awake.mono _
   | exact unisonref01_Parse.mono _ _
   | exact unisonref01_Print.mono _ _ _ _
   | exact LeO.none _
   | refine LeO.ite ?_ ?_
   | refine LeO.bind ?_ (fun _ => ?_)
set_option maxHeartbeats 8000000 in
set_option maxRecDepth 100000 in
theorem unisonlaw01_ValueSays.calls (k : Nat) (a0_0 : Int) (a0_1 : Int) (a0_2 : ByteArray) (a1 : ByteArray) (r : Bool) (w : World) (h : unisonlaw01_ValueSays.f k a0_0 a0_1 a0_2 a1 = some r) (HG0 : Gw w) :
  Calls Tryd.prog 10 #[.agg #[.int .i64 a0_0, .int .i64 a0_1, .string a0_2], .string a1] w fun e w' => e = .returned (.bool r) ∧ Below w.heap.size w w' := by
 have HG := Aside0.mk HG0
 clear HG0
 have hu23 := Tryd.underlying23; have HB := Aside0.mk (Below.refl w.heap.size w); have H : (if (a1.size : Int) > 2147483647 then (some true) else ((unisonlaw01_awake.f k).bind fun t346 => ((value_Print.f a0_0 a0_1 a0_2).bind fun bt347 => ((unisonref01_Print.f k a0_0 a0_1 a0_2).bind fun bt349 => ((value_Parse.f a1).bind fun bt351 => ((unisonref01_Parse.f k a1).bind fun bt356 => (if t346 = true then (if bt347.1.toList = bt349.1.toList then (if bt347.2 = bt349.2 then (if (bt351.1 == bt356.1 && (bt351.2.1 == bt356.2.1 && (bt351.2.2.1.toList == bt356.2.2.1.toList))) = true then (some (bt351.2.2.2 == bt356.2.2.2)) else (none)) else (none)) else (none)) else (none)))))))) = some r := h; clear h
 by_cases c3 : (a1.size : Int) > 2147483647
 ·
  rw [if_pos c3] at H
  have c3b0 : decide (2147483647 < (a1.size : Int)) = true := decide_eq_true c3; have c3b1 : decide (2147483647 < a1.size) = true := decide_eq_true (by omega); clear c3
  obtain rfl := Option.some.inj H
  go_enter Tryd.func10, Tryd.ntmps10
  go_wp2_with (first | ((with_reducible refine gate_dst (N := 2) rfl ?_); refine box_event ?hg (N := 2) ?hd (cs := #[.int .i64 a0_0, .int .i64 a0_1, .string a0_2]) (t := 23) ?hr ?_; (case hd => rfl); (case hg => rfl); (case hr => first | (go_simp; done) | (go_simp; rfl)); intro gb345 hg w4 hbox hb; have BK345 := Aside0.mk (hbox); have GW345 := bz hg; have GE345 := bz hg; replace HB := bs hb; clear hb hbox hg))
  go_ret
  exact ⟨by first | (simp only [ByteArray.size_extract, Nat.min_self]; rfl) | rfl | (simp [errW_none, errW_some] <;> rfl) | (simp [*, errW_none, errW_some] <;> rfl), by repeat (first | (with_reducible first | exact HB.out | apply below_alloc | apply pw_below_drewN | apply below_drew1 | refine below_set ?_ GE345.out) | exact HB.out)⟩
 ·
  rw [if_neg c3] at H
  have c3b0 : decide (2147483647 < (a1.size : Int)) = false := decide_eq_false c3; have c3b1 : decide (2147483647 < a1.size) = false := decide_eq_false (by omega); clear c3; replace H := Option.bind_eq_some_iff.mp H
  obtain ⟨t346, A50, H⟩ := H
  replace H : ((value_Print.f a0_0 a0_1 a0_2).bind fun bt347 => ((unisonref01_Print.f k a0_0 a0_1 a0_2).bind fun bt349 => ((value_Parse.f a1).bind fun bt351 => ((unisonref01_Parse.f k a1).bind fun bt356 => (if t346 = true then (if bt347.1.toList = bt349.1.toList then (if bt347.2 = bt349.2 then (if (bt351.1 == bt356.1 && (bt351.2.1 == bt356.2.1 && (bt351.2.2.1.toList == bt356.2.2.1.toList))) = true then (some (bt351.2.2.2 == bt356.2.2.2)) else (none)) else (none)) else (none)) else (none)))))) = some r := H; have A5 := Aside0.mk A50; clear A50; replace H := Option.bind_eq_some_iff.mp H
  obtain ⟨⟨t347, t348⟩, A60, H⟩ := H
  replace H : ((unisonref01_Print.f k a0_0 a0_1 a0_2).bind fun bt349 => ((value_Parse.f a1).bind fun bt351 => ((unisonref01_Parse.f k a1).bind fun bt356 => (if t346 = true then (if t347.toList = bt349.1.toList then (if t348 = bt349.2 then (if (bt351.1 == bt356.1 && (bt351.2.1 == bt356.2.1 && (bt351.2.2.1.toList == bt356.2.2.1.toList))) = true then (some (bt351.2.2.2 == bt356.2.2.2)) else (none)) else (none)) else (none)) else (none))))) = some r := H; have A6 := Aside0.mk A60; clear A60; replace H := Option.bind_eq_some_iff.mp H
  obtain ⟨⟨t349, t350⟩, A70, H⟩ := H
  replace H : ((value_Parse.f a1).bind fun bt351 => ((unisonref01_Parse.f k a1).bind fun bt356 => (if t346 = true then (if t347.toList = t349.toList then (if t348 = t350 then (if (bt351.1 == bt356.1 && (bt351.2.1 == bt356.2.1 && (bt351.2.2.1.toList == bt356.2.2.1.toList))) = true then (some (bt351.2.2.2 == bt356.2.2.2)) else (none)) else (none)) else (none)) else (none)))) = some r := H; have A7 := Aside0.mk A70; clear A70; replace H := Option.bind_eq_some_iff.mp H
  obtain ⟨⟨t351, t352, t353, t354⟩, A80, H⟩ := H
  replace H : ((unisonref01_Parse.f k a1).bind fun bt356 => (if t346 = true then (if t347.toList = t349.toList then (if t348 = t350 then (if (t351 == bt356.1 && (t352 == bt356.2.1 && (t353.toList == bt356.2.2.1.toList))) = true then (some (t354 == bt356.2.2.2)) else (none)) else (none)) else (none)) else (none))) = some r := H; have A8 := Aside0.mk A80; clear A80; replace H := Option.bind_eq_some_iff.mp H
  obtain ⟨⟨t356, t357, t358, t359⟩, A90, H⟩ := H
  replace H : (if t346 = true then (if t347.toList = t349.toList then (if t348 = t350 then (if (t351 == t356 && (t352 == t357 && (t353.toList == t358.toList))) = true then (some (t354 == t359)) else (none)) else (none)) else (none)) else (none)) = some r := H; have A9 := Aside0.mk A90; clear A90
  by_cases c10 : t346 = true
  ·
   subst c10
   have H1 : (if t347.toList = t349.toList then (if t348 = t350 then (if (t351 == t356 && (t352 == t357 && (t353.toList == t358.toList))) = true then (some (t354 == t359)) else (none)) else (none)) else (none)) = some r := by (first | rw [if_pos rfl] at H | rw [if_pos True.intro] at H | skip); exact H
   clear H; have H := H1; clear H1
   by_cases c11 : t347.toList = t349.toList
   ·
    rw [if_pos c11] at H
    have c11b0 : (t347.toList == t349.toList) = true := beq_iff_eq.mpr c11; have c11b1 : (t347.toList != t349.toList) = false := bne_eq_false_iff_eq.mpr c11; clear c11
    by_cases c12 : t348 = t350
    ·
     rw [if_pos c12] at H
     have c12b0 : (t348 == t350) = true := beq_iff_eq.mpr c12; have c12b1 : (t348 != t350) = false := bne_eq_false_iff_eq.mpr c12; clear c12
     by_cases c13 : (t351 == t356 && (t352 == t357 && (t353.toList == t358.toList))) = true
     ·
      rw [if_pos c13] at H
      have c13b0 : (t351 == t356 && (t352 == t357 && (t353.toList == t358.toList))) = true := c13
      (try (have c13b1 : decide (t351 = t356 && (t352 == t357 && (t353.toList == t358.toList))) = true := by simpa using c13))
      (try (have c13b2 : (t351 == t356 && (t352 == t357 && (t353.toList == t358.toList))) = true := by simpa using c13))
      clear c13
      obtain rfl := Option.some.inj H
      go_enter Tryd.func10, Tryd.ntmps10
      go_wp2_with (first | ((with_reducible refine gate_dst (N := 2) rfl ?_); refine box_event ?hg (N := 2) ?hd (cs := #[.int .i64 a0_0, .int .i64 a0_1, .string a0_2]) (t := 23) ?hr ?_; (case hd => rfl); (case hg => rfl); (case hr => first | (go_simp; done) | (go_simp; rfl)); intro gb345 hg w14 hbox hb; have BK345 := Aside0.mk (hbox); have GW345 := bz hg; have GE345 := bz hg; replace HB := bs hb; clear hb hbox hg) | ((with_reducible refine gate_callee (f := 12) rfl ?_); refine gL (some 17) Tryd.func12 #[] ?_; (with_reducible refine (unisonlaw01_awake.calls k  true _ A5.out (gk HG)).mono ?_); rintro e w15 ⟨rfl, hb⟩; refine ⟨_, rfl, ?_⟩; replace BK345 := bb BK345 hb; replace HB := bs hb; (try clear hb); (try clear hb2); (try clear hk); (try clear hi); have hcz16_0 : w15.cell? ⟨gb345, 0, none⟩ = some (.int .i64 a0_0) := (blk_cell BK345.out 0).trans rfl; have hcz16_1 : w15.cell? ⟨gb345, 1, none⟩ = some (.int .i64 a0_1) := (blk_cell BK345.out 1).trans rfl; have hcz16_2 : w15.cell? ⟨gb345, 2, none⟩ = some (.string a0_2) := (blk_cell BK345.out 2).trans rfl; have hfz16_0 := blk_frozen BK345.out 0; have hfz16_1 := blk_frozen BK345.out 1; have hfz16_2 := blk_frozen BK345.out 2) | ((with_reducible refine gate_callee (f := 34) rfl ?_); refine gL (some 20) Tryd.func34 #[.agg #[.int .i64 a0_0, .int .i64 a0_1, .string a0_2]] ?_; (with_reducible refine (value_Print.calls a0_0 a0_1 a0_2 t347 t348 _ A6.out (gk HG)).mono ?_); rintro e w17 ⟨rfl, hb⟩; refine ⟨_, rfl, ?_⟩; replace BK345 := bb BK345 hb; replace HB := bs hb; (try clear hb); (try clear hb2); (try clear hk); (try clear hi); have hcz18_0 : w17.cell? ⟨gb345, 0, none⟩ = some (.int .i64 a0_0) := (blk_cell BK345.out 0).trans rfl; have hcz18_1 : w17.cell? ⟨gb345, 1, none⟩ = some (.int .i64 a0_1) := (blk_cell BK345.out 1).trans rfl; have hcz18_2 : w17.cell? ⟨gb345, 2, none⟩ = some (.string a0_2) := (blk_cell BK345.out 2).trans rfl; have hfz18_0 := blk_frozen BK345.out 0; have hfz18_1 := blk_frozen BK345.out 1; have hfz18_2 := blk_frozen BK345.out 2) | ((with_reducible refine gate_callee (f := 35) rfl ?_); refine gL (some 25) Tryd.func35 #[.agg #[.int .i64 a0_0, .int .i64 a0_1, .string a0_2]] ?_; (with_reducible refine (unisonref01_Print.calls k a0_0 a0_1 a0_2 t349 t350 _ A7.out).mono ?_); rintro e w19 ⟨rfl, hb⟩; refine ⟨_, rfl, ?_⟩; replace BK345 := bb BK345 hb; replace HB := bs hb; (try clear hb); (try clear hb2); (try clear hk); (try clear hi)) | ((with_reducible refine gate_callee (f := 36) rfl ?_); refine gL (some 30) Tryd.func36 #[.string a1] ?_; (with_reducible refine (value_Parse.calls a1 t351 t352 t353 t354 _ A8.out (gk HG)).mono ?_); rintro e w20 ⟨rfl, hb⟩; refine ⟨_, rfl, ?_⟩; replace BK345 := bb BK345 hb; replace HB := bs hb; (try clear hb); (try clear hb2); (try clear hk); (try clear hi)) | ((with_reducible refine gate_dst (N := 10) rfl ?_); refine box_event ?hg (N := 10) ?hd (cs := #[.int .i64 0, .int .i64 0, .string (⟨#[]⟩ : ByteArray)]) (t := 23) ?hr ?_; (case hd => rfl); (case hg => rfl); (case hr => first | (go_simp; done) | (go_simp; rfl)); intro gb355 hg w21 hbox hb; have BK355 := Aside0.mk (hbox); have GW355 := bz hg; have GE355 := bz hg; have NB345_355 := bl BK345 hg; have NB355_345 := bg BK345 hg; replace BK345 := bb BK345 hb; replace HB := bs hb; clear hb hbox hg; have hnb22 := NB355_345.out; have hnc22 := NB345_355.out; have hcz23_0 : w21.cell? ⟨gb355, 0, none⟩ = some (.int .i64 0) := (blk_cell BK355.out 0).trans rfl; have hcz23_1 : w21.cell? ⟨gb355, 1, none⟩ = some (.int .i64 0) := (blk_cell BK355.out 1).trans rfl; have hcz23_2 : w21.cell? ⟨gb355, 2, none⟩ = some (.string (⟨#[]⟩ : ByteArray)) := (blk_cell BK355.out 2).trans rfl; have hfz23_0 := blk_frozen BK355.out 0; have hfz23_1 := blk_frozen BK355.out 1; have hfz23_2 := blk_frozen BK355.out 2) | ((with_reducible refine gate_store (t := 23) (p := 10) rfl ?_); refine store_event (t := 23) (p := 10) (v := ?vo_w24) (w1 := (((w21.setCell ⟨gb355, 0, none⟩ (.int .i64 t351)).setCell ⟨gb355, 1, none⟩ (.int .i64 t352)).setCell ⟨gb355, 2, none⟩ (.string t353))) ?hg ?ho ?hn ?hr ?_; (case ho => rfl); (case hg => rfl); (case hn => rfl); (case hr => first | (go_simp; done) | (go_simp; rfl)); intro w24 hw; replace BK345 := bw BK345 hw; replace BK355 : Aside0 (w24.heap[gb355]? = some (.cells #[.int .i64 t351, .int .i64 t352, .string t353] 23 (0, 0))) := bp BK355 hw; replace HB := bv hw; clear hw) | ((with_reducible refine gate_callee (f := 37) rfl ?_); refine gL (some 35) Tryd.func37 #[.string a1] ?_; (with_reducible refine (unisonref01_Parse.calls k a1 t356 t357 t358 t359 _ A9.out).mono ?_); rintro e w25 ⟨rfl, hb⟩; refine ⟨_, rfl, ?_⟩; replace BK345 := bb BK345 hb; replace BK355 := bb BK355 hb; replace HB := bs hb; (try clear hb); (try clear hb2); (try clear hk); (try clear hi)) | ((with_reducible refine gate_dst (N := 12) rfl ?_); refine box_event ?hg (N := 12) ?hd (cs := #[.int .i64 0, .int .i64 0, .string (⟨#[]⟩ : ByteArray)]) (t := 23) ?hr ?_; (case hd => rfl); (case hg => rfl); (case hr => first | (go_simp; done) | (go_simp; rfl)); intro gb360 hg w26 hbox hb; have BK360 := Aside0.mk (hbox); have GW360 := bz hg; have GE360 := bz hg; have NB345_360 := bl BK345 hg; have NB360_345 := bg BK345 hg; have NB355_360 := bl BK355 hg; have NB360_355 := bg BK355 hg; replace BK345 := bb BK345 hb; replace BK355 := bb BK355 hb; replace HB := bs hb; clear hb hbox hg; have hnb27 := NB360_345.out; have hnc27 := NB345_360.out; have hnb28 := NB360_355.out; have hnc28 := NB355_360.out; have hcz29_0 : w26.cell? ⟨gb360, 0, none⟩ = some (.int .i64 0) := (blk_cell BK360.out 0).trans rfl; have hcz29_1 : w26.cell? ⟨gb360, 1, none⟩ = some (.int .i64 0) := (blk_cell BK360.out 1).trans rfl; have hcz29_2 : w26.cell? ⟨gb360, 2, none⟩ = some (.string (⟨#[]⟩ : ByteArray)) := (blk_cell BK360.out 2).trans rfl; have hfz29_0 := blk_frozen BK360.out 0; have hfz29_1 := blk_frozen BK360.out 1; have hfz29_2 := blk_frozen BK360.out 2) | ((with_reducible refine gate_store (t := 23) (p := 12) rfl ?_); refine store_event (t := 23) (p := 12) (v := ?vo_w30) (w1 := (((w26.setCell ⟨gb360, 0, none⟩ (.int .i64 t356)).setCell ⟨gb360, 1, none⟩ (.int .i64 t357)).setCell ⟨gb360, 2, none⟩ (.string t358))) ?hg ?ho ?hn ?hr ?_; (case ho => rfl); (case hg => rfl); (case hn => rfl); (case hr => first | (go_simp; done) | (go_simp; rfl)); intro w30 hw; replace BK345 := bw BK345 hw; replace BK355 := bw BK355 hw; replace BK360 : Aside0 (w30.heap[gb360]? = some (.cells #[.int .i64 t356, .int .i64 t357, .string t358] 23 (0, 0))) := bp BK360 hw; replace HB := bv hw; clear hw; have hcz31_0 : w30.cell? ⟨gb355, 0, none⟩ = some (.int .i64 t351) := (blk_cell BK355.out 0).trans rfl; have hcz31_1 : w30.cell? ⟨gb355, 1, none⟩ = some (.int .i64 t352) := (blk_cell BK355.out 1).trans rfl; have hcz31_2 : w30.cell? ⟨gb355, 2, none⟩ = some (.string t353) := (blk_cell BK355.out 2).trans rfl; have hfz31_0 := blk_frozen BK355.out 0; have hfz31_1 := blk_frozen BK355.out 1; have hfz31_2 := blk_frozen BK355.out 2; have hcz32_0 : w30.cell? ⟨gb360, 0, none⟩ = some (.int .i64 t356) := (blk_cell BK360.out 0).trans rfl; have hcz32_1 : w30.cell? ⟨gb360, 1, none⟩ = some (.int .i64 t357) := (blk_cell BK360.out 1).trans rfl; have hcz32_2 : w30.cell? ⟨gb360, 2, none⟩ = some (.string t358) := (blk_cell BK360.out 2).trans rfl; have hfz32_0 := blk_frozen BK360.out 0; have hfz32_1 := blk_frozen BK360.out 1; have hfz32_2 := blk_frozen BK360.out 2))
      go_ret
      exact ⟨by first | (simp only [ByteArray.size_extract, Nat.min_self]; rfl) | rfl | (simp [errW_none, errW_some] <;> rfl) | (simp [*, errW_none, errW_some] <;> rfl), by repeat (first | (with_reducible first | exact HB.out | apply below_alloc | apply pw_below_drewN | apply below_drew1 | refine below_set ?_ GE345.out | refine below_set ?_ GE355.out | refine below_set ?_ GE360.out) | exact HB.out)⟩
     ·
      rw [if_neg c13] at H
      exact absurd H (by simp)
    ·
     rw [if_neg c12] at H
     exact absurd H (by simp)
   ·
    rw [if_neg c11] at H
    exact absurd H (by simp)
  ·
   replace c10 := Bool.eq_false_iff.mpr c10
   subst c10
   have H1 : (none) = some r := by rw [if_neg (show ¬ (false = true) by decide)] at H; exact H
   clear H; have H := H1; clear H1
   exact absurd H (by simp)
end Go.Proofs.YteehcopkljiikaaDoor.PA
