-- Laid by a program of ours (wip/gen/xprint.py). Not trusted: Lean checks it.
import Derived.Test.YteehcopkljiikaaDoorPAx0
import Derived.Test.YteehcopkljiikaaDoorPAx1
import Derived.Test.YteehcopkljiikaaDoorPFLAwakeG
import Derived.Test.YteehcopkljiikaaDoorMD
import Derived.Test.YteehcopkljiikaaDoorX6
import Derived.Test.YteehcopkljiikaaDoorX7
namespace Go.Proofs.YteehcopkljiikaaDoor.PA
open Go.RowKit Go.Proofs.YteehcopkljiikaaDoorW.PrintWords Go.Proofs.YteehcopkljiikaaDoorW.PrintLast Go.Proofs.YteehcopkljiikaaDoorW.PrintMore Go.Proofs.YteehcopkljiikaaDoorX
attribute [local go_sem] max2_int min2_int max_two min_two max_three min_three max_four min_four   -- for this text's walks alone
set_option linter.unusedVariables false
set_option linter.unusedSimpArgs false
attribute [local go_sem high] eqA23
/-! ### unisonlaw01_ValueBack: function 11 -/
mutual
def unisonlaw01_ValueBack.j0 : Nat → Bool → Bool → Bool → ByteArray → ByteArray → Bool → Int → Int → ByteArray → Int → Int → ByteArray → Option (Bool)
 | 0, _, _, _, _, _, _, _, _, _, _, _, _ => none
 | k + 1, x5, x6, x7, x8, x10, x40, x362000, x362001, x362002, x363000, x363001, x363002 => if x40 = true then (none) else (if x6 = true then (unisonlaw01_ValueBack.j1 k x5 x8 x10 (!x7) x362000 x362001 x362002 x363000 x363001 x363002) else (unisonlaw01_ValueBack.j1 k x5 x8 x10 true x362000 x362001 x362002 x363000 x363001 x363002))
def unisonlaw01_ValueBack.j1 : Nat → Bool → ByteArray → ByteArray → Bool → Int → Int → ByteArray → Int → Int → ByteArray → Option (Bool)
 | 0, _, _, _, _, _, _, _, _, _, _ => none
 | k + 1, x5, x8, x10, x46, x362000, x362001, x362002, x363000, x363001, x363002 => if x46 = true then (some x5) else ((value_Parse.f x8).bind fun bt370 => ((value_Parse.f x10).bind fun bt375 => (if x5 = true then (if (bt370.1 == x362000 && (bt370.2.1 == x362001 && (bt370.2.2.1.toList == x362002.toList))) = true then (if bt370.2.2.2 = 0 then (if (bt375.1 == x363000 && (bt375.2.1 == x363001 && (bt375.2.2.1.toList == x363002.toList))) = true then (if bt375.2.2.2 = 0 then (some ((x8.toList == x10.toList) == (x362000 == x363000 && (x362001 == x363001 && (x362002.toList == x363002.toList))))) else (none)) else (none)) else (none)) else (none)) else (none))))
end
def unisonlaw01_ValueBack.f (k : Nat) (a0_0 : Int) (a0_1 : Int) (a0_2 : ByteArray) (a1_0 : Int) (a1_1 : Int) (a1_2 : ByteArray) : Option (Bool) := (unisonlaw01_awake.f k).bind fun t363 => ((unisonref01_Right.f a0_0 a0_1 a0_2).bind fun t364 => ((unisonref01_Right.f a1_0 a1_1 a1_2).bind fun t365 => ((value_Print.f a0_0 a0_1 a0_2).bind fun bt366 => ((value_Print.f a1_0 a1_1 a1_2).bind fun bt368 => (if ((bt366.2 == 0) != t364) = true then (unisonlaw01_ValueBack.j0 k t363 t364 t365 bt366.1 bt368.1 true a0_0 a0_1 a0_2 a1_0 a1_1 a1_2) else (unisonlaw01_ValueBack.j0 k t363 t364 t365 bt366.1 bt368.1 ((bt368.2 == 0) != t365) a0_0 a0_1 a0_2 a1_0 a1_1 a1_2))))))
theorem unisonlaw01_ValueBack.mono_l : ∀ k, (∀ y0 y1 y2 y3 y4 y5 y6 y7 y8 y9 y10 y11, LeO (unisonlaw01_ValueBack.j0 k y0 y1 y2 y3 y4 y5 y6 y7 y8 y9 y10 y11) (unisonlaw01_ValueBack.j0 (k + 1) y0 y1 y2 y3 y4 y5 y6 y7 y8 y9 y10 y11)) ∧ (∀ y0 y1 y2 y3 y4 y5 y6 y7 y8 y9, LeO (unisonlaw01_ValueBack.j1 k y0 y1 y2 y3 y4 y5 y6 y7 y8 y9) (unisonlaw01_ValueBack.j1 (k + 1) y0 y1 y2 y3 y4 y5 y6 y7 y8 y9))
 | 0 => ⟨fun _ _ _ _ _ _ _ _ _ _ _ _ r h => by simp [unisonlaw01_ValueBack.j0] at h, fun _ _ _ _ _ _ _ _ _ _ r h => by simp [unisonlaw01_ValueBack.j1] at h⟩
 | k + 1 => by
  obtain ⟨ih0, ih1⟩ := unisonlaw01_ValueBack.mono_l k
  refine ⟨?_, ?_⟩
  ·
   intro y0 y1 y2 y3 y4 y5 y6 y7 y8 y9 y10 y11
   unfold unisonlaw01_ValueBack.j0
   repeat' first
   | (with_reducible exact ih0 _ _ _ _ _ _ _ _ _ _ _ _)
   | (with_reducible exact ih1 _ _ _ _ _ _ _ _ _ _)
   | (with_reducible exact unisonlaw01_awake.mono _)
   | (with_reducible exact LeO.refl _)
   | (with_reducible exact LeO.none _)
   | (with_reducible refine LeO.ite ?_ ?_)
   | (with_reducible refine LeO.bind ?_ (fun _ => ?_))
   | exact ih0 _ _ _ _ _ _ _ _ _ _ _ _
   | exact ih1 _ _ _ _ _ _ _ _ _ _
   | exact unisonlaw01_awake.mono _
   | exact LeO.none _
   | refine LeO.ite ?_ ?_
   | refine LeO.bind ?_ (fun _ => ?_)
  ·
   intro y0 y1 y2 y3 y4 y5 y6 y7 y8 y9
   unfold unisonlaw01_ValueBack.j1
   repeat' first
   | (with_reducible exact ih0 _ _ _ _ _ _ _ _ _ _ _ _)
   | (with_reducible exact ih1 _ _ _ _ _ _ _ _ _ _)
   | (with_reducible exact unisonlaw01_awake.mono _)
   | (with_reducible exact LeO.refl _)
   | (with_reducible exact LeO.none _)
   | (with_reducible refine LeO.ite ?_ ?_)
   | (with_reducible refine LeO.bind ?_ (fun _ => ?_))
   | exact ih0 _ _ _ _ _ _ _ _ _ _ _ _
   | exact ih1 _ _ _ _ _ _ _ _ _ _
   | exact unisonlaw01_awake.mono _
   | exact LeO.none _
   | refine LeO.ite ?_ ?_
   | refine LeO.bind ?_ (fun _ => ?_)
theorem unisonlaw01_ValueBack.mono : ∀ a0 a1 a2 a3 a4 a5 k, LeO (unisonlaw01_ValueBack.f k a0 a1 a2 a3 a4 a5) (unisonlaw01_ValueBack.f (k + 1) a0 a1 a2 a3 a4 a5) := by
 intro a0 a1 a2 a3 a4 a5 k
 obtain ⟨ih0, ih1⟩ := unisonlaw01_ValueBack.mono_l k
 unfold unisonlaw01_ValueBack.f
 repeat' first
   | (with_reducible exact ih0 _ _ _ _ _ _ _ _ _ _ _ _)
   | (with_reducible exact ih1 _ _ _ _ _ _ _ _ _ _)
   | (with_reducible exact unisonlaw01_awake.mono _)
   | (with_reducible exact LeO.refl _)
   | (with_reducible exact LeO.none _)
   | (with_reducible refine LeO.ite ?_ ?_)
   | (with_reducible refine LeO.bind ?_ (fun _ => ?_))
   | exact ih0 _ _ _ _ _ _ _ _ _ _ _ _
   | exact ih1 _ _ _ _ _ _ _ _ _ _
   | exact unisonlaw01_awake.mono _
   | exact LeO.none _
   | refine LeO.ite ?_ ?_
   | refine LeO.bind ?_ (fun _ => ?_)
set_option maxHeartbeats 8000000 in
set_option maxRecDepth 100000 in
theorem unisonlaw01_ValueBack.calls (k : Nat) (a0_0 : Int) (a0_1 : Int) (a0_2 : ByteArray) (a1_0 : Int) (a1_1 : Int) (a1_2 : ByteArray) (r : Bool) (w : World) (h : unisonlaw01_ValueBack.f k a0_0 a0_1 a0_2 a1_0 a1_1 a1_2 = some r) (HG0 : Gw w) :
  Calls Tryd.prog 11 #[.agg #[.int .i64 a0_0, .int .i64 a0_1, .string a0_2], .agg #[.int .i64 a1_0, .int .i64 a1_1, .string a1_2]] w fun e w' => e = .returned (.bool r) ∧ Below w.heap.size w w' := by
 have HG := Aside0.mk HG0
 clear HG0
 have hu23 := Tryd.underlying23; have HB := Aside0.mk (Below.refl w.heap.size w); have H : ((unisonlaw01_awake.f k).bind fun t363 => ((unisonref01_Right.f a0_0 a0_1 a0_2).bind fun t364 => ((unisonref01_Right.f a1_0 a1_1 a1_2).bind fun t365 => ((value_Print.f a0_0 a0_1 a0_2).bind fun bt366 => ((value_Print.f a1_0 a1_1 a1_2).bind fun bt368 => (if ((bt366.2 == 0) != t364) = true then (unisonlaw01_ValueBack.j0 k t363 t364 t365 bt366.1 bt368.1 true a0_0 a0_1 a0_2 a1_0 a1_1 a1_2) else (unisonlaw01_ValueBack.j0 k t363 t364 t365 bt366.1 bt368.1 ((bt368.2 == 0) != t365) a0_0 a0_1 a0_2 a1_0 a1_1 a1_2))))))) = some r := h; clear h; replace H := Option.bind_eq_some_iff.mp H
 obtain ⟨t363, A30, H⟩ := H
 replace H : ((unisonref01_Right.f a0_0 a0_1 a0_2).bind fun t364 => ((unisonref01_Right.f a1_0 a1_1 a1_2).bind fun t365 => ((value_Print.f a0_0 a0_1 a0_2).bind fun bt366 => ((value_Print.f a1_0 a1_1 a1_2).bind fun bt368 => (if ((bt366.2 == 0) != t364) = true then (unisonlaw01_ValueBack.j0 k t363 t364 t365 bt366.1 bt368.1 true a0_0 a0_1 a0_2 a1_0 a1_1 a1_2) else (unisonlaw01_ValueBack.j0 k t363 t364 t365 bt366.1 bt368.1 ((bt368.2 == 0) != t365) a0_0 a0_1 a0_2 a1_0 a1_1 a1_2)))))) = some r := H; have A3 := Aside0.mk A30; clear A30; replace H := Option.bind_eq_some_iff.mp H
 obtain ⟨t364, A40, H⟩ := H
 replace H : ((unisonref01_Right.f a1_0 a1_1 a1_2).bind fun t365 => ((value_Print.f a0_0 a0_1 a0_2).bind fun bt366 => ((value_Print.f a1_0 a1_1 a1_2).bind fun bt368 => (if ((bt366.2 == 0) != t364) = true then (unisonlaw01_ValueBack.j0 k t363 t364 t365 bt366.1 bt368.1 true a0_0 a0_1 a0_2 a1_0 a1_1 a1_2) else (unisonlaw01_ValueBack.j0 k t363 t364 t365 bt366.1 bt368.1 ((bt368.2 == 0) != t365) a0_0 a0_1 a0_2 a1_0 a1_1 a1_2))))) = some r := H; have A4 := Aside0.mk A40; clear A40; replace H := Option.bind_eq_some_iff.mp H
 obtain ⟨t365, A50, H⟩ := H
 replace H : ((value_Print.f a0_0 a0_1 a0_2).bind fun bt366 => ((value_Print.f a1_0 a1_1 a1_2).bind fun bt368 => (if ((bt366.2 == 0) != t364) = true then (unisonlaw01_ValueBack.j0 k t363 t364 t365 bt366.1 bt368.1 true a0_0 a0_1 a0_2 a1_0 a1_1 a1_2) else (unisonlaw01_ValueBack.j0 k t363 t364 t365 bt366.1 bt368.1 ((bt368.2 == 0) != t365) a0_0 a0_1 a0_2 a1_0 a1_1 a1_2)))) = some r := H; have A5 := Aside0.mk A50; clear A50; replace H := Option.bind_eq_some_iff.mp H
 obtain ⟨⟨t366, t367⟩, A60, H⟩ := H
 replace H : ((value_Print.f a1_0 a1_1 a1_2).bind fun bt368 => (if ((t367 == 0) != t364) = true then (unisonlaw01_ValueBack.j0 k t363 t364 t365 t366 bt368.1 true a0_0 a0_1 a0_2 a1_0 a1_1 a1_2) else (unisonlaw01_ValueBack.j0 k t363 t364 t365 t366 bt368.1 ((bt368.2 == 0) != t365) a0_0 a0_1 a0_2 a1_0 a1_1 a1_2))) = some r := H; have A6 := Aside0.mk A60; clear A60; replace H := Option.bind_eq_some_iff.mp H
 obtain ⟨⟨t368, t369⟩, A70, H⟩ := H
 replace H : (if ((t367 == 0) != t364) = true then (unisonlaw01_ValueBack.j0 k t363 t364 t365 t366 t368 true a0_0 a0_1 a0_2 a1_0 a1_1 a1_2) else (unisonlaw01_ValueBack.j0 k t363 t364 t365 t366 t368 ((t369 == 0) != t365) a0_0 a0_1 a0_2 a1_0 a1_1 a1_2)) = some r := H; have A7 := Aside0.mk A70; clear A70; have HC8 := Aside0.mk H; clear H
 go_enter Tryd.func11, Tryd.ntmps11
 go_upto_region 6 with (first | ((with_reducible refine gate_dst (N := 2) rfl ?_); refine box_event ?hg (N := 2) ?hd (cs := #[.int .i64 a0_0, .int .i64 a0_1, .string a0_2]) (t := 23) ?hr ?_; (case hd => rfl); (case hg => rfl); (case hr => first | (go_simp; done) | (go_simp; rfl)); intro gb361 hg w9 hbox hb; have BK361 := Aside0.mk (hbox); have GW361 := bz hg; have GE361 := bz hg; replace HB := bs hb; clear hb hbox hg) | ((with_reducible refine gate_dst (N := 3) rfl ?_); refine box_event ?hg (N := 3) ?hd (cs := #[.int .i64 a1_0, .int .i64 a1_1, .string a1_2]) (t := 23) ?hr ?_; (case hd => rfl); (case hg => rfl); (case hr => first | (go_simp; done) | (go_simp; rfl)); intro gb362 hg w10 hbox hb; have BK362 := Aside0.mk (hbox); have GW362 := bz hg; have GE362 := bz hg; have NB361_362 := bl BK361 hg; have NB362_361 := bg BK361 hg; replace BK361 := bb BK361 hb; replace HB := bs hb; clear hb hbox hg) | ((with_reducible refine gate_callee (f := 12) rfl ?_); refine gL (some 16) Tryd.func12 #[] ?_; (with_reducible refine (unisonlaw01_awake.calls k  t363 _ A3.out (gk HG)).mono ?_); rintro e w11 ⟨rfl, hb⟩; refine ⟨_, rfl, ?_⟩; replace BK361 := bb BK361 hb; replace BK362 := bb BK362 hb; replace HB := bs hb; (try clear hb); (try clear hb2); (try clear hk); (try clear hi); have hnb12 := NB361_362.out; have hnc12 := NB362_361.out; have hcz13_0 : w11.cell? ⟨gb361, 0, none⟩ = some (.int .i64 a0_0) := (blk_cell BK361.out 0).trans rfl; have hcz13_1 : w11.cell? ⟨gb361, 1, none⟩ = some (.int .i64 a0_1) := (blk_cell BK361.out 1).trans rfl; have hcz13_2 : w11.cell? ⟨gb361, 2, none⟩ = some (.string a0_2) := (blk_cell BK361.out 2).trans rfl; have hfz13_0 := blk_frozen BK361.out 0; have hfz13_1 := blk_frozen BK361.out 1; have hfz13_2 := blk_frozen BK361.out 2) | ((with_reducible refine gate_callee (f := 14) rfl ?_); refine gL (some 18) Tryd.func14 #[.agg #[.int .i64 a0_0, .int .i64 a0_1, .string a0_2]] ?_; (with_reducible refine (unisonref01_Right.calls a0_0 a0_1 a0_2 t364 _ A4.out).mono ?_); rintro e w14 ⟨rfl, hb⟩; refine ⟨_, rfl, ?_⟩; replace BK361 := bb BK361 hb; replace BK362 := bb BK362 hb; replace HB := bs hb; (try clear hb); (try clear hb2); (try clear hk); (try clear hi); have hcz15_0 : w14.cell? ⟨gb362, 0, none⟩ = some (.int .i64 a1_0) := (blk_cell BK362.out 0).trans rfl; have hcz15_1 : w14.cell? ⟨gb362, 1, none⟩ = some (.int .i64 a1_1) := (blk_cell BK362.out 1).trans rfl; have hcz15_2 : w14.cell? ⟨gb362, 2, none⟩ = some (.string a1_2) := (blk_cell BK362.out 2).trans rfl; have hfz15_0 := blk_frozen BK362.out 0; have hfz15_1 := blk_frozen BK362.out 1; have hfz15_2 := blk_frozen BK362.out 2) | ((with_reducible refine gate_callee (f := 14) rfl ?_); refine gL (some 20) Tryd.func14 #[.agg #[.int .i64 a1_0, .int .i64 a1_1, .string a1_2]] ?_; (with_reducible refine (unisonref01_Right.calls a1_0 a1_1 a1_2 t365 _ A5.out).mono ?_); rintro e w16 ⟨rfl, hb⟩; refine ⟨_, rfl, ?_⟩; replace BK361 := bb BK361 hb; replace BK362 := bb BK362 hb; replace HB := bs hb; (try clear hb); (try clear hb2); (try clear hk); (try clear hi); have hcz17_0 : w16.cell? ⟨gb361, 0, none⟩ = some (.int .i64 a0_0) := (blk_cell BK361.out 0).trans rfl; have hcz17_1 : w16.cell? ⟨gb361, 1, none⟩ = some (.int .i64 a0_1) := (blk_cell BK361.out 1).trans rfl; have hcz17_2 : w16.cell? ⟨gb361, 2, none⟩ = some (.string a0_2) := (blk_cell BK361.out 2).trans rfl; have hfz17_0 := blk_frozen BK361.out 0; have hfz17_1 := blk_frozen BK361.out 1; have hfz17_2 := blk_frozen BK361.out 2) | ((with_reducible refine gate_callee (f := 34) rfl ?_); refine gL (some 23) Tryd.func34 #[.agg #[.int .i64 a0_0, .int .i64 a0_1, .string a0_2]] ?_; (with_reducible refine (value_Print.calls a0_0 a0_1 a0_2 t366 t367 _ A6.out (gk HG)).mono ?_); rintro e w18 ⟨rfl, hb⟩; refine ⟨_, rfl, ?_⟩; replace BK361 := bb BK361 hb; replace BK362 := bb BK362 hb; replace HB := bs hb; (try clear hb); (try clear hb2); (try clear hk); (try clear hi); have hcz19_0 : w18.cell? ⟨gb362, 0, none⟩ = some (.int .i64 a1_0) := (blk_cell BK362.out 0).trans rfl; have hcz19_1 : w18.cell? ⟨gb362, 1, none⟩ = some (.int .i64 a1_1) := (blk_cell BK362.out 1).trans rfl; have hcz19_2 : w18.cell? ⟨gb362, 2, none⟩ = some (.string a1_2) := (blk_cell BK362.out 2).trans rfl; have hfz19_0 := blk_frozen BK362.out 0; have hfz19_1 := blk_frozen BK362.out 1; have hfz19_2 := blk_frozen BK362.out 2) | ((with_reducible refine gate_callee (f := 34) rfl ?_); refine gL (some 28) Tryd.func34 #[.agg #[.int .i64 a1_0, .int .i64 a1_1, .string a1_2]] ?_; (with_reducible refine (value_Print.calls a1_0 a1_1 a1_2 t368 t369 _ A7.out (gk HG)).mono ?_); rintro e w20 ⟨rfl, hb⟩; refine ⟨_, rfl, ?_⟩; replace BK361 := bb BK361 hb; replace BK362 := bb BK362 hb; replace HB := bs hb; (try clear hb); (try clear hb2); (try clear hk); (try clear hi)))
 (try simp only [Act.put, List.setIfInBounds_toArray, List.set_cons_zero, List.set_cons_succ])
 go_cut [40] (fun v40 wc => ∃ (kq : Nat) (x40_7 : Bool), v40 = .bool x40_7 ∧ Aside0 (unisonlaw01_ValueBack.j0 kq t363 t364 t365 t366 t368 x40_7 a0_0 a0_1 a0_2 a1_0 a1_1 a1_2 = some r) ∧ Aside0 (kq ≤ k) ∧ Aside0 (wc.heap[gb361]? = some (.cells #[.int .i64 a0_0, .int .i64 a0_1, .string a0_2] 23 (0, 0))) ∧ Aside0 (wc.heap[gb362]? = some (.cells #[.int .i64 a1_0, .int .i64 a1_1, .string a1_2] 23 (0, 0))) ∧ Aside0 (Below w.heap.size w wc))
 case first =>
  have H := HC8.out; clear HC8
  by_cases c21 : ((t367 == 0) != t364) = true
  ·
   rw [if_pos c21] at H
   have c21b0 : ((t367 == 0) != t364) = true := c21
   (try (have c21b1 : decide ((t367 == 0) = t364) = false := by simpa using c21))
   (try (have c21b2 : ((t367 == 0) == t364) = false := by simpa using c21))
   (try (have c21b3 : ¬ ((t367 == 0) = t364) := by simpa using c21))
   clear c21
   (first | rw [c21b0] | (simp only [i64_w, i32_w, u8_w, u32_w]; rw [c21b0]) | rw [c21b1] | skip)
   have H' := Aside0.mk H
   clear H
   go_wp2
   go_meet
   case rel => exact ⟨_, (true), (by first | rfl | (simp; done) | (simp [*]; done)), H', ⟨by first | omega | exact Nat.le_refl _⟩, ⟨by (with_reducible repeat (first | refine blk_drewN ?_ _ | refine blk_drew ?_ | refine blk_alloc ?_ _)); exact BK361.out⟩, ⟨by (with_reducible repeat (first | refine blk_drewN ?_ _ | refine blk_drew ?_ | refine blk_alloc ?_ _)); exact BK362.out⟩, ⟨by repeat (first | (with_reducible first | exact HB.out | apply below_alloc | apply pw_below_drewN | apply below_drew1 | refine below_set ?_ GE361.out | refine below_set ?_ GE362.out) | exact HB.out)⟩⟩
  ·
   rw [if_neg c21] at H
   have c21b0 : ((t367 == 0) != t364) = false := by simpa using c21
   (try (have c21b1 : decide ((t367 == 0) = t364) = true := by simpa using c21))
   (try (have c21b2 : ((t367 == 0) == t364) = true := by simpa using c21))
   clear c21
   (first | rw [c21b0] | (simp only [i64_w, i32_w, u8_w, u32_w]; rw [c21b0]) | rw [c21b1] | skip)
   have H' := Aside0.mk H
   clear H
   go_wp2
   go_meet
   case rel => exact ⟨_, (((t369 == 0) != t365)), (by first | rfl | (simp; done) | (simp [*]; done)), H', ⟨by first | omega | exact Nat.le_refl _⟩, ⟨by (with_reducible repeat (first | refine blk_drewN ?_ _ | refine blk_drew ?_ | refine blk_alloc ?_ _)); exact BK361.out⟩, ⟨by (with_reducible repeat (first | refine blk_drewN ?_ _ | refine blk_drew ?_ | refine blk_alloc ?_ _)); exact BK362.out⟩, ⟨by repeat (first | (with_reducible first | exact HB.out | apply below_alloc | apply pw_below_drewN | apply below_drew1 | refine below_set ?_ GE361.out | refine below_set ?_ GE362.out) | exact HB.out)⟩⟩
 case rest =>
  clear HC8; (try clear c1); (try clear c2); (try clear p2); (try clear c3); (try clear c11); (try clear c12); (try clear c14); (try clear c21); (try clear c21b0); (try clear c21b1); (try clear c21b2); (try clear hcz13_0); (try clear hcz13_1); (try clear hcz13_2); (try clear hcz15_0); (try clear hcz15_1); (try clear hcz15_2); (try clear hcz17_0); (try clear hcz17_1); (try clear hcz17_2); (try clear hcz19_0); (try clear hcz19_1); (try clear hcz19_2); (try clear hfz13_0); (try clear hfz13_1); (try clear hfz13_2); (try clear hfz15_0); (try clear hfz15_1); (try clear hfz15_2); (try clear hfz17_0); (try clear hfz17_1); (try clear hfz17_2); (try clear hfz19_0); (try clear hfz19_1); (try clear hfz19_2)
  obtain ⟨kq, x40_7, rfl, HA, HJ7, BK361, BK362, HB⟩ := hcut
  cases kq with
  | zero => exact absurd HA.out (by simp [unisonlaw01_ValueBack.j0])
  | succ kj7 =>
   have H := HA.out; clear HA
   simp only [unisonlaw01_ValueBack.j0] at H
   by_cases c22 : x40_7 = true
   ·
    subst c22
    have H1 : (none) = some r := by (first | rw [if_pos rfl] at H | rw [if_pos True.intro] at H | skip); exact H
    clear H; have H := H1; clear H1
    exact absurd H (by simp)
   ·
    replace c22 := Bool.eq_false_iff.mpr c22
    subst c22
    have H1 : (if t364 = true then (unisonlaw01_ValueBack.j1 kj7 t363 t366 t368 (!t365) a0_0 a0_1 a0_2 a1_0 a1_1 a1_2) else (unisonlaw01_ValueBack.j1 kj7 t363 t366 t368 true a0_0 a0_1 a0_2 a1_0 a1_1 a1_2)) = some r := by rw [if_neg (show ¬ (false = true) by decide)] at H; exact H
    clear H; have H := H1; clear H1; have HC23 := Aside0.mk H; clear H
    go_upto_region 8 with (fail)
    go_cut [46] (fun v46 wc => ∃ (kq : Nat) (x46_22 : Bool), v46 = .bool x46_22 ∧ Aside0 (unisonlaw01_ValueBack.j1 kq t363 t366 t368 x46_22 a0_0 a0_1 a0_2 a1_0 a1_1 a1_2 = some r) ∧ Aside0 (kq ≤ kj7) ∧ Aside0 (wc.heap[gb361]? = some (.cells #[.int .i64 a0_0, .int .i64 a0_1, .string a0_2] 23 (0, 0))) ∧ Aside0 (wc.heap[gb362]? = some (.cells #[.int .i64 a1_0, .int .i64 a1_1, .string a1_2] 23 (0, 0))) ∧ Aside0 (Below w.heap.size w wc))
    case first =>
     have H := HC23.out; clear HC23
     by_cases c24 : t364 = true
     ·
      subst c24
      have H1 : (unisonlaw01_ValueBack.j1 kj7 t363 t366 t368 (!t365) a0_0 a0_1 a0_2 a1_0 a1_1 a1_2) = some r := by (first | rw [if_pos rfl] at H | rw [if_pos True.intro] at H | skip); exact H
      clear H; have H := H1; clear H1
      have H' := Aside0.mk H
      clear H
      go_wp2
      go_meet
      case rel => exact ⟨_, (!t365), (by first | rfl | (simp; done) | (simp [*]; done)), H', ⟨by have := HJ7.out; first | omega | exact Nat.le_refl _⟩, ⟨by (with_reducible repeat (first | refine blk_drewN ?_ _ | refine blk_drew ?_ | refine blk_alloc ?_ _)); exact BK361.out⟩, ⟨by (with_reducible repeat (first | refine blk_drewN ?_ _ | refine blk_drew ?_ | refine blk_alloc ?_ _)); exact BK362.out⟩, ⟨by repeat (first | (with_reducible first | exact HB.out | apply below_alloc | apply pw_below_drewN | apply below_drew1 | refine below_set ?_ GE361.out | refine below_set ?_ GE362.out) | exact HB.out)⟩⟩
     ·
      replace c24 := Bool.eq_false_iff.mpr c24
      subst c24
      have H1 : (unisonlaw01_ValueBack.j1 kj7 t363 t366 t368 true a0_0 a0_1 a0_2 a1_0 a1_1 a1_2) = some r := by rw [if_neg (show ¬ (false = true) by decide)] at H; exact H
      clear H; have H := H1; clear H1
      have H' := Aside0.mk H
      clear H
      go_wp2
      go_meet
      case rel => exact ⟨_, (true), (by first | rfl | (simp; done) | (simp [*]; done)), H', ⟨by have := HJ7.out; first | omega | exact Nat.le_refl _⟩, ⟨by (with_reducible repeat (first | refine blk_drewN ?_ _ | refine blk_drew ?_ | refine blk_alloc ?_ _)); exact BK361.out⟩, ⟨by (with_reducible repeat (first | refine blk_drewN ?_ _ | refine blk_drew ?_ | refine blk_alloc ?_ _)); exact BK362.out⟩, ⟨by repeat (first | (with_reducible first | exact HB.out | apply below_alloc | apply pw_below_drewN | apply below_drew1 | refine below_set ?_ GE361.out | refine below_set ?_ GE362.out) | exact HB.out)⟩⟩
    case rest =>
     clear HC23; (try clear c1); (try clear c2); (try clear p2); (try clear c3); (try clear c11); (try clear c12); (try clear c14); (try clear c21); (try clear c21b0); (try clear c21b1); (try clear c21b2); (try clear c22); (try clear c24); (try clear hcz13_0); (try clear hcz13_1); (try clear hcz13_2); (try clear hcz15_0); (try clear hcz15_1); (try clear hcz15_2); (try clear hcz17_0); (try clear hcz17_1); (try clear hcz17_2); (try clear hcz19_0); (try clear hcz19_1); (try clear hcz19_2); (try clear hfz13_0); (try clear hfz13_1); (try clear hfz13_2); (try clear hfz15_0); (try clear hfz15_1); (try clear hfz15_2); (try clear hfz17_0); (try clear hfz17_1); (try clear hfz17_2); (try clear hfz19_0); (try clear hfz19_1); (try clear hfz19_2); (try clear p2)
     obtain ⟨kq, x46_22, rfl, HA, HJ22, BK361, BK362, HB⟩ := hcut
     cases kq with
     | zero => exact absurd HA.out (by simp [unisonlaw01_ValueBack.j1])
     | succ kj22 =>
      have H := HA.out; clear HA
      simp only [unisonlaw01_ValueBack.j1] at H
      by_cases c25 : x46_22 = true
      ·
       subst c25
       have H1 : (some t363) = some r := by (first | rw [if_pos rfl] at H | rw [if_pos True.intro] at H | skip); exact H
       clear H; have H := H1; clear H1
       obtain rfl := Option.some.inj H
       go_wp2
       go_ret
       exact ⟨by first | (simp only [ByteArray.size_extract, Nat.min_self]; rfl) | rfl | (simp [errW_none, errW_some] <;> rfl) | (simp [*, errW_none, errW_some] <;> rfl), by repeat (first | (with_reducible first | exact HB.out | apply below_alloc | apply pw_below_drewN | apply below_drew1 | refine below_set ?_ GE361.out | refine below_set ?_ GE362.out) | exact HB.out)⟩
      ·
       replace c25 := Bool.eq_false_iff.mpr c25
       subst c25
       have H1 : ((value_Parse.f t366).bind fun bt370 => ((value_Parse.f t368).bind fun bt375 => (if t363 = true then (if (bt370.1 == a0_0 && (bt370.2.1 == a0_1 && (bt370.2.2.1.toList == a0_2.toList))) = true then (if bt370.2.2.2 = 0 then (if (bt375.1 == a1_0 && (bt375.2.1 == a1_1 && (bt375.2.2.1.toList == a1_2.toList))) = true then (if bt375.2.2.2 = 0 then (some ((t366.toList == t368.toList) == (a0_0 == a1_0 && (a0_1 == a1_1 && (a0_2.toList == a1_2.toList))))) else (none)) else (none)) else (none)) else (none)) else (none)))) = some r := by rw [if_neg (show ¬ (false = true) by decide)] at H; exact H
       clear H; have H := H1; clear H1; replace H := Option.bind_eq_some_iff.mp H
       obtain ⟨⟨t370, t371, t372, t373⟩, A260, H⟩ := H
       replace H : ((value_Parse.f t368).bind fun bt375 => (if t363 = true then (if (t370 == a0_0 && (t371 == a0_1 && (t372.toList == a0_2.toList))) = true then (if t373 = 0 then (if (bt375.1 == a1_0 && (bt375.2.1 == a1_1 && (bt375.2.2.1.toList == a1_2.toList))) = true then (if bt375.2.2.2 = 0 then (some ((t366.toList == t368.toList) == (a0_0 == a1_0 && (a0_1 == a1_1 && (a0_2.toList == a1_2.toList))))) else (none)) else (none)) else (none)) else (none)) else (none))) = some r := H; have A26 := Aside0.mk A260; clear A260; replace H := Option.bind_eq_some_iff.mp H
       obtain ⟨⟨t375, t376, t377, t378⟩, A270, H⟩ := H
       replace H : (if t363 = true then (if (t370 == a0_0 && (t371 == a0_1 && (t372.toList == a0_2.toList))) = true then (if t373 = 0 then (if (t375 == a1_0 && (t376 == a1_1 && (t377.toList == a1_2.toList))) = true then (if t378 = 0 then (some ((t366.toList == t368.toList) == (a0_0 == a1_0 && (a0_1 == a1_1 && (a0_2.toList == a1_2.toList))))) else (none)) else (none)) else (none)) else (none)) else (none)) = some r := H; have A27 := Aside0.mk A270; clear A270
       by_cases c28 : t363 = true
       ·
        subst c28
        have H1 : (if (t370 == a0_0 && (t371 == a0_1 && (t372.toList == a0_2.toList))) = true then (if t373 = 0 then (if (t375 == a1_0 && (t376 == a1_1 && (t377.toList == a1_2.toList))) = true then (if t378 = 0 then (some ((t366.toList == t368.toList) == (a0_0 == a1_0 && (a0_1 == a1_1 && (a0_2.toList == a1_2.toList))))) else (none)) else (none)) else (none)) else (none)) = some r := by (first | rw [if_pos rfl] at H | rw [if_pos True.intro] at H | skip); exact H
        clear H; have H := H1; clear H1
        by_cases c29 : (t370 == a0_0 && (t371 == a0_1 && (t372.toList == a0_2.toList))) = true
        ·
         rw [if_pos c29] at H
         have c29b0 : (t370 == a0_0 && (t371 == a0_1 && (t372.toList == a0_2.toList))) = true := c29
         (try (have c29b1 : decide (t370 = a0_0 && (t371 == a0_1 && (t372.toList == a0_2.toList))) = true := by simpa using c29))
         (try (have c29b2 : (t370 == a0_0 && (t371 == a0_1 && (t372.toList == a0_2.toList))) = true := by simpa using c29))
         clear c29
         by_cases c30 : t373 = 0
         ·
          rw [if_pos c30] at H
          have c30b0 : (t373 == 0) = true := beq_iff_eq.mpr c30; have c30b1 : (t373 != 0) = false := bne_eq_false_iff_eq.mpr c30; clear c30
          by_cases c31 : (t375 == a1_0 && (t376 == a1_1 && (t377.toList == a1_2.toList))) = true
          ·
           rw [if_pos c31] at H
           have c31b0 : (t375 == a1_0 && (t376 == a1_1 && (t377.toList == a1_2.toList))) = true := c31
           (try (have c31b1 : decide (t375 = a1_0 && (t376 == a1_1 && (t377.toList == a1_2.toList))) = true := by simpa using c31))
           (try (have c31b2 : (t375 == a1_0 && (t376 == a1_1 && (t377.toList == a1_2.toList))) = true := by simpa using c31))
           clear c31
           by_cases c32 : t378 = 0
           ·
            rw [if_pos c32] at H
            have c32b0 : (t378 == 0) = true := beq_iff_eq.mpr c32; have c32b1 : (t378 != 0) = false := bne_eq_false_iff_eq.mpr c32; clear c32
            obtain rfl := Option.some.inj H
            go_wp2_with (first | ((with_reducible refine gate_callee (f := 36) rfl ?_); refine gL (some 50) Tryd.func36 #[.string t366] ?_; (with_reducible refine (value_Parse.calls t366 t370 t371 t372 t373 _ A26.out (gk HG)).mono ?_); rintro e w33 ⟨rfl, hb⟩; refine ⟨_, rfl, ?_⟩; replace BK361 := bb BK361 hb; replace BK362 := bb BK362 hb; replace HB := bs hb; (try clear hb); (try clear hb2); (try clear hk); (try clear hi)) | ((with_reducible refine gate_dst (N := 12) rfl ?_); refine box_event ?hg (N := 12) ?hd (cs := #[.int .i64 0, .int .i64 0, .string (⟨#[]⟩ : ByteArray)]) (t := 23) ?hr ?_; (case hd => rfl); (case hg => rfl); (case hr => first | (go_simp; done) | (go_simp; rfl)); intro gb374 hg w34 hbox hb; have BK374 := Aside0.mk (hbox); have GW374 := bz hg; have GE374 := bz hg; have NB361_374 := bl BK361 hg; have NB374_361 := bg BK361 hg; have NB362_374 := bl BK362 hg; have NB374_362 := bg BK362 hg; replace BK361 := bb BK361 hb; replace BK362 := bb BK362 hb; replace HB := bs hb; clear hb hbox hg; have hnb35 := NB374_361.out; have hnc35 := NB361_374.out; have hnb36 := NB374_362.out; have hnc36 := NB362_374.out; have hcz37_0 : w34.cell? ⟨gb374, 0, none⟩ = some (.int .i64 0) := (blk_cell BK374.out 0).trans rfl; have hcz37_1 : w34.cell? ⟨gb374, 1, none⟩ = some (.int .i64 0) := (blk_cell BK374.out 1).trans rfl; have hcz37_2 : w34.cell? ⟨gb374, 2, none⟩ = some (.string (⟨#[]⟩ : ByteArray)) := (blk_cell BK374.out 2).trans rfl; have hfz37_0 := blk_frozen BK374.out 0; have hfz37_1 := blk_frozen BK374.out 1; have hfz37_2 := blk_frozen BK374.out 2) | ((with_reducible refine gate_store (t := 23) (p := 12) rfl ?_); refine store_event (t := 23) (p := 12) (v := ?vo_w38) (w1 := (((w34.setCell ⟨gb374, 0, none⟩ (.int .i64 t370)).setCell ⟨gb374, 1, none⟩ (.int .i64 t371)).setCell ⟨gb374, 2, none⟩ (.string t372))) ?hg ?ho ?hn ?hr ?_; (case ho => rfl); (case hg => rfl); (case hn => rfl); (case hr => first | (go_simp; done) | (go_simp; rfl)); intro w38 hw; replace BK361 := bw BK361 hw; replace BK362 := bw BK362 hw; replace BK374 : Aside0 (w38.heap[gb374]? = some (.cells #[.int .i64 t370, .int .i64 t371, .string t372] 23 (0, 0))) := bp BK374 hw; replace HB := bv hw; clear hw) | ((with_reducible refine gate_callee (f := 36) rfl ?_); refine gL (some 55) Tryd.func36 #[.string t368] ?_; (with_reducible refine (value_Parse.calls t368 t375 t376 t377 t378 _ A27.out (gk HG)).mono ?_); rintro e w39 ⟨rfl, hb⟩; refine ⟨_, rfl, ?_⟩; replace BK361 := bb BK361 hb; replace BK362 := bb BK362 hb; replace BK374 := bb BK374 hb; replace HB := bs hb; (try clear hb); (try clear hb2); (try clear hk); (try clear hi)) | ((with_reducible refine gate_dst (N := 14) rfl ?_); refine box_event ?hg (N := 14) ?hd (cs := #[.int .i64 0, .int .i64 0, .string (⟨#[]⟩ : ByteArray)]) (t := 23) ?hr ?_; (case hd => rfl); (case hg => rfl); (case hr => first | (go_simp; done) | (go_simp; rfl)); intro gb379 hg w40 hbox hb; have BK379 := Aside0.mk (hbox); have GW379 := bz hg; have GE379 := bz hg; have NB361_379 := bl BK361 hg; have NB379_361 := bg BK361 hg; have NB362_379 := bl BK362 hg; have NB379_362 := bg BK362 hg; have NB374_379 := bl BK374 hg; have NB379_374 := bg BK374 hg; replace BK361 := bb BK361 hb; replace BK362 := bb BK362 hb; replace BK374 := bb BK374 hb; replace HB := bs hb; clear hb hbox hg; have hnb41 := NB379_361.out; have hnc41 := NB361_379.out; have hnb42 := NB379_362.out; have hnc42 := NB362_379.out; have hnb43 := NB379_374.out; have hnc43 := NB374_379.out; have hcz44_0 : w40.cell? ⟨gb379, 0, none⟩ = some (.int .i64 0) := (blk_cell BK379.out 0).trans rfl; have hcz44_1 : w40.cell? ⟨gb379, 1, none⟩ = some (.int .i64 0) := (blk_cell BK379.out 1).trans rfl; have hcz44_2 : w40.cell? ⟨gb379, 2, none⟩ = some (.string (⟨#[]⟩ : ByteArray)) := (blk_cell BK379.out 2).trans rfl; have hfz44_0 := blk_frozen BK379.out 0; have hfz44_1 := blk_frozen BK379.out 1; have hfz44_2 := blk_frozen BK379.out 2) | ((with_reducible refine gate_store (t := 23) (p := 14) rfl ?_); refine store_event (t := 23) (p := 14) (v := ?vo_w45) (w1 := (((w40.setCell ⟨gb379, 0, none⟩ (.int .i64 t375)).setCell ⟨gb379, 1, none⟩ (.int .i64 t376)).setCell ⟨gb379, 2, none⟩ (.string t377))) ?hg ?ho ?hn ?hr ?_; (case ho => rfl); (case hg => rfl); (case hn => rfl); (case hr => first | (go_simp; done) | (go_simp; rfl)); intro w45 hw; replace BK361 := bw BK361 hw; replace BK362 := bw BK362 hw; replace BK374 := bw BK374 hw; replace BK379 : Aside0 (w45.heap[gb379]? = some (.cells #[.int .i64 t375, .int .i64 t376, .string t377] 23 (0, 0))) := bp BK379 hw; replace HB := bv hw; clear hw; have hcz46_0 : w45.cell? ⟨gb374, 0, none⟩ = some (.int .i64 t370) := (blk_cell BK374.out 0).trans rfl; have hcz46_1 : w45.cell? ⟨gb374, 1, none⟩ = some (.int .i64 t371) := (blk_cell BK374.out 1).trans rfl; have hcz46_2 : w45.cell? ⟨gb374, 2, none⟩ = some (.string t372) := (blk_cell BK374.out 2).trans rfl; have hfz46_0 := blk_frozen BK374.out 0; have hfz46_1 := blk_frozen BK374.out 1; have hfz46_2 := blk_frozen BK374.out 2; have hnb47 := NB361_362.out; have hnc47 := NB362_361.out; have hcz48_0 : w45.cell? ⟨gb361, 0, none⟩ = some (.int .i64 a0_0) := (blk_cell BK361.out 0).trans rfl; have hcz48_1 : w45.cell? ⟨gb361, 1, none⟩ = some (.int .i64 a0_1) := (blk_cell BK361.out 1).trans rfl; have hcz48_2 : w45.cell? ⟨gb361, 2, none⟩ = some (.string a0_2) := (blk_cell BK361.out 2).trans rfl; have hfz48_0 := blk_frozen BK361.out 0; have hfz48_1 := blk_frozen BK361.out 1; have hfz48_2 := blk_frozen BK361.out 2; have hcz49_0 : w45.cell? ⟨gb379, 0, none⟩ = some (.int .i64 t375) := (blk_cell BK379.out 0).trans rfl; have hcz49_1 : w45.cell? ⟨gb379, 1, none⟩ = some (.int .i64 t376) := (blk_cell BK379.out 1).trans rfl; have hcz49_2 : w45.cell? ⟨gb379, 2, none⟩ = some (.string t377) := (blk_cell BK379.out 2).trans rfl; have hfz49_0 := blk_frozen BK379.out 0; have hfz49_1 := blk_frozen BK379.out 1; have hfz49_2 := blk_frozen BK379.out 2; have hcz50_0 : w45.cell? ⟨gb362, 0, none⟩ = some (.int .i64 a1_0) := (blk_cell BK362.out 0).trans rfl; have hcz50_1 : w45.cell? ⟨gb362, 1, none⟩ = some (.int .i64 a1_1) := (blk_cell BK362.out 1).trans rfl; have hcz50_2 : w45.cell? ⟨gb362, 2, none⟩ = some (.string a1_2) := (blk_cell BK362.out 2).trans rfl; have hfz50_0 := blk_frozen BK362.out 0; have hfz50_1 := blk_frozen BK362.out 1; have hfz50_2 := blk_frozen BK362.out 2))
            go_ret
            exact ⟨by first | (simp only [ByteArray.size_extract, Nat.min_self]; rfl) | rfl | (simp [errW_none, errW_some] <;> rfl) | (simp [*, errW_none, errW_some] <;> rfl), by repeat (first | (with_reducible first | exact HB.out | apply below_alloc | apply pw_below_drewN | apply below_drew1 | refine below_set ?_ GE361.out | refine below_set ?_ GE362.out | refine below_set ?_ GE374.out | refine below_set ?_ GE379.out) | exact HB.out)⟩
           ·
            rw [if_neg c32] at H
            exact absurd H (by simp)
          ·
           rw [if_neg c31] at H
           exact absurd H (by simp)
         ·
          rw [if_neg c30] at H
          exact absurd H (by simp)
        ·
         rw [if_neg c29] at H
         exact absurd H (by simp)
       ·
        replace c28 := Bool.eq_false_iff.mpr c28
        subst c28
        have H1 : (none) = some r := by rw [if_neg (show ¬ (false = true) by decide)] at H; exact H
        clear H; have H := H1; clear H1
        exact absurd H (by simp)
end Go.Proofs.YteehcopkljiikaaDoor.PA
