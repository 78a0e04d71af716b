-- Laid by a program of ours (wip/gen/xprint.py). Not trusted: Lean checks it.
import Derived.Test.YteehcopkljiikaaDoorPAx0
import Derived.Test.YteehcopkljiikaaDoorPAx1
import Derived.Test.YteehcopkljiikaaDoorPAx2
import Derived.Test.YteehcopkljiikaaDoorPAx3
import Derived.Test.YteehcopkljiikaaDoorPAx4
import Derived.Test.YteehcopkljiikaaDoorPAx8
import Derived.Test.YteehcopkljiikaaDoorPAx9
import Derived.Test.YteehcopkljiikaaDoorPAx10
import Derived.Test.YteehcopkljiikaaDoorPAx11
namespace Go.Proofs.YteehcopkljiikaaDoor.PA
open Go.RowKit Go.Proofs.YteehcopkljiikaaDoorW.PrintWords Go.Proofs.YteehcopkljiikaaDoorW.PrintLast Go.Proofs.YteehcopkljiikaaDoorW.PrintMore Go.Proofs.YteehcopkljiikaaDoorX
attribute [local go_sem] max2_int min2_int max_two min_two max_three min_three max_four min_four   -- for this text's walks alone
set_option linter.unusedVariables false
set_option linter.unusedSimpArgs false

attribute [local go_sem high] eqA23
/-! ### unisonlaw01_ValueOrders: function 3 -/
def unisonlaw01_ValueOrders.f (k : Nat) (a0 : Int) (a1_0 : Int) (a1_1 : Int) (a1_2 : ByteArray) (a2_0 : Int) (a2_1 : Int) (a2_2 : ByteArray) : Option (Bool) := (unisonlaw01_awake.f k).bind fun t307 => ((value_Right.f a1_0 a1_1 a1_2).bind fun t308 => ((unisonref01_Right.f a1_0 a1_1 a1_2).bind fun t309 => ((value_Order.f k a1_0 a1_1 a1_2 a2_0 a2_1 a2_2).bind fun t310 => ((unisonref01_Order.f a1_0 a1_1 a1_2 a2_0 a2_1 a2_2).bind fun t311 => ((value_Compare.f k a0 a1_0 a1_1 a1_2 a2_0 a2_1 a2_2).bind fun bt312 => ((unisonref01_Compare.f k a0 a1_0 a1_1 a1_2 a2_0 a2_1 a2_2).bind fun bt317 => (if t307 = true then (if (t308 == t309) = true then (if t310 = t311 then (if (bt312.1 == bt317.1 && (bt312.2.1 == bt317.2.1 && (bt312.2.2.1.toList == bt317.2.2.1.toList))) = true then (some (bt312.2.2.2 == bt317.2.2.2)) else (none)) else (none)) else (none)) else (none))))))))
theorem unisonlaw01_ValueOrders.mono : ∀ a0 a1 a2 a3 a4 a5 a6 k, LeO (unisonlaw01_ValueOrders.f k a0 a1 a2 a3 a4 a5 a6) (unisonlaw01_ValueOrders.f (k + 1) a0 a1 a2 a3 a4 a5 a6) := by
 intro a0 a1 a2 a3 a4 a5 a6 k
 unfold unisonlaw01_ValueOrders.f
 repeat' first
   | (with_reducible exact unisonlaw01_awake.mono _)
   | (with_reducible exact unisonref01_Compare.mono _ _ _ _ _ _ _ _)
   | (with_reducible exact value_Compare.mono _ _ _ _ _ _ _ _)
   | (with_reducible exact value_Order.mono _ _ _ _ _ _ _)
   | (with_reducible exact LeO.refl _)
   | (with_reducible exact LeO.none _)
   | (with_reducible refine LeO.ite ?_ ?_)
   | (with_reducible refine LeO.bind ?_ (fun _ => ?_))
   | exact unisonlaw01_awake.mono _
   | exact unisonref01_Compare.mono _ _ _ _ _ _ _ _
   | exact value_Compare.mono _ _ _ _ _ _ _ _
   | exact value_Order.mono _ _ _ _ _ _ _
   | exact LeO.none _
   | refine LeO.ite ?_ ?_
   | refine LeO.bind ?_ (fun _ => ?_)
set_option maxHeartbeats 8000000 in
set_option maxRecDepth 100000 in
theorem unisonlaw01_ValueOrders.calls (k : Nat) (a0 : Int) (a1_0 : Int) (a1_1 : Int) (a1_2 : ByteArray) (a2_0 : Int) (a2_1 : Int) (a2_2 : ByteArray) (r : Bool) (w : World) (h : unisonlaw01_ValueOrders.f k a0 a1_0 a1_1 a1_2 a2_0 a2_1 a2_2 = some r) :
  Calls Tryd.prog 3 #[.int .i64 a0, .agg #[.int .i64 a1_0, .int .i64 a1_1, .string a1_2], .agg #[.int .i64 a2_0, .int .i64 a2_1, .string a2_2]] w fun e w' => e = .returned (.bool r) ∧ Below w.heap.size w w' := by
 have hu23 := Tryd.underlying23
 have HB := Aside0.mk (Below.refl w.heap.size w)
 have H : ((unisonlaw01_awake.f k).bind fun t307 => ((value_Right.f a1_0 a1_1 a1_2).bind fun t308 => ((unisonref01_Right.f a1_0 a1_1 a1_2).bind fun t309 => ((value_Order.f k a1_0 a1_1 a1_2 a2_0 a2_1 a2_2).bind fun t310 => ((unisonref01_Order.f a1_0 a1_1 a1_2 a2_0 a2_1 a2_2).bind fun t311 => ((value_Compare.f k a0 a1_0 a1_1 a1_2 a2_0 a2_1 a2_2).bind fun bt312 => ((unisonref01_Compare.f k a0 a1_0 a1_1 a1_2 a2_0 a2_1 a2_2).bind fun bt317 => (if t307 = true then (if (t308 == t309) = true then (if t310 = t311 then (if (bt312.1 == bt317.1 && (bt312.2.1 == bt317.2.1 && (bt312.2.2.1.toList == bt317.2.2.1.toList))) = true then (some (bt312.2.2.2 == bt317.2.2.2)) else (none)) else (none)) else (none)) else (none))))))))) = some r := h
 clear h
 replace H := Option.bind_eq_some_iff.mp H
 obtain ⟨t307, A40, H⟩ := H
 replace H : ((value_Right.f a1_0 a1_1 a1_2).bind fun t308 => ((unisonref01_Right.f a1_0 a1_1 a1_2).bind fun t309 => ((value_Order.f k a1_0 a1_1 a1_2 a2_0 a2_1 a2_2).bind fun t310 => ((unisonref01_Order.f a1_0 a1_1 a1_2 a2_0 a2_1 a2_2).bind fun t311 => ((value_Compare.f k a0 a1_0 a1_1 a1_2 a2_0 a2_1 a2_2).bind fun bt312 => ((unisonref01_Compare.f k a0 a1_0 a1_1 a1_2 a2_0 a2_1 a2_2).bind fun bt317 => (if t307 = true then (if (t308 == t309) = true then (if t310 = t311 then (if (bt312.1 == bt317.1 && (bt312.2.1 == bt317.2.1 && (bt312.2.2.1.toList == bt317.2.2.1.toList))) = true then (some (bt312.2.2.2 == bt317.2.2.2)) else (none)) else (none)) else (none)) else (none)))))))) = some r := H
 have A4 := Aside0.mk A40
 clear A40
 replace H := Option.bind_eq_some_iff.mp H
 obtain ⟨t308, A50, H⟩ := H
 replace H : ((unisonref01_Right.f a1_0 a1_1 a1_2).bind fun t309 => ((value_Order.f k a1_0 a1_1 a1_2 a2_0 a2_1 a2_2).bind fun t310 => ((unisonref01_Order.f a1_0 a1_1 a1_2 a2_0 a2_1 a2_2).bind fun t311 => ((value_Compare.f k a0 a1_0 a1_1 a1_2 a2_0 a2_1 a2_2).bind fun bt312 => ((unisonref01_Compare.f k a0 a1_0 a1_1 a1_2 a2_0 a2_1 a2_2).bind fun bt317 => (if t307 = true then (if (t308 == t309) = true then (if t310 = t311 then (if (bt312.1 == bt317.1 && (bt312.2.1 == bt317.2.1 && (bt312.2.2.1.toList == bt317.2.2.1.toList))) = true then (some (bt312.2.2.2 == bt317.2.2.2)) else (none)) else (none)) else (none)) else (none))))))) = some r := H
 have A5 := Aside0.mk A50
 clear A50
 replace H := Option.bind_eq_some_iff.mp H
 obtain ⟨t309, A60, H⟩ := H
 replace H : ((value_Order.f k a1_0 a1_1 a1_2 a2_0 a2_1 a2_2).bind fun t310 => ((unisonref01_Order.f a1_0 a1_1 a1_2 a2_0 a2_1 a2_2).bind fun t311 => ((value_Compare.f k a0 a1_0 a1_1 a1_2 a2_0 a2_1 a2_2).bind fun bt312 => ((unisonref01_Compare.f k a0 a1_0 a1_1 a1_2 a2_0 a2_1 a2_2).bind fun bt317 => (if t307 = true then (if (t308 == t309) = true then (if t310 = t311 then (if (bt312.1 == bt317.1 && (bt312.2.1 == bt317.2.1 && (bt312.2.2.1.toList == bt317.2.2.1.toList))) = true then (some (bt312.2.2.2 == bt317.2.2.2)) else (none)) else (none)) else (none)) else (none)))))) = some r := H
 have A6 := Aside0.mk A60
 clear A60
 replace H := Option.bind_eq_some_iff.mp H
 obtain ⟨t310, A70, H⟩ := H
 replace H : ((unisonref01_Order.f a1_0 a1_1 a1_2 a2_0 a2_1 a2_2).bind fun t311 => ((value_Compare.f k a0 a1_0 a1_1 a1_2 a2_0 a2_1 a2_2).bind fun bt312 => ((unisonref01_Compare.f k a0 a1_0 a1_1 a1_2 a2_0 a2_1 a2_2).bind fun bt317 => (if t307 = true then (if (t308 == t309) = true then (if t310 = t311 then (if (bt312.1 == bt317.1 && (bt312.2.1 == bt317.2.1 && (bt312.2.2.1.toList == bt317.2.2.1.toList))) = true then (some (bt312.2.2.2 == bt317.2.2.2)) else (none)) else (none)) else (none)) else (none))))) = some r := H
 have A7 := Aside0.mk A70
 clear A70
 replace H := Option.bind_eq_some_iff.mp H
 obtain ⟨t311, A80, H⟩ := H
 replace H : ((value_Compare.f k a0 a1_0 a1_1 a1_2 a2_0 a2_1 a2_2).bind fun bt312 => ((unisonref01_Compare.f k a0 a1_0 a1_1 a1_2 a2_0 a2_1 a2_2).bind fun bt317 => (if t307 = true then (if (t308 == t309) = true then (if t310 = t311 then (if (bt312.1 == bt317.1 && (bt312.2.1 == bt317.2.1 && (bt312.2.2.1.toList == bt317.2.2.1.toList))) = true then (some (bt312.2.2.2 == bt317.2.2.2)) else (none)) else (none)) else (none)) else (none)))) = some r := H
 have A8 := Aside0.mk A80
 clear A80
 replace H := Option.bind_eq_some_iff.mp H
 obtain ⟨⟨t312, t313, t314, t315⟩, A90, H⟩ := H
 replace H : ((unisonref01_Compare.f k a0 a1_0 a1_1 a1_2 a2_0 a2_1 a2_2).bind fun bt317 => (if t307 = true then (if (t308 == t309) = true then (if t310 = t311 then (if (t312 == bt317.1 && (t313 == bt317.2.1 && (t314.toList == bt317.2.2.1.toList))) = true then (some (t315 == bt317.2.2.2)) else (none)) else (none)) else (none)) else (none))) = some r := H
 have A9 := Aside0.mk A90
 clear A90
 replace H := Option.bind_eq_some_iff.mp H
 obtain ⟨⟨t317, t318, t319, t320⟩, A100, H⟩ := H
 replace H : (if t307 = true then (if (t308 == t309) = true then (if t310 = t311 then (if (t312 == t317 && (t313 == t318 && (t314.toList == t319.toList))) = true then (some (t315 == t320)) else (none)) else (none)) else (none)) else (none)) = some r := H
 have A10 := Aside0.mk A100
 clear A100
 by_cases c11 : t307 = true
 ·
  subst c11
  have H1 : (if (t308 == t309) = true then (if t310 = t311 then (if (t312 == t317 && (t313 == t318 && (t314.toList == t319.toList))) = true then (some (t315 == t320)) else (none)) else (none)) else (none)) = some r := by (first | rw [if_pos rfl] at H | rw [if_pos True.intro] at H | skip); exact H
  clear H
  have H := H1
  clear H1
  by_cases c12 : (t308 == t309) = true
  ·
   rw [if_pos c12] at H
   have c12b0 : (t308 == t309) = true := c12
   (try (have c12b1 : decide (t308 = t309) = true := by simpa using c12))
   (try (have c12b2 : (t308 == t309) = true := by simpa using c12))
   clear c12
   by_cases c13 : t310 = t311
   ·
    rw [if_pos c13] at H
    have c13b0 : (t310 == t311) = true := beq_iff_eq.mpr c13
    have c13b1 : (t310 != t311) = false := bne_eq_false_iff_eq.mpr c13
    clear c13
    by_cases c14 : (t312 == t317 && (t313 == t318 && (t314.toList == t319.toList))) = true
    ·
     rw [if_pos c14] at H
     have c14b0 : (t312 == t317 && (t313 == t318 && (t314.toList == t319.toList))) = true := c14
     (try (have c14b1 : decide (t312 = t317 && (t313 == t318 && (t314.toList == t319.toList))) = true := by simpa using c14))
     (try (have c14b2 : (t312 == t317 && (t313 == t318 && (t314.toList == t319.toList))) = true := by simpa using c14))
     clear c14
     obtain rfl := Option.some.inj H
     go_enter Tryd.func3, Tryd.ntmps3
     go_wp2_with (first | ((with_reducible refine gate_dst (N := 4) rfl ?_); refine box_event ?hg (N := 4) ?hd (cs := #[.int .i64 a1_0, .int .i64 a1_1, .string a1_2]) (t := 23) ?hr ?_; (case hd => rfl); (case hg => rfl); (case hr => first | (go_simp; done) | (go_simp; rfl)); intro gb305 hg w15 hbox hb; have n0_ := Aside0.mk (below_step (by repeat (first | (with_reducible first | exact HB.out | apply pA | apply pN | apply pD) | exact HB.out)) hb); have n1_ := Aside0.mk (hbox); have n2_ := Aside0.mk ((by rw [hg]; exact (below_size (by repeat (first | (with_reducible first | exact HB.out | apply pA | apply pN | apply pD) | exact HB.out))) : w.heap.size ≤ gb305)); have n3_ := Aside0.mk ((by rw [hg]; exact (below_size (by repeat (first | (with_reducible first | exact HB.out | apply pA | apply pN | apply pD) | exact HB.out))) : w.heap.size ≤ gb305)); clear HB; have HB := n0_; have BK305 := n1_; have GW305 := n2_; have GE305 := n3_; clear n0_ n1_ n2_ n3_; clear hb hbox hg) | ((with_reducible refine gate_dst (N := 5) rfl ?_); refine box_event ?hg (N := 5) ?hd (cs := #[.int .i64 a2_0, .int .i64 a2_1, .string a2_2]) (t := 23) ?hr ?_; (case hd => rfl); (case hg => rfl); (case hr => first | (go_simp; done) | (go_simp; rfl)); intro gb306 hg w16 hbox hb; have n0_ := Aside0.mk (blk_below (g := gb305) (o := .cells #[.int .i64 a1_0, .int .i64 a1_1, .string a1_2] 23 (0, 0)) (by (with_reducible repeat first | apply bN | apply bD | apply bA); exact BK305.out) hb); have n1_ := Aside0.mk (below_step (by repeat (first | (with_reducible first | exact HB.out | apply pA | apply pN | apply pD | refine pS ?_ GE305.out) | exact HB.out)) hb); have n2_ := Aside0.mk (hbox); have n3_ := Aside0.mk ((by rw [hg]; exact (below_size (by repeat (first | (with_reducible first | exact HB.out | apply pA | apply pN | apply pD | refine pS ?_ GE305.out) | exact HB.out))) : w.heap.size ≤ gb306)); have n4_ := Aside0.mk ((by rw [hg]; exact (below_size (by repeat (first | (with_reducible first | exact HB.out | apply pA | apply pN | apply pD | refine pS ?_ GE305.out) | exact HB.out))) : w.heap.size ≤ gb306)); have n5_ := Aside0.mk ((by rw [hg]; exact Nat.ne_of_lt (blk_lt (g := gb305) (o := .cells #[.int .i64 a1_0, .int .i64 a1_1, .string a1_2] 23 (0, 0)) (by (with_reducible repeat first | apply bN | apply bD | apply bA); exact BK305.out)) : gb305 ≠ gb306)); have n6_ := Aside0.mk ((by rw [hg]; exact Nat.ne_of_gt (blk_lt (g := gb305) (o := .cells #[.int .i64 a1_0, .int .i64 a1_1, .string a1_2] 23 (0, 0)) (by (with_reducible repeat first | apply bN | apply bD | apply bA); exact BK305.out)) : gb306 ≠ gb305)); clear BK305; clear HB; have BK305 := n0_; have HB := n1_; have BK306 := n2_; have GW306 := n3_; have GE306 := n4_; have NB305_306 := n5_; have NB306_305 := n6_; clear n0_ n1_ n2_ n3_ n4_ n5_ n6_; clear hb hbox hg) | ((with_reducible refine gate_callee (f := 12) rfl ?_); refine goesL_ (some 16) rfl rfl Tryd.func12 (by kernel_rfl) rfl #[] rfl (by (try simp only [List.map_toArray, List.map_cons, List.map_nil]); first | done | rfl | (simp only [List.length_drop, List.length_take]; rfl)) ?_; (with_reducible refine (unisonlaw01_awake.calls k  true _ A4.out).mono ?_); rintro e w17 ⟨rfl, hb⟩; refine ⟨_, rfl, ?_⟩; have n0_ := Aside0.mk (blk_below (g := gb305) (o := .cells #[.int .i64 a1_0, .int .i64 a1_1, .string a1_2] 23 (0, 0)) (by (with_reducible repeat first | apply bN | apply bD | apply bA); exact BK305.out) hb); have n1_ := Aside0.mk (blk_below (g := gb306) (o := .cells #[.int .i64 a2_0, .int .i64 a2_1, .string a2_2] 23 (0, 0)) (by (with_reducible repeat first | apply bN | apply bD | apply bA); exact BK306.out) hb); have n2_ := Aside0.mk (below_step (by repeat (first | (with_reducible first | exact HB.out | apply pA | apply pN | apply pD | refine pS ?_ GE305.out | refine pS ?_ GE306.out) | exact HB.out)) hb); clear BK305; clear BK306; clear HB; have BK305 := n0_; have BK306 := n1_; have HB := n2_; clear n0_ n1_ n2_; (try clear hb); (try clear hb2); (try clear hk); (try clear hi); have hnb18 := NB305_306.out; have hnc18 := NB306_305.out; have hcz19_0 : w17.cell? ⟨gb305, 0, none⟩ = some (.int .i64 a1_0) := (blk_cell BK305.out 0).trans rfl; have hcz19_1 : w17.cell? ⟨gb305, 1, none⟩ = some (.int .i64 a1_1) := (blk_cell BK305.out 1).trans rfl; have hcz19_2 : w17.cell? ⟨gb305, 2, none⟩ = some (.string a1_2) := (blk_cell BK305.out 2).trans rfl; have hfz19_0 := blk_frozen BK305.out 0; have hfz19_1 := blk_frozen BK305.out 1; have hfz19_2 := blk_frozen BK305.out 2) | ((with_reducible refine gate_callee (f := 13) rfl ?_); refine goesL_ (some 18) rfl rfl Tryd.func13 (by kernel_rfl) rfl #[.agg #[.int .i64 a1_0, .int .i64 a1_1, .string a1_2]] rfl (by (try simp only [List.map_toArray, List.map_cons, List.map_nil]); first | done | rfl | (simp only [List.length_drop, List.length_take]; rfl)) ?_; (with_reducible refine (value_Right.calls a1_0 a1_1 a1_2 t308 _ A5.out).mono ?_); rintro e w20 ⟨rfl, hb⟩; refine ⟨_, rfl, ?_⟩; have n0_ := Aside0.mk (blk_below (g := gb305) (o := .cells #[.int .i64 a1_0, .int .i64 a1_1, .string a1_2] 23 (0, 0)) (by (with_reducible repeat first | apply bN | apply bD | apply bA); exact BK305.out) hb); have n1_ := Aside0.mk (blk_below (g := gb306) (o := .cells #[.int .i64 a2_0, .int .i64 a2_1, .string a2_2] 23 (0, 0)) (by (with_reducible repeat first | apply bN | apply bD | apply bA); exact BK306.out) hb); have n2_ := Aside0.mk (below_step (by repeat (first | (with_reducible first | exact HB.out | apply pA | apply pN | apply pD | refine pS ?_ GE305.out | refine pS ?_ GE306.out) | exact HB.out)) hb); clear BK305; clear BK306; clear HB; have BK305 := n0_; have BK306 := n1_; have HB := n2_; clear n0_ n1_ n2_; (try clear hb); (try clear hb2); (try clear hk); (try clear hi); have hcz21_0 : w20.cell? ⟨gb305, 0, none⟩ = some (.int .i64 a1_0) := (blk_cell BK305.out 0).trans rfl; have hcz21_1 : w20.cell? ⟨gb305, 1, none⟩ = some (.int .i64 a1_1) := (blk_cell BK305.out 1).trans rfl; have hcz21_2 : w20.cell? ⟨gb305, 2, none⟩ = some (.string a1_2) := (blk_cell BK305.out 2).trans rfl; have hfz21_0 := blk_frozen BK305.out 0; have hfz21_1 := blk_frozen BK305.out 1; have hfz21_2 := blk_frozen BK305.out 2) | ((with_reducible refine gate_callee (f := 14) rfl ?_); refine goesL_ (some 20) rfl rfl Tryd.func14 (by kernel_rfl) rfl #[.agg #[.int .i64 a1_0, .int .i64 a1_1, .string a1_2]] rfl (by (try simp only [List.map_toArray, List.map_cons, List.map_nil]); first | done | rfl | (simp only [List.length_drop, List.length_take]; rfl)) ?_; (with_reducible refine (unisonref01_Right.calls a1_0 a1_1 a1_2 t309 _ A6.out).mono ?_); rintro e w22 ⟨rfl, hb⟩; refine ⟨_, rfl, ?_⟩; have n0_ := Aside0.mk (blk_below (g := gb305) (o := .cells #[.int .i64 a1_0, .int .i64 a1_1, .string a1_2] 23 (0, 0)) (by (with_reducible repeat first | apply bN | apply bD | apply bA); exact BK305.out) hb); have n1_ := Aside0.mk (blk_below (g := gb306) (o := .cells #[.int .i64 a2_0, .int .i64 a2_1, .string a2_2] 23 (0, 0)) (by (with_reducible repeat first | apply bN | apply bD | apply bA); exact BK306.out) hb); have n2_ := Aside0.mk (below_step (by repeat (first | (with_reducible first | exact HB.out | apply pA | apply pN | apply pD | refine pS ?_ GE305.out | refine pS ?_ GE306.out) | exact HB.out)) hb); clear BK305; clear BK306; clear HB; have BK305 := n0_; have BK306 := n1_; have HB := n2_; clear n0_ n1_ n2_; (try clear hb); (try clear hb2); (try clear hk); (try clear hi); have hcz23_0 : w22.cell? ⟨gb305, 0, none⟩ = some (.int .i64 a1_0) := (blk_cell BK305.out 0).trans rfl; have hcz23_1 : w22.cell? ⟨gb305, 1, none⟩ = some (.int .i64 a1_1) := (blk_cell BK305.out 1).trans rfl; have hcz23_2 : w22.cell? ⟨gb305, 2, none⟩ = some (.string a1_2) := (blk_cell BK305.out 2).trans rfl; have hfz23_0 := blk_frozen BK305.out 0; have hfz23_1 := blk_frozen BK305.out 1; have hfz23_2 := blk_frozen BK305.out 2; have hcz24_0 : w22.cell? ⟨gb306, 0, none⟩ = some (.int .i64 a2_0) := (blk_cell BK306.out 0).trans rfl; have hcz24_1 : w22.cell? ⟨gb306, 1, none⟩ = some (.int .i64 a2_1) := (blk_cell BK306.out 1).trans rfl; have hcz24_2 : w22.cell? ⟨gb306, 2, none⟩ = some (.string a2_2) := (blk_cell BK306.out 2).trans rfl; have hfz24_0 := blk_frozen BK306.out 0; have hfz24_1 := blk_frozen BK306.out 1; have hfz24_2 := blk_frozen BK306.out 2) | ((with_reducible refine gate_callee (f := 15) rfl ?_); refine goesL_ (some 23) rfl rfl Tryd.func15 (by kernel_rfl) rfl #[.agg #[.int .i64 a1_0, .int .i64 a1_1, .string a1_2], .agg #[.int .i64 a2_0, .int .i64 a2_1, .string a2_2]] rfl (by (try simp only [List.map_toArray, List.map_cons, List.map_nil]); first | done | rfl | (simp only [List.length_drop, List.length_take]; rfl)) ?_; (with_reducible refine (value_Order.calls k a1_0 a1_1 a1_2 a2_0 a2_1 a2_2 t310 _ A7.out).mono ?_); rintro e w25 ⟨rfl, hb⟩; refine ⟨_, rfl, ?_⟩; have n0_ := Aside0.mk (blk_below (g := gb305) (o := .cells #[.int .i64 a1_0, .int .i64 a1_1, .string a1_2] 23 (0, 0)) (by (with_reducible repeat first | apply bN | apply bD | apply bA); exact BK305.out) hb); have n1_ := Aside0.mk (blk_below (g := gb306) (o := .cells #[.int .i64 a2_0, .int .i64 a2_1, .string a2_2] 23 (0, 0)) (by (with_reducible repeat first | apply bN | apply bD | apply bA); exact BK306.out) hb); have n2_ := Aside0.mk (below_step (by repeat (first | (with_reducible first | exact HB.out | apply pA | apply pN | apply pD | refine pS ?_ GE305.out | refine pS ?_ GE306.out) | exact HB.out)) hb); clear BK305; clear BK306; clear HB; have BK305 := n0_; have BK306 := n1_; have HB := n2_; clear n0_ n1_ n2_; (try clear hb); (try clear hb2); (try clear hk); (try clear hi); have hcz26_0 : w25.cell? ⟨gb305, 0, none⟩ = some (.int .i64 a1_0) := (blk_cell BK305.out 0).trans rfl; have hcz26_1 : w25.cell? ⟨gb305, 1, none⟩ = some (.int .i64 a1_1) := (blk_cell BK305.out 1).trans rfl; have hcz26_2 : w25.cell? ⟨gb305, 2, none⟩ = some (.string a1_2) := (blk_cell BK305.out 2).trans rfl; have hfz26_0 := blk_frozen BK305.out 0; have hfz26_1 := blk_frozen BK305.out 1; have hfz26_2 := blk_frozen BK305.out 2; have hcz27_0 : w25.cell? ⟨gb306, 0, none⟩ = some (.int .i64 a2_0) := (blk_cell BK306.out 0).trans rfl; have hcz27_1 : w25.cell? ⟨gb306, 1, none⟩ = some (.int .i64 a2_1) := (blk_cell BK306.out 1).trans rfl; have hcz27_2 : w25.cell? ⟨gb306, 2, none⟩ = some (.string a2_2) := (blk_cell BK306.out 2).trans rfl; have hfz27_0 := blk_frozen BK306.out 0; have hfz27_1 := blk_frozen BK306.out 1; have hfz27_2 := blk_frozen BK306.out 2) | ((with_reducible refine gate_callee (f := 16) rfl ?_); refine goesL_ (some 26) rfl rfl Tryd.func16 (by kernel_rfl) rfl #[.agg #[.int .i64 a1_0, .int .i64 a1_1, .string a1_2], .agg #[.int .i64 a2_0, .int .i64 a2_1, .string a2_2]] rfl (by (try simp only [List.map_toArray, List.map_cons, List.map_nil]); first | done | rfl | (simp only [List.length_drop, List.length_take]; rfl)) ?_; (with_reducible refine (unisonref01_Order.calls a1_0 a1_1 a1_2 a2_0 a2_1 a2_2 t311 _ A8.out).mono ?_); rintro e w28 ⟨rfl, hb⟩; refine ⟨_, rfl, ?_⟩; have n0_ := Aside0.mk (blk_below (g := gb305) (o := .cells #[.int .i64 a1_0, .int .i64 a1_1, .string a1_2] 23 (0, 0)) (by (with_reducible repeat first | apply bN | apply bD | apply bA); exact BK305.out) hb); have n1_ := Aside0.mk (blk_below (g := gb306) (o := .cells #[.int .i64 a2_0, .int .i64 a2_1, .string a2_2] 23 (0, 0)) (by (with_reducible repeat first | apply bN | apply bD | apply bA); exact BK306.out) hb); have n2_ := Aside0.mk (below_step (by repeat (first | (with_reducible first | exact HB.out | apply pA | apply pN | apply pD | refine pS ?_ GE305.out | refine pS ?_ GE306.out) | exact HB.out)) hb); clear BK305; clear BK306; clear HB; have BK305 := n0_; have BK306 := n1_; have HB := n2_; clear n0_ n1_ n2_; (try clear hb); (try clear hb2); (try clear hk); (try clear hi); have hcz29_0 : w28.cell? ⟨gb305, 0, none⟩ = some (.int .i64 a1_0) := (blk_cell BK305.out 0).trans rfl; have hcz29_1 : w28.cell? ⟨gb305, 1, none⟩ = some (.int .i64 a1_1) := (blk_cell BK305.out 1).trans rfl; have hcz29_2 : w28.cell? ⟨gb305, 2, none⟩ = some (.string a1_2) := (blk_cell BK305.out 2).trans rfl; have hfz29_0 := blk_frozen BK305.out 0; have hfz29_1 := blk_frozen BK305.out 1; have hfz29_2 := blk_frozen BK305.out 2; have hcz30_0 : w28.cell? ⟨gb306, 0, none⟩ = some (.int .i64 a2_0) := (blk_cell BK306.out 0).trans rfl; have hcz30_1 : w28.cell? ⟨gb306, 1, none⟩ = some (.int .i64 a2_1) := (blk_cell BK306.out 1).trans rfl; have hcz30_2 : w28.cell? ⟨gb306, 2, none⟩ = some (.string a2_2) := (blk_cell BK306.out 2).trans rfl; have hfz30_0 := blk_frozen BK306.out 0; have hfz30_1 := blk_frozen BK306.out 1; have hfz30_2 := blk_frozen BK306.out 2) | ((with_reducible refine gate_callee (f := 17) rfl ?_); refine goesL_ (some 31) rfl rfl Tryd.func17 (by kernel_rfl) rfl #[.int .i64 a0, .agg #[.int .i64 a1_0, .int .i64 a1_1, .string a1_2], .agg #[.int .i64 a2_0, .int .i64 a2_1, .string a2_2]] rfl (by (try simp only [List.map_toArray, List.map_cons, List.map_nil]); first | done | rfl | (simp only [List.length_drop, List.length_take]; rfl)) ?_; (with_reducible refine (value_Compare.calls k a0 a1_0 a1_1 a1_2 a2_0 a2_1 a2_2 t312 t313 t314 t315 _ A9.out).mono ?_); rintro e w31 ⟨rfl, hb⟩; refine ⟨_, rfl, ?_⟩; have n0_ := Aside0.mk (blk_below (g := gb305) (o := .cells #[.int .i64 a1_0, .int .i64 a1_1, .string a1_2] 23 (0, 0)) (by (with_reducible repeat first | apply bN | apply bD | apply bA); exact BK305.out) hb); have n1_ := Aside0.mk (blk_below (g := gb306) (o := .cells #[.int .i64 a2_0, .int .i64 a2_1, .string a2_2] 23 (0, 0)) (by (with_reducible repeat first | apply bN | apply bD | apply bA); exact BK306.out) hb); have n2_ := Aside0.mk (below_step (by repeat (first | (with_reducible first | exact HB.out | apply pA | apply pN | apply pD | refine pS ?_ GE305.out | refine pS ?_ GE306.out) | exact HB.out)) hb); clear BK305; clear BK306; clear HB; have BK305 := n0_; have BK306 := n1_; have HB := n2_; clear n0_ n1_ n2_; (try clear hb); (try clear hb2); (try clear hk); (try clear hi)) | ((with_reducible refine gate_dst (N := 12) rfl ?_); refine box_event ?hg (N := 12) ?hd (cs := #[.int .i64 0, .int .i64 0, .string (⟨#[]⟩ : ByteArray)]) (t := 23) ?hr ?_; (case hd => rfl); (case hg => rfl); (case hr => first | (go_simp; done) | (go_simp; rfl)); intro gb316 hg w32 hbox hb; have n0_ := Aside0.mk (blk_below (g := gb305) (o := .cells #[.int .i64 a1_0, .int .i64 a1_1, .string a1_2] 23 (0, 0)) (by (with_reducible repeat first | apply bN | apply bD | apply bA); exact BK305.out) hb); have n1_ := Aside0.mk (blk_below (g := gb306) (o := .cells #[.int .i64 a2_0, .int .i64 a2_1, .string a2_2] 23 (0, 0)) (by (with_reducible repeat first | apply bN | apply bD | apply bA); exact BK306.out) hb); have n2_ := Aside0.mk (below_step (by repeat (first | (with_reducible first | exact HB.out | apply pA | apply pN | apply pD | refine pS ?_ GE305.out | refine pS ?_ GE306.out) | exact HB.out)) hb); have n3_ := Aside0.mk (hbox); have n4_ := Aside0.mk ((by rw [hg]; exact (below_size (by repeat (first | (with_reducible first | exact HB.out | apply pA | apply pN | apply pD | refine pS ?_ GE305.out | refine pS ?_ GE306.out) | exact HB.out))) : w.heap.size ≤ gb316)); have n5_ := Aside0.mk ((by rw [hg]; exact (below_size (by repeat (first | (with_reducible first | exact HB.out | apply pA | apply pN | apply pD | refine pS ?_ GE305.out | refine pS ?_ GE306.out) | exact HB.out))) : w.heap.size ≤ gb316)); have n6_ := Aside0.mk ((by rw [hg]; exact Nat.ne_of_lt (blk_lt (g := gb305) (o := .cells #[.int .i64 a1_0, .int .i64 a1_1, .string a1_2] 23 (0, 0)) (by (with_reducible repeat first | apply bN | apply bD | apply bA); exact BK305.out)) : gb305 ≠ gb316)); have n7_ := Aside0.mk ((by rw [hg]; exact Nat.ne_of_gt (blk_lt (g := gb305) (o := .cells #[.int .i64 a1_0, .int .i64 a1_1, .string a1_2] 23 (0, 0)) (by (with_reducible repeat first | apply bN | apply bD | apply bA); exact BK305.out)) : gb316 ≠ gb305)); have n8_ := Aside0.mk ((by rw [hg]; exact Nat.ne_of_lt (blk_lt (g := gb306) (o := .cells #[.int .i64 a2_0, .int .i64 a2_1, .string a2_2] 23 (0, 0)) (by (with_reducible repeat first | apply bN | apply bD | apply bA); exact BK306.out)) : gb306 ≠ gb316)); have n9_ := Aside0.mk ((by rw [hg]; exact Nat.ne_of_gt (blk_lt (g := gb306) (o := .cells #[.int .i64 a2_0, .int .i64 a2_1, .string a2_2] 23 (0, 0)) (by (with_reducible repeat first | apply bN | apply bD | apply bA); exact BK306.out)) : gb316 ≠ gb306)); clear BK305; clear BK306; clear HB; have BK305 := n0_; have BK306 := n1_; have HB := n2_; have BK316 := n3_; have GW316 := n4_; have GE316 := n5_; have NB305_316 := n6_; have NB316_305 := n7_; have NB306_316 := n8_; have NB316_306 := n9_; clear n0_ n1_ n2_ n3_ n4_ n5_ n6_ n7_ n8_ n9_; clear hb hbox hg; have hnb33 := NB316_305.out; have hnc33 := NB305_316.out; have hnb34 := NB316_306.out; have hnc34 := NB306_316.out; have hcz35_0 : w32.cell? ⟨gb316, 0, none⟩ = some (.int .i64 0) := (blk_cell BK316.out 0).trans rfl; have hcz35_1 : w32.cell? ⟨gb316, 1, none⟩ = some (.int .i64 0) := (blk_cell BK316.out 1).trans rfl; have hcz35_2 : w32.cell? ⟨gb316, 2, none⟩ = some (.string (⟨#[]⟩ : ByteArray)) := (blk_cell BK316.out 2).trans rfl; have hfz35_0 := blk_frozen BK316.out 0; have hfz35_1 := blk_frozen BK316.out 1; have hfz35_2 := blk_frozen BK316.out 2) | ((with_reducible refine gate_store (t := 23) (p := 12) rfl ?_); refine store_event (t := 23) (p := 12) (v := ?vo_w36) (w1 := (((w32.setCell ⟨gb316, 0, none⟩ (.int .i64 t312)).setCell ⟨gb316, 1, none⟩ (.int .i64 t313)).setCell ⟨gb316, 2, none⟩ (.string t314))) ?hg ?ho ?hn ?hr ?_; (case ho => rfl); (case hg => rfl); (case hn => rfl); (case hr => first | (go_simp; done) | (go_simp; rfl)); intro w36 hw; have n0_ : Aside0 (w36.heap[gb305]? = some (.cells #[.int .i64 a1_0, .int .i64 a1_1, .string a1_2] 23 (0, 0))) := ⟨(by rw [hw]; exact (by (with_reducible repeat first | apply bN | apply bD | apply bA); refine bF ?_ NB305_316.out _; (with_reducible repeat first | apply bN | apply bD | apply bA); refine bF ?_ NB305_316.out _; (with_reducible repeat first | apply bN | apply bD | apply bA); refine bF ?_ NB305_316.out _; (with_reducible repeat first | apply bN | apply bD | apply bA); exact BK305.out))⟩; have n1_ : Aside0 (w36.heap[gb306]? = some (.cells #[.int .i64 a2_0, .int .i64 a2_1, .string a2_2] 23 (0, 0))) := ⟨(by rw [hw]; exact (by (with_reducible repeat first | apply bN | apply bD | apply bA); refine bF ?_ NB306_316.out _; (with_reducible repeat first | apply bN | apply bD | apply bA); refine bF ?_ NB306_316.out _; (with_reducible repeat first | apply bN | apply bD | apply bA); refine bF ?_ NB306_316.out _; (with_reducible repeat first | apply bN | apply bD | apply bA); exact BK306.out))⟩; have n2_ : Aside0 (w36.heap[gb316]? = some (.cells #[.int .i64 t312, .int .i64 t313, .string t314] 23 (0, 0))) := ⟨(by rw [hw]; exact (by (with_reducible repeat first | apply bN | apply bD | apply bA); refine blk_put (cs := #[.int .i64 t312, .int .i64 t313, .string (⟨#[]⟩ : ByteArray)]) ?_ 2 _ rfl; (with_reducible repeat first | apply bN | apply bD | apply bA); refine blk_put (cs := #[.int .i64 t312, .int .i64 0, .string (⟨#[]⟩ : ByteArray)]) ?_ 1 _ rfl; (with_reducible repeat first | apply bN | apply bD | apply bA); refine blk_put (cs := #[.int .i64 0, .int .i64 0, .string (⟨#[]⟩ : ByteArray)]) ?_ 0 _ rfl; (with_reducible repeat first | apply bN | apply bD | apply bA); exact BK316.out))⟩; have n3_ : Aside0 (Below w.heap.size w w36) := ⟨(by rw [hw]; exact (by repeat (first | (with_reducible first | exact HB.out | apply pA | apply pN | apply pD | refine pS ?_ GE305.out | refine pS ?_ GE306.out | refine pS ?_ GE316.out) | exact HB.out)))⟩; clear hw; clear BK305; clear BK306; clear BK316; clear HB; have BK305 := n0_; have BK306 := n1_; have BK316 := n2_; have HB := n3_; clear n0_ n1_ n2_ n3_; have hcz37_0 : w36.cell? ⟨gb305, 0, none⟩ = some (.int .i64 a1_0) := (blk_cell BK305.out 0).trans rfl; have hcz37_1 : w36.cell? ⟨gb305, 1, none⟩ = some (.int .i64 a1_1) := (blk_cell BK305.out 1).trans rfl; have hcz37_2 : w36.cell? ⟨gb305, 2, none⟩ = some (.string a1_2) := (blk_cell BK305.out 2).trans rfl; have hfz37_0 := blk_frozen BK305.out 0; have hfz37_1 := blk_frozen BK305.out 1; have hfz37_2 := blk_frozen BK305.out 2; have hcz38_0 : w36.cell? ⟨gb306, 0, none⟩ = some (.int .i64 a2_0) := (blk_cell BK306.out 0).trans rfl; have hcz38_1 : w36.cell? ⟨gb306, 1, none⟩ = some (.int .i64 a2_1) := (blk_cell BK306.out 1).trans rfl; have hcz38_2 : w36.cell? ⟨gb306, 2, none⟩ = some (.string a2_2) := (blk_cell BK306.out 2).trans rfl; have hfz38_0 := blk_frozen BK306.out 0; have hfz38_1 := blk_frozen BK306.out 1; have hfz38_2 := blk_frozen BK306.out 2) | ((with_reducible refine gate_callee (f := 18) rfl ?_); refine goesL_ (some 38) rfl rfl Tryd.func18 (by kernel_rfl) rfl #[.int .i64 a0, .agg #[.int .i64 a1_0, .int .i64 a1_1, .string a1_2], .agg #[.int .i64 a2_0, .int .i64 a2_1, .string a2_2]] rfl (by (try simp only [List.map_toArray, List.map_cons, List.map_nil]); first | done | rfl | (simp only [List.length_drop, List.length_take]; rfl)) ?_; (with_reducible refine (unisonref01_Compare.calls k a0 a1_0 a1_1 a1_2 a2_0 a2_1 a2_2 t317 t318 t319 t320 _ A10.out).mono ?_); rintro e w39 ⟨rfl, hb⟩; refine ⟨_, rfl, ?_⟩; have n0_ := Aside0.mk (blk_below (g := gb305) (o := .cells #[.int .i64 a1_0, .int .i64 a1_1, .string a1_2] 23 (0, 0)) (by (with_reducible repeat first | apply bN | apply bD | apply bA); exact BK305.out) hb); have n1_ := Aside0.mk (blk_below (g := gb306) (o := .cells #[.int .i64 a2_0, .int .i64 a2_1, .string a2_2] 23 (0, 0)) (by (with_reducible repeat first | apply bN | apply bD | apply bA); exact BK306.out) hb); have n2_ := Aside0.mk (blk_below (g := gb316) (o := .cells #[.int .i64 t312, .int .i64 t313, .string t314] 23 (0, 0)) (by (with_reducible repeat first | apply bN | apply bD | apply bA); exact BK316.out) hb); have n3_ := Aside0.mk (below_step (by repeat (first | (with_reducible first | exact HB.out | apply pA | apply pN | apply pD | refine pS ?_ GE305.out | refine pS ?_ GE306.out | refine pS ?_ GE316.out) | exact HB.out)) hb); clear BK305; clear BK306; clear BK316; clear HB; have BK305 := n0_; have BK306 := n1_; have BK316 := n2_; have HB := n3_; clear n0_ n1_ n2_ n3_; (try clear hb); (try clear hb2); (try clear hk); (try clear hi)) | ((with_reducible refine gate_dst (N := 14) rfl ?_); refine box_event ?hg (N := 14) ?hd (cs := #[.int .i64 0, .int .i64 0, .string (⟨#[]⟩ : ByteArray)]) (t := 23) ?hr ?_; (case hd => rfl); (case hg => rfl); (case hr => first | (go_simp; done) | (go_simp; rfl)); intro gb321 hg w40 hbox hb; have n0_ := Aside0.mk (blk_below (g := gb305) (o := .cells #[.int .i64 a1_0, .int .i64 a1_1, .string a1_2] 23 (0, 0)) (by (with_reducible repeat first | apply bN | apply bD | apply bA); exact BK305.out) hb); have n1_ := Aside0.mk (blk_below (g := gb306) (o := .cells #[.int .i64 a2_0, .int .i64 a2_1, .string a2_2] 23 (0, 0)) (by (with_reducible repeat first | apply bN | apply bD | apply bA); exact BK306.out) hb); have n2_ := Aside0.mk (blk_below (g := gb316) (o := .cells #[.int .i64 t312, .int .i64 t313, .string t314] 23 (0, 0)) (by (with_reducible repeat first | apply bN | apply bD | apply bA); exact BK316.out) hb); have n3_ := Aside0.mk (below_step (by repeat (first | (with_reducible first | exact HB.out | apply pA | apply pN | apply pD | refine pS ?_ GE305.out | refine pS ?_ GE306.out | refine pS ?_ GE316.out) | exact HB.out)) hb); have n4_ := Aside0.mk (hbox); have n5_ := Aside0.mk ((by rw [hg]; exact (below_size (by repeat (first | (with_reducible first | exact HB.out | apply pA | apply pN | apply pD | refine pS ?_ GE305.out | refine pS ?_ GE306.out | refine pS ?_ GE316.out) | exact HB.out))) : w.heap.size ≤ gb321)); have n6_ := Aside0.mk ((by rw [hg]; exact (below_size (by repeat (first | (with_reducible first | exact HB.out | apply pA | apply pN | apply pD | refine pS ?_ GE305.out | refine pS ?_ GE306.out | refine pS ?_ GE316.out) | exact HB.out))) : w.heap.size ≤ gb321)); have n7_ := Aside0.mk ((by rw [hg]; exact Nat.ne_of_lt (blk_lt (g := gb305) (o := .cells #[.int .i64 a1_0, .int .i64 a1_1, .string a1_2] 23 (0, 0)) (by (with_reducible repeat first | apply bN | apply bD | apply bA); exact BK305.out)) : gb305 ≠ gb321)); have n8_ := Aside0.mk ((by rw [hg]; exact Nat.ne_of_gt (blk_lt (g := gb305) (o := .cells #[.int .i64 a1_0, .int .i64 a1_1, .string a1_2] 23 (0, 0)) (by (with_reducible repeat first | apply bN | apply bD | apply bA); exact BK305.out)) : gb321 ≠ gb305)); have n9_ := Aside0.mk ((by rw [hg]; exact Nat.ne_of_lt (blk_lt (g := gb306) (o := .cells #[.int .i64 a2_0, .int .i64 a2_1, .string a2_2] 23 (0, 0)) (by (with_reducible repeat first | apply bN | apply bD | apply bA); exact BK306.out)) : gb306 ≠ gb321)); have n10_ := Aside0.mk ((by rw [hg]; exact Nat.ne_of_gt (blk_lt (g := gb306) (o := .cells #[.int .i64 a2_0, .int .i64 a2_1, .string a2_2] 23 (0, 0)) (by (with_reducible repeat first | apply bN | apply bD | apply bA); exact BK306.out)) : gb321 ≠ gb306)); have n11_ := Aside0.mk ((by rw [hg]; exact Nat.ne_of_lt (blk_lt (g := gb316) (o := .cells #[.int .i64 t312, .int .i64 t313, .string t314] 23 (0, 0)) (by (with_reducible repeat first | apply bN | apply bD | apply bA); exact BK316.out)) : gb316 ≠ gb321)); have n12_ := Aside0.mk ((by rw [hg]; exact Nat.ne_of_gt (blk_lt (g := gb316) (o := .cells #[.int .i64 t312, .int .i64 t313, .string t314] 23 (0, 0)) (by (with_reducible repeat first | apply bN | apply bD | apply bA); exact BK316.out)) : gb321 ≠ gb316)); clear BK305; clear BK306; clear BK316; clear HB; have BK305 := n0_; have BK306 := n1_; have BK316 := n2_; have HB := n3_; have BK321 := n4_; have GW321 := n5_; have GE321 := n6_; have NB305_321 := n7_; have NB321_305 := n8_; have NB306_321 := n9_; have NB321_306 := n10_; have NB316_321 := n11_; have NB321_316 := n12_; clear n0_ n1_ n2_ n3_ n4_ n5_ n6_ n7_ n8_ n9_ n10_ n11_ n12_; clear hb hbox hg; have hnb41 := NB321_305.out; have hnc41 := NB305_321.out; have hnb42 := NB321_306.out; have hnc42 := NB306_321.out; have hnb43 := NB321_316.out; have hnc43 := NB316_321.out; have hcz44_0 : w40.cell? ⟨gb321, 0, none⟩ = some (.int .i64 0) := (blk_cell BK321.out 0).trans rfl; have hcz44_1 : w40.cell? ⟨gb321, 1, none⟩ = some (.int .i64 0) := (blk_cell BK321.out 1).trans rfl; have hcz44_2 : w40.cell? ⟨gb321, 2, none⟩ = some (.string (⟨#[]⟩ : ByteArray)) := (blk_cell BK321.out 2).trans rfl; have hfz44_0 := blk_frozen BK321.out 0; have hfz44_1 := blk_frozen BK321.out 1; have hfz44_2 := blk_frozen BK321.out 2) | ((with_reducible refine gate_store (t := 23) (p := 14) rfl ?_); refine store_event (t := 23) (p := 14) (v := ?vo_w45) (w1 := (((w40.setCell ⟨gb321, 0, none⟩ (.int .i64 t317)).setCell ⟨gb321, 1, none⟩ (.int .i64 t318)).setCell ⟨gb321, 2, none⟩ (.string t319))) ?hg ?ho ?hn ?hr ?_; (case ho => rfl); (case hg => rfl); (case hn => rfl); (case hr => first | (go_simp; done) | (go_simp; rfl)); intro w45 hw; have n0_ : Aside0 (w45.heap[gb305]? = some (.cells #[.int .i64 a1_0, .int .i64 a1_1, .string a1_2] 23 (0, 0))) := ⟨(by rw [hw]; exact (by (with_reducible repeat first | apply bN | apply bD | apply bA); refine bF ?_ NB305_321.out _; (with_reducible repeat first | apply bN | apply bD | apply bA); refine bF ?_ NB305_321.out _; (with_reducible repeat first | apply bN | apply bD | apply bA); refine bF ?_ NB305_321.out _; (with_reducible repeat first | apply bN | apply bD | apply bA); exact BK305.out))⟩; have n1_ : Aside0 (w45.heap[gb306]? = some (.cells #[.int .i64 a2_0, .int .i64 a2_1, .string a2_2] 23 (0, 0))) := ⟨(by rw [hw]; exact (by (with_reducible repeat first | apply bN | apply bD | apply bA); refine bF ?_ NB306_321.out _; (with_reducible repeat first | apply bN | apply bD | apply bA); refine bF ?_ NB306_321.out _; (with_reducible repeat first | apply bN | apply bD | apply bA); refine bF ?_ NB306_321.out _; (with_reducible repeat first | apply bN | apply bD | apply bA); exact BK306.out))⟩; have n2_ : Aside0 (w45.heap[gb316]? = some (.cells #[.int .i64 t312, .int .i64 t313, .string t314] 23 (0, 0))) := ⟨(by rw [hw]; exact (by (with_reducible repeat first | apply bN | apply bD | apply bA); refine bF ?_ NB316_321.out _; (with_reducible repeat first | apply bN | apply bD | apply bA); refine bF ?_ NB316_321.out _; (with_reducible repeat first | apply bN | apply bD | apply bA); refine bF ?_ NB316_321.out _; (with_reducible repeat first | apply bN | apply bD | apply bA); exact BK316.out))⟩; have n3_ : Aside0 (w45.heap[gb321]? = some (.cells #[.int .i64 t317, .int .i64 t318, .string t319] 23 (0, 0))) := ⟨(by rw [hw]; exact (by (with_reducible repeat first | apply bN | apply bD | apply bA); refine blk_put (cs := #[.int .i64 t317, .int .i64 t318, .string (⟨#[]⟩ : ByteArray)]) ?_ 2 _ rfl; (with_reducible repeat first | apply bN | apply bD | apply bA); refine blk_put (cs := #[.int .i64 t317, .int .i64 0, .string (⟨#[]⟩ : ByteArray)]) ?_ 1 _ rfl; (with_reducible repeat first | apply bN | apply bD | apply bA); refine blk_put (cs := #[.int .i64 0, .int .i64 0, .string (⟨#[]⟩ : ByteArray)]) ?_ 0 _ rfl; (with_reducible repeat first | apply bN | apply bD | apply bA); exact BK321.out))⟩; have n4_ : Aside0 (Below w.heap.size w w45) := ⟨(by rw [hw]; exact (by repeat (first | (with_reducible first | exact HB.out | apply pA | apply pN | apply pD | refine pS ?_ GE305.out | refine pS ?_ GE306.out | refine pS ?_ GE316.out | refine pS ?_ GE321.out) | exact HB.out)))⟩; clear hw; clear BK305; clear BK306; clear BK316; clear BK321; clear HB; have BK305 := n0_; have BK306 := n1_; have BK316 := n2_; have BK321 := n3_; have HB := n4_; clear n0_ n1_ n2_ n3_ n4_; have hcz46_0 : w45.cell? ⟨gb316, 0, none⟩ = some (.int .i64 t312) := (blk_cell BK316.out 0).trans rfl; have hcz46_1 : w45.cell? ⟨gb316, 1, none⟩ = some (.int .i64 t313) := (blk_cell BK316.out 1).trans rfl; have hcz46_2 : w45.cell? ⟨gb316, 2, none⟩ = some (.string t314) := (blk_cell BK316.out 2).trans rfl; have hfz46_0 := blk_frozen BK316.out 0; have hfz46_1 := blk_frozen BK316.out 1; have hfz46_2 := blk_frozen BK316.out 2; have hcz47_0 : w45.cell? ⟨gb321, 0, none⟩ = some (.int .i64 t317) := (blk_cell BK321.out 0).trans rfl; have hcz47_1 : w45.cell? ⟨gb321, 1, none⟩ = some (.int .i64 t318) := (blk_cell BK321.out 1).trans rfl; have hcz47_2 : w45.cell? ⟨gb321, 2, none⟩ = some (.string t319) := (blk_cell BK321.out 2).trans rfl; have hfz47_0 := blk_frozen BK321.out 0; have hfz47_1 := blk_frozen BK321.out 1; have hfz47_2 := blk_frozen BK321.out 2))
     go_ret
     exact ⟨by first | (simp only [ByteArray.size_extract, Nat.min_self]; rfl) | rfl | (simp [errW_none, errW_some] <;> rfl) | (simp [*, errW_none, errW_some] <;> rfl), by repeat (first | (with_reducible first | exact HB.out | apply pA | apply pN | apply pD | refine pS ?_ GE305.out | refine pS ?_ GE306.out | refine pS ?_ GE316.out | refine pS ?_ GE321.out) | exact HB.out)⟩
    ·
     rw [if_neg c14] at H
     exact absurd H (by simp)
   ·
    rw [if_neg c13] at H
    exact absurd H (by simp)
  ·
   rw [if_neg c12] at H
   exact absurd H (by simp)
 ·
  replace c11 := Bool.eq_false_iff.mpr c11
  subst c11
  have H1 : (none) = some r := by rw [if_neg (show ¬ (false = true) by decide)] at H; exact H
  clear H
  have H := H1
  clear H1
  exact absurd H (by simp)

/-! ### unisonlaw01_lent: function 19 -/
def unisonlaw01_lent.f (l0 : List (S23)) : Option ((List (S23))) := if 0 ≤ (wrap64 ((l0.length : Int) + 2)) then (if (wrap64 ((l0.length : Int) + 2) : Int).toNat ≤ 8796093022208 then ((some (cpy (List.replicate (wrap64 ((l0.length : Int) + 2) : Int).toNat z23) l0 : List (S23))).bind fun y325 => ((unisonlaw01_number.f 77).bind fun bt326 => (if 0 ≤ (l0.length : Int) then (if (l0.length : Int) < (y325.length : Int) then (some (y325.set ((l0.length : Int) : Int).toNat (⟨bt326.1, bt326.2.1, bt326.2.2⟩ : S23))) else (none)) else (none)))) else (none)) else (none)
set_option maxHeartbeats 8000000 in
set_option maxRecDepth 100000 in
theorem unisonlaw01_lent.calls (A0 : Option Addr) (c0 : Nat) (l0 : List (S23)) (r : List (S23)) (w : World) (hr0 : Kd.C k23 w A0 l0.length l0) (hc0 : l0.length ≤ c0) (h : unisonlaw01_lent.f l0 = some r) :
  Calls Tryd.prog 19 #[.slice A0 l0.length c0] w fun e w' => ∃ v0_ : Value, e = .returned (v0_) ∧ Kd.R k23 23 w' w.heap.size (fun _ => True) v0_ r ∧ Below w.heap.size w w' := by
 have hu23 := Tryd.underlying23
 have HR0 := Aside0.mk hr0
 have HC0 := Aside0.mk hc0
 clear hr0 hc0
 have HB := Aside0.mk (Below.refl w.heap.size w)
 have H : (if 0 ≤ (wrap64 ((l0.length : Int) + 2)) then (if (wrap64 ((l0.length : Int) + 2) : Int).toNat ≤ 8796093022208 then ((some (cpy (List.replicate (wrap64 ((l0.length : Int) + 2) : Int).toNat z23) l0 : List (S23))).bind fun y325 => ((unisonlaw01_number.f 77).bind fun bt326 => (if 0 ≤ (l0.length : Int) then (if (l0.length : Int) < (y325.length : Int) then (some (y325.set ((l0.length : Int) : Int).toNat (⟨bt326.1, bt326.2.1, bt326.2.2⟩ : S23))) else (none)) else (none)))) else (none)) else (none)) = some r := h
 clear h
 obtain ⟨ji2, hji2⟩ : ∃ j_ : Int, (wrap64 ((l0.length : Int) + 2)) = j_ := ⟨_, rfl⟩
 replace H : (if 0 ≤ (ji2) then (if (ji2 : Int).toNat ≤ 8796093022208 then ((some (cpy (List.replicate (ji2 : Int).toNat z23) l0 : List (S23))).bind fun y325 => ((unisonlaw01_number.f 77).bind fun bt326 => (if 0 ≤ (l0.length : Int) then (if (l0.length : Int) < (y325.length : Int) then (some (y325.set ((l0.length : Int) : Int).toNat (⟨bt326.1, bt326.2.1, bt326.2.2⟩ : S23))) else (none)) else (none)))) else (none)) else (none)) = some r := by first | (rw [hji2] at H; exact H) | (simp only [hji2] at H ⊢; exact H)
 have hji2w : (IntKind.i64.wrap ((l0.length : Int) + 2)) = ji2 := (i64_w _).trans hji2
 by_cases c3 : 0 ≤ (ji2)
 ·
  rw [if_pos c3] at H
  have c3b0 := eq_true c3
  have c3b1 : decide (0 ≤ (ji2)) = true := decide_eq_true c3
  clear c3
  by_cases c4 : (ji2 : Int).toNat ≤ 8796093022208
  ·
   rw [if_pos c4] at H
   have c4b0 := eq_true c4
   have c4b1 : decide ((ji2 : Int).toNat ≤ 8796093022208) = true := decide_eq_true c4
   clear c4
   obtain ⟨y322, hy322⟩ : ∃ y_ : List (S23), y_ = (List.replicate (ji2 : Int).toNat z23) := ⟨_, rfl⟩
   replace H : ((some (cpy y322 l0 : List (S23))).bind fun y325 => ((unisonlaw01_number.f 77).bind fun bt326 => (if 0 ≤ (l0.length : Int) then (if (l0.length : Int) < (y325.length : Int) then (some (y325.set ((l0.length : Int) : Int).toNat (⟨bt326.1, bt326.2.1, bt326.2.2⟩ : S23))) else (none)) else (none)))) = some r := by first | (rw [hy322]; with_reducible exact H) | (have H2_ := (Option.bind_some _ _).symm.trans H; rw [hy322]; with_reducible exact H2_) | (have H2_ := (Option.bind_some _ _).symm.trans H; with_reducible exact H2_) | with_reducible exact H | (rw [hy322]; exact H) | exact H
   have Ny322 := Aside0.mk hy322
   clear hy322
   obtain ⟨y325, hy325⟩ : ∃ y_ : List (S23), y_ = (cpy y322 l0) := ⟨_, rfl⟩
   replace H : ((unisonlaw01_number.f 77).bind fun bt326 => (if 0 ≤ (l0.length : Int) then (if (l0.length : Int) < (y325.length : Int) then (some (y325.set ((l0.length : Int) : Int).toNat (⟨bt326.1, bt326.2.1, bt326.2.2⟩ : S23))) else (none)) else (none))) = some r := by first | (rw [hy325]; with_reducible exact H) | (have H2_ := (Option.bind_some _ _).symm.trans H; rw [hy325]; with_reducible exact H2_) | (have H2_ := (Option.bind_some _ _).symm.trans H; with_reducible exact H2_) | with_reducible exact H | (rw [hy325]; exact H) | exact H
   have Ny325 := Aside0.mk hy325
   clear hy325
   replace H := Option.bind_eq_some_iff.mp H
   obtain ⟨⟨t326, t327, t328⟩, A50, H⟩ := H
   replace H : (if 0 ≤ (l0.length : Int) then (if (l0.length : Int) < (y325.length : Int) then (some (y325.set ((l0.length : Int) : Int).toNat (⟨t326, t327, t328⟩ : S23))) else (none)) else (none)) = some r := H
   have A5 := Aside0.mk A50
   clear A50
   by_cases c6 : 0 ≤ (l0.length : Int)
   ·
    rw [if_pos c6] at H
    have c6b0 : decide (0 ≤ (l0.length : Int)) = true := decide_eq_true c6
    have c6b1 : decide (0 ≤ l0.length) = true := decide_eq_true (by omega)
    clear c6
    by_cases c7 : (l0.length : Int) < (y325.length : Int)
    ·
     rw [if_pos c7] at H
     have c7b0 : decide ((l0.length : Int) < (y325.length : Int)) = true := decide_eq_true c7
     have c7b1 : decide (l0.length < y325.length) = true := decide_eq_true (Int.ofNat_lt.mp c7)
     clear c7
     obtain ⟨y329, hy329⟩ : ∃ y_ : List (S23), y_ = (y325.set ((l0.length : Int) : Int).toNat (⟨t326, t327, t328⟩ : S23)) := ⟨_, rfl⟩
     replace H : (some y329) = some r := by first | (rw [hy329]; with_reducible exact H) | (have H2_ := (Option.bind_some _ _).symm.trans H; rw [hy329]; with_reducible exact H2_) | (have H2_ := (Option.bind_some _ _).symm.trans H; with_reducible exact H2_) | with_reducible exact H | (rw [hy329]; exact H) | exact H
     have Ny329 := Aside0.mk hy329
     clear hy329
     obtain rfl := Option.some.inj H
     go_enter Tryd.func19, Tryd.ntmps19
     go_wp2_with (first | ((with_reducible refine gate_dst (N := 7) rfl ?_); refine Kd.R_make k23 _ 23 rfl (N := 7) rfl 31 _ _ rfl ji2 rfl rfl Tryd.underlying31 (.agg #[(.int .i64 0), (.int .i64 0), (.string ⟨#[]⟩)]) 32 info23 rfl (by decide) (by omega) z23 (ok := fun _ => True) (okp := fun _ => True) (k23_mkM _ _ _ z23 ) (fun _ hk => hk) trivial (of_decide_eq_true (by first | (with_reducible assumption) | assumption)) (Nat.le_trans (Nat.mul_le_mul_right _ (of_decide_eq_true (by first | (with_reducible assumption) | assumption) : ji2.toNat ≤ 8796093022208)) (by omega)) (Below.refl _ _) (Nat.le_refl _) ?_; intro v323 w9 ho10 hb hg_ hnew_; clear hg_ hnew_; (first | rw [← Ny322.out] at ho10 | (simp only [Int.reduceToNat] at ho10; rw [← Ny322.out] at ho10)); have n0_ := Aside0.mk (Kd.R_lower ho10 (below_size (by exact HB.out))); have n1_ := Aside0.mk (below_step (by exact HB.out) hb); clear HB; have HO324 := n0_; have HB := n1_; clear n0_ n1_; clear hb ho10) | ((with_reducible refine gate_builtin (b := .copy) (xs := #[.tmp 8, .tmp 9]) rfl ?_); refine R_copy k23 (w0 := w) w.heap.size rfl (.tmp 8) (.tmp 9) 31 23 (.agg #[(.int .i64 0), (.int .i64 0), (.string ⟨#[]⟩)]) 32 rfl Tryd.underlying31 info23 (by decide) v323 y322 l0 _ _ _ (fun _ => True) rfl rfl ?aO ?aR (fun _ _ _ _ h => h) (fun _ _ _ _ _ h => h) ?aB ?_; (case aO => exact (by (with_reducible repeat (first | apply Kd.R_alloc | apply Kd.R_drewN | apply Kd.R_drew)); exact HO324.out)); (case aR => repeat (first | exact (Kd.C_below HR0.out HB.out) | (with_reducible refine Kd.C_alloc ?_ _) | (with_reducible refine Kd.C_drewN ?_ _) | (with_reducible refine Kd.C_drew ?_))); (case aB => exact (by exact HB.out)); intro w11 ho hb hg; rw [← Ny325.out] at ho; have n0_ := Aside0.mk (ho); have n1_ := Aside0.mk (hb); clear HO324; clear HB; have HO324 := n0_; have HB := n1_; clear n0_ n1_; clear ho hb hg) | ((with_reducible refine gate_callee (f := 38) rfl ?_); refine goesL_ (some 14) rfl rfl Tryd.func38 (by kernel_rfl) rfl #[.int .i64 77] rfl (by (try simp only [List.map_toArray, List.map_cons, List.map_nil]); first | done | rfl | (simp only [List.length_drop, List.length_take]; rfl)) ?_; (with_reducible refine (unisonlaw01_number.calls 77 t326 t327 t328 _ A5.out).mono ?_); rintro e w12 ⟨rfl, hb⟩; refine ⟨_, rfl, ?_⟩; have n0_ := Aside0.mk (Kd.R_below (by (with_reducible repeat (first | apply Kd.R_alloc | apply Kd.R_drewN | apply Kd.R_drew)); exact HO324.out) hb); have n1_ := Aside0.mk (below_step (by exact HB.out) hb); clear HO324; clear HB; have HO324 := n0_; have HB := n1_; clear n0_ n1_; (try clear hb); (try clear hb2); (try clear hk); (try clear hi); have p8 : 0 ≤ ((l0.length : Int) : Int) := of_decide_eq_true (by first | (with_reducible assumption) | assumption); have q8 : ((l0.length : Int) : Int) < ((y325.length : Int) : Int) := of_decide_eq_true (by first | (with_reducible assumption) | assumption); obtain ⟨go8, co8, eo8, gb8, gl8, cl8, HG8⟩ := Kd.R_form HO324.out (by omega); (first | cases eo8 | (injection eo8 with ea_ en_ ec_; (first | subst ea_ | (injection ea_ with ea_; subst ea_)); subst ec_; clear en_)); have GB8 := Aside0.mk gb8; have GG8 := Aside0.mk HG8; clear gb8 gl8 HG8; obtain ⟨ce8, hcl8, hM8, hcc8, hfr8⟩ := Kd.R_elem HO324.out z23 ((l0.length : Int) : Int) p8 q8; obtain rfl := k23_openM hM8; have hx8_0 : w12.cell? ⟨go8, ((l0.length : Int) : Int).toNat * 3, none⟩ = some (.int .i64 ((rd_T23 y325 (l0.length : Int)).f0)) := hcc8 0 _ rfl; (try simp only [Int.toNat_natCast] at hx8_0); have hx8_1 : w12.cell? ⟨go8, ((l0.length : Int) : Int).toNat * 3 + 1, none⟩ = some (.int .i64 ((rd_T23 y325 (l0.length : Int)).f1)) := hcc8 1 _ rfl; (try simp only [Int.toNat_natCast] at hx8_1); have hx8_2 : w12.cell? ⟨go8, ((l0.length : Int) : Int).toNat * 3 + 2, none⟩ = some (.string ((rd_T23 y325 (l0.length : Int)).f2)) := hcc8 2 _ rfl; (try simp only [Int.toNat_natCast] at hx8_2); have hf8_0 : w12.frozen? ⟨go8, ((l0.length : Int) : Int).toNat * 3, none⟩ = false := hfr8 0; (try simp only [Int.toNat_natCast] at hf8_0); have hf8_1 : w12.frozen? ⟨go8, ((l0.length : Int) : Int).toNat * 3 + 1, none⟩ = false := hfr8 1; (try simp only [Int.toNat_natCast] at hf8_1); have hf8_2 : w12.frozen? ⟨go8, ((l0.length : Int) : Int).toNat * 3 + 2, none⟩ = false := hfr8 2; (try simp only [Int.toNat_natCast] at hf8_2); clear hcl8 hcc8 hfr8 hM8; replace p8 := eq_true p8; replace q8 := eq_true q8; have HX13 := Aside0.mk (show Kd.R k23 23 w12 w.heap.size (fun _ => True) (.slice (some ⟨go8, 0, none⟩) y325.length co8) y325 from (by (with_reducible repeat (first | apply Kd.R_alloc | apply Kd.R_drewN | apply Kd.R_drew)); exact HO324.out)); obtain ⟨ce13, hcl13, hM13, hcc13, hfr13⟩ := Kd.R_elem HX13.out z23 ((l0.length : Int) : Int) (of_decide_eq_true (by first | (with_reducible assumption) | assumption)) (by have h_ : ((l0.length : Int) : Int) < ((y325.length : Int) : Int) := of_decide_eq_true (by first | (with_reducible assumption) | assumption); first | exact h_ | (have e_ := (Kd.R_reads' HO324.out).1; omega) | simpa using h_); obtain rfl := k23_openM hM13; have HP13 := Kd.R_seg HX13.out ((l0.length : Int) : Int) (of_decide_eq_true (by first | (with_reducible assumption) | assumption)) (by have h_ : ((l0.length : Int) : Int) < ((y325.length : Int) : Int) := of_decide_eq_true (by first | (with_reducible assumption) | assumption); first | exact h_ | (have e_ := (Kd.R_reads' HO324.out).1; omega) | simpa using h_) (seg := [.int .i64 t326, .int .i64 t327, .string t328]) (j := 0) hcl13 hcc13 (show 3 ≤ 3 from by decide) (x' := (⟨t326, t327, t328⟩ : S23)) (k23_mkM _ _ _ (⟨t326, t327, t328⟩ : S23) ) (fun _ hk => hk); have hx13_0 := hcc13 0 _ rfl; (try simp only [show (k23).sz = 3 from rfl, Nat.mul_one, Nat.add_zero, Int.toNat_natCast] at hx13_0); have hf13_0 := hfr13 0; (try simp only [show (k23).sz = 3 from rfl, Nat.mul_one, Nat.add_zero, Int.toNat_natCast] at hf13_0); have hx13_1 := hcc13 1 _ rfl; (try simp only [show (k23).sz = 3 from rfl, Nat.mul_one, Nat.add_zero, Int.toNat_natCast] at hx13_1); have hf13_1 := hfr13 1; (try simp only [show (k23).sz = 3 from rfl, Nat.mul_one, Nat.add_zero, Int.toNat_natCast] at hf13_1); have hx13_2 := hcc13 2 _ rfl; (try simp only [show (k23).sz = 3 from rfl, Nat.mul_one, Nat.add_zero, Int.toNat_natCast] at hx13_2); have hf13_2 := hfr13 2; (try simp only [show (k23).sz = 3 from rfl, Nat.mul_one, Nat.add_zero, Int.toNat_natCast] at hf13_2); clear hcl13 hcc13 hfr13 hM13) | ((with_reducible refine gate_store (t := 23) (p := 15) rfl ?_); refine store_event (t := 23) (p := 15) (v := ?vo_w14) (w1 := (((w12.setCell ⟨go8, ((l0.length : Int) : Int).toNat * 3, none⟩ (.int .i64 t326)).setCell ⟨go8, ((l0.length : Int) : Int).toNat * 3 + 1, none⟩ (.int .i64 t327)).setCell ⟨go8, ((l0.length : Int) : Int).toNat * 3 + 2, none⟩ (.string t328))) ?hg ?ho ?hn ?hr ?_; (case ho => rfl); (case hg => rfl); (case hn => rfl); (case hr => first | (go_simp; done) | (go_simp; rfl)); intro w14 hw; have hg : w12.grownBy w14 (some go8) := (by rw [hw]; exact HP13.2); have hp_ : Kd.R k23 23 w14 w.heap.size (fun _ => True) (.slice (some ⟨go8, 0, none⟩) y325.length co8) y329 := (by rw [hw, Ny329.out]; exact HP13.1); clear HP13; have n0_ := Aside0.mk (hp_); have n1_ := Aside0.mk ((by rw [hw]; exact below_set (below_set (below_set (HB.out) GB8.out) GB8.out) GB8.out : Below w.heap.size w w14)); clear HO324; clear HB; have HO324 := n0_; have HB := n1_; clear n0_ n1_; clear hg hw hp_))
     go_ret
     exact ⟨_, by first | rfl | (simp [errW_none, errW_some] <;> rfl) | (simp only [← hji2]; first | rfl | (simp [errW_none, errW_some] <;> rfl)) | (simp [*, errW_none, errW_some] <;> rfl), by (with_reducible repeat (first | apply Kd.R_alloc | apply Kd.R_drewN | apply Kd.R_drew)); exact HO324.out, by exact HB.out⟩
    ·
     rw [if_neg c7] at H
     exact absurd H (by simp)
   ·
    rw [if_neg c6] at H
    exact absurd H (by simp)
  ·
   rw [if_neg c4] at H
   exact absurd H (by simp)
 ·
  rw [if_neg c3] at H
  exact absurd H (by simp)

/-! ### unisonref01_refused: function 46 -/
mutual
def unisonref01_refused.l0 : Nat → Int → List (S23) → Int → Option (Int)
 | 0, _, _, _ => none
 | k + 1, x0, x1, x5 => if x5 < (x1.length : Int) then (if 0 ≤ x5 then ((unisonref01_Right.f ((rd_T23 x1 x5).f0) ((rd_T23 x1 x5).f1) ((rd_T23 x1 x5).f2)).bind fun t331 => (if t331 = true then (unisonref01_refused.l0 k x0 x1 (wrap64 (x5 + 1))) else (some 10))) else (none)) else (unisonref01_refused.l1 k x0 x1 0)
def unisonref01_refused.l1 : Nat → Int → List (S23) → Int → Option (Int)
 | 0, _, _, _ => none
 | k + 1, x0, x1, x7 => if x7 < (x1.length : Int) then (if 0 ≤ x7 then (if ((rd_T23 x1 x7).f0) = x0 then (unisonref01_refused.l1 k x0 x1 (wrap64 (x7 + 1))) else (if ((rd_T23 x1 x7).f0) = 0 then (unisonref01_refused.l1 k x0 x1 (wrap64 (x7 + 1))) else (some 11))) else (none)) else (some 0)
end
def unisonref01_refused.f (k : Nat) (a0 : Int) (l1 : List (S23)) : Option (Int) := unisonref01_refused.l0 k a0 l1 0
theorem unisonref01_refused.mono_l : ∀ k, (∀ y0 y1 y2, LeO (unisonref01_refused.l0 k y0 y1 y2) (unisonref01_refused.l0 (k + 1) y0 y1 y2)) ∧ (∀ y0 y1 y2, LeO (unisonref01_refused.l1 k y0 y1 y2) (unisonref01_refused.l1 (k + 1) y0 y1 y2))
 | 0 => ⟨fun _ _ _ r h => by simp [unisonref01_refused.l0] at h, fun _ _ _ r h => by simp [unisonref01_refused.l1] at h⟩
 | k + 1 => by
  obtain ⟨ih0, ih1⟩ := unisonref01_refused.mono_l k
  refine ⟨?_, ?_⟩
  ·
   intro y0 y1 y2
   unfold unisonref01_refused.l0
   repeat' first
   | (with_reducible exact ih0 _ _ _)
   | (with_reducible exact ih1 _ _ _)
   | (with_reducible exact LeO.refl _)
   | (with_reducible exact LeO.none _)
   | (with_reducible refine LeO.ite ?_ ?_)
   | (with_reducible refine LeO.bind ?_ (fun _ => ?_))
   | exact ih0 _ _ _
   | exact ih1 _ _ _
   | exact LeO.none _
   | refine LeO.ite ?_ ?_
   | refine LeO.bind ?_ (fun _ => ?_)
  ·
   intro y0 y1 y2
   unfold unisonref01_refused.l1
   repeat' first
   | (with_reducible exact ih0 _ _ _)
   | (with_reducible exact ih1 _ _ _)
   | (with_reducible exact LeO.refl _)
   | (with_reducible exact LeO.none _)
   | (with_reducible refine LeO.ite ?_ ?_)
   | (with_reducible refine LeO.bind ?_ (fun _ => ?_))
   | exact ih0 _ _ _
   | exact ih1 _ _ _
   | exact LeO.none _
   | refine LeO.ite ?_ ?_
   | refine LeO.bind ?_ (fun _ => ?_)
theorem unisonref01_refused.mono : ∀ a0 a1 k, LeO (unisonref01_refused.f k a0 a1) (unisonref01_refused.f (k + 1) a0 a1) := by
 intro a0 a1 k
 obtain ⟨ih0, ih1⟩ := unisonref01_refused.mono_l k
 unfold unisonref01_refused.f
 repeat' first
   | (with_reducible exact ih0 _ _ _)
   | (with_reducible exact ih1 _ _ _)
   | (with_reducible exact LeO.refl _)
   | (with_reducible exact LeO.none _)
   | (with_reducible refine LeO.ite ?_ ?_)
   | (with_reducible refine LeO.bind ?_ (fun _ => ?_))
   | exact ih0 _ _ _
   | exact ih1 _ _ _
   | exact LeO.none _
   | refine LeO.ite ?_ ?_
   | refine LeO.bind ?_ (fun _ => ?_)
set_option maxHeartbeats 8000000 in
set_option maxRecDepth 100000 in
theorem unisonref01_refused.calls (k : Nat) (a0 : Int) (A1 : Option Addr) (c1 : Nat) (l1 : List (S23)) (r : Int) (w : World) (hr1 : Kd.C k23 w A1 l1.length l1) (hc1 : l1.length ≤ c1) (h : unisonref01_refused.f k a0 l1 = some r) :
  Calls Tryd.prog 46 #[.int .i64 a0, .slice A1 l1.length c1] w fun e w' => e = .returned (.int .i64 r) ∧ Below w.heap.size w w' := by
 have hu23 := Tryd.underlying23
 have HR1 := Aside0.mk hr1
 have HC1 := Aside0.mk hc1
 clear hr1 hc1
 have HB := Aside0.mk (Below.refl w.heap.size w)
 have H : (unisonref01_refused.l0 k a0 l1 0) = some r := h
 clear h
 have H' := Aside0.mk H
 clear H
 go_enter Tryd.func46, Tryd.ntmps46
 go_wp2
 go_loopg [5] k (fun kq v5 w' => ∃ (x5_1 : Int), v5 = .int .i64 x5_1 ∧ Aside0 (unisonref01_refused.l0 kq a0 l1 x5_1 = some r) ∧ Aside0 (kq ≤ k) ∧ Aside0 (Below w.heap.size w w'))
 case atStart => exact ⟨(0), (by first | rfl | (simp; done) | (simp [*]; done)), H', ⟨Nat.le_refl _⟩, ⟨by exact HB.out⟩⟩
 case round =>
  clear H'
  try clear c1
  try clear p2
  obtain ⟨x5_1, rfl, HA, HK1, HB⟩ := hrel
  cases gk with
  | zero => exact absurd HA.out (by simp [unisonref01_refused.l0])
  | succ k1 =>
   have H := HA.out
   clear HA
   simp only [unisonref01_refused.l0] at H
   by_cases c3 : x5_1 < (l1.length : Int)
   ·
    rw [if_pos c3] at H
    have c3b0 : decide (x5_1 < (l1.length : Int)) = true := decide_eq_true c3
    clear c3
    by_cases c4 : 0 ≤ x5_1
    ·
     rw [if_pos c4] at H
     have c4b0 : decide (0 ≤ x5_1) = true := decide_eq_true c4
     clear c4
     replace H := Option.bind_eq_some_iff.mp H
     obtain ⟨t331, A50, H⟩ := H
     replace H : (if t331 = true then (unisonref01_refused.l0 k1 a0 l1 (wrap64 (x5_1 + 1))) else (some 10)) = some r := H
     have A5 := Aside0.mk A50
     clear A50
     by_cases c6 : t331 = true
     ·
      subst c6
      have H1 : (unisonref01_refused.l0 k1 a0 l1 (wrap64 (x5_1 + 1))) = some r := by (first | rw [if_pos rfl] at H | rw [if_pos True.intro] at H | skip); exact H
      clear H
      have H := H1
      clear H1
      have H' := Aside0.mk H
      clear H
      have p330 : 0 ≤ (x5_1 : Int) := of_decide_eq_true (by first | (with_reducible assumption) | assumption)
      have q330 : x5_1 < (l1.length : Int) := of_decide_eq_true (by first | (with_reducible assumption) | assumption)
      obtain ⟨ad330, e330, hx330_0, hx330_1, hx330_2⟩ := at_T23 HR1.out x5_1 p330 q330
      cases e330
      replace hx330_0 := (HB.out.cell (World.block_lt_of_cell? w _ hx330_0)).trans hx330_0
      replace hx330_1 := (HB.out.cell (World.block_lt_of_cell? w _ hx330_1)).trans hx330_1
      replace hx330_2 := (HB.out.cell (World.block_lt_of_cell? w _ hx330_2)).trans hx330_2
      replace p330 := eq_true p330
      replace q330 := eq_true q330
      go_wp2_with (first | ((with_reducible refine gate_callee (f := 14) rfl ?_); refine goesL_ (some 18) rfl rfl Tryd.func14 (by kernel_rfl) rfl #[.agg #[.int .i64 ((rd_T23 l1 x5_1).f0), .int .i64 ((rd_T23 l1 x5_1).f1), .string ((rd_T23 l1 x5_1).f2)]] rfl (by (try simp only [List.map_toArray, List.map_cons, List.map_nil]); first | done | rfl | (simp only [List.length_drop, List.length_take]; rfl)) ?_; (with_reducible refine (unisonref01_Right.calls ((rd_T23 l1 x5_1).f0) ((rd_T23 l1 x5_1).f1) ((rd_T23 l1 x5_1).f2) true _ A5.out).mono ?_); rintro e w7 ⟨rfl, hb⟩; refine ⟨_, rfl, ?_⟩; have n0_ := Aside0.mk (below_step (by exact HB.out) hb); clear HB; have HB := n0_; clear n0_; (try clear hb); (try clear hb2); (try clear hk); (try clear hi)))
      go_roundg k1
      case measure => have := HK1.out; omega
      case rel => exact ⟨(wrap64 (x5_1 + 1)), (by first | rfl | (simp; done) | (simp [*]; done)), H', ⟨by have := HK1.out; omega⟩, ⟨by exact HB.out⟩⟩
     ·
      replace c6 := Bool.eq_false_iff.mpr c6
      subst c6
      have H1 : (some 10) = some r := by rw [if_neg (show ¬ (false = true) by decide)] at H; exact H
      clear H
      have H := H1
      clear H1
      obtain rfl := Option.some.inj H
      have p330 : 0 ≤ (x5_1 : Int) := of_decide_eq_true (by first | (with_reducible assumption) | assumption)
      have q330 : x5_1 < (l1.length : Int) := of_decide_eq_true (by first | (with_reducible assumption) | assumption)
      obtain ⟨ad330, e330, hx330_0, hx330_1, hx330_2⟩ := at_T23 HR1.out x5_1 p330 q330
      cases e330
      replace hx330_0 := (HB.out.cell (World.block_lt_of_cell? w _ hx330_0)).trans hx330_0
      replace hx330_1 := (HB.out.cell (World.block_lt_of_cell? w _ hx330_1)).trans hx330_1
      replace hx330_2 := (HB.out.cell (World.block_lt_of_cell? w _ hx330_2)).trans hx330_2
      replace p330 := eq_true p330
      replace q330 := eq_true q330
      go_wp2_with (first | ((with_reducible refine gate_callee (f := 14) rfl ?_); refine goesL_ (some 18) rfl rfl Tryd.func14 (by kernel_rfl) rfl #[.agg #[.int .i64 ((rd_T23 l1 x5_1).f0), .int .i64 ((rd_T23 l1 x5_1).f1), .string ((rd_T23 l1 x5_1).f2)]] rfl (by (try simp only [List.map_toArray, List.map_cons, List.map_nil]); first | done | rfl | (simp only [List.length_drop, List.length_take]; rfl)) ?_; (with_reducible refine (unisonref01_Right.calls ((rd_T23 l1 x5_1).f0) ((rd_T23 l1 x5_1).f1) ((rd_T23 l1 x5_1).f2) false _ A5.out).mono ?_); rintro e w8 ⟨rfl, hb⟩; refine ⟨_, rfl, ?_⟩; have n0_ := Aside0.mk (below_step (by exact HB.out) hb); clear HB; have HB := n0_; clear n0_; (try clear hb); (try clear hb2); (try clear hk); (try clear hi)))
      go_ret
      exact ⟨by first | (simp only [ByteArray.size_extract, Nat.min_self]; rfl) | rfl | (simp [errW_none, errW_some] <;> rfl) | (simp [*, errW_none, errW_some] <;> rfl), by exact HB.out⟩
    ·
     rw [if_neg c4] at H
     exact absurd H (by simp)
   ·
    rw [if_neg c3] at H
    have c3b0 : decide (x5_1 < (l1.length : Int)) = false := decide_eq_false c3
    clear c3
    have H' := Aside0.mk H
    clear H
    go_wp2
    go_loopg [7] k1 (fun kq v7 w' => ∃ (x7_2 : Int), v7 = .int .i64 x7_2 ∧ Aside0 (unisonref01_refused.l1 kq a0 l1 x7_2 = some r) ∧ Aside0 (kq ≤ k1) ∧ Aside0 (Below w.heap.size w w'))
    case atStart => exact ⟨(0), (by first | rfl | (simp; done) | (simp [*]; done)), H', ⟨Nat.le_refl _⟩, ⟨by exact HB.out⟩⟩
    case round =>
     clear H'
     try clear c1
     try clear p2
     try clear c3
     try clear c3b0
     try clear p3
     try clear q3
     try clear hx3
     try clear c4
     try clear c4b0
     try clear c6
     try clear p6
     try clear hx330_0
     try clear hx330_1
     try clear hx330_2
     try clear p2
     try clear p330
     try clear q330
     obtain ⟨x7_2, rfl, HA, HK2, HB⟩ := hrel
     cases gk with
     | zero => exact absurd HA.out (by simp [unisonref01_refused.l1])
     | succ k2 =>
      have H := HA.out
      clear HA
      simp only [unisonref01_refused.l1] at H
      by_cases c9 : x7_2 < (l1.length : Int)
      ·
       rw [if_pos c9] at H
       have c9b0 : decide (x7_2 < (l1.length : Int)) = true := decide_eq_true c9
       clear c9
       by_cases c10 : 0 ≤ x7_2
       ·
        rw [if_pos c10] at H
        have c10b0 : decide (0 ≤ x7_2) = true := decide_eq_true c10
        clear c10
        by_cases c11 : ((rd_T23 l1 x7_2).f0) = a0
        ·
         rw [if_pos c11] at H
         have c11b0 : (((rd_T23 l1 x7_2).f0) == a0) = true := beq_iff_eq.mpr c11
         have c11b1 : (((rd_T23 l1 x7_2).f0) != a0) = false := bne_eq_false_iff_eq.mpr c11
         clear c11
         have H' := Aside0.mk H
         clear H
         have p332 : 0 ≤ (x7_2 : Int) := of_decide_eq_true (by first | (with_reducible assumption) | assumption)
         have q332 : x7_2 < (l1.length : Int) := of_decide_eq_true (by first | (with_reducible assumption) | assumption)
         obtain ⟨ad332, e332, hx332_0, hx332_1, hx332_2⟩ := at_T23 HR1.out x7_2 p332 q332
         cases e332
         replace hx332_0 := (HB.out.cell (World.block_lt_of_cell? w _ hx332_0)).trans hx332_0
         replace hx332_1 := (HB.out.cell (World.block_lt_of_cell? w _ hx332_1)).trans hx332_1
         replace hx332_2 := (HB.out.cell (World.block_lt_of_cell? w _ hx332_2)).trans hx332_2
         replace p332 := eq_true p332
         replace q332 := eq_true q332
         go_wp2
         go_roundg k2
         case measure => have := HK1.out; have := HK2.out; omega
         case rel => exact ⟨(wrap64 (x7_2 + 1)), (by first | rfl | (simp; done) | (simp [*]; done)), H', ⟨by have := HK1.out; have := HK2.out; omega⟩, ⟨by exact HB.out⟩⟩
        ·
         rw [if_neg c11] at H
         have c11b0 : (((rd_T23 l1 x7_2).f0) == a0) = false := beq_eq_false_iff_ne.mpr c11
         have c11b1 : (((rd_T23 l1 x7_2).f0) != a0) = true := bne_iff_ne.mpr c11
         by_cases c12 : ((rd_T23 l1 x7_2).f0) = 0
         ·
          rw [if_pos c12] at H
          have c12b0 : (((rd_T23 l1 x7_2).f0) == 0) = true := beq_iff_eq.mpr c12
          have c12b1 : (((rd_T23 l1 x7_2).f0) != 0) = false := bne_eq_false_iff_eq.mpr c12
          clear c12
          have H' := Aside0.mk H
          clear H
          have p332 : 0 ≤ (x7_2 : Int) := of_decide_eq_true (by first | (with_reducible assumption) | assumption)
          have q332 : x7_2 < (l1.length : Int) := of_decide_eq_true (by first | (with_reducible assumption) | assumption)
          obtain ⟨ad332, e332, hx332_0, hx332_1, hx332_2⟩ := at_T23 HR1.out x7_2 p332 q332
          cases e332
          replace hx332_0 := (HB.out.cell (World.block_lt_of_cell? w _ hx332_0)).trans hx332_0
          replace hx332_1 := (HB.out.cell (World.block_lt_of_cell? w _ hx332_1)).trans hx332_1
          replace hx332_2 := (HB.out.cell (World.block_lt_of_cell? w _ hx332_2)).trans hx332_2
          replace p332 := eq_true p332
          replace q332 := eq_true q332
          have p333 : 0 ≤ (x7_2 : Int) := of_decide_eq_true (by first | (with_reducible assumption) | assumption)
          have q333 : x7_2 < (l1.length : Int) := of_decide_eq_true (by first | (with_reducible assumption) | assumption)
          obtain ⟨ad333, e333, hx333_0, hx333_1, hx333_2⟩ := at_T23 HR1.out x7_2 p333 q333
          obtain rfl : ad332 = ad333 := (by injection e333)
          replace hx333_0 := (HB.out.cell (World.block_lt_of_cell? w _ hx333_0)).trans hx333_0
          replace hx333_1 := (HB.out.cell (World.block_lt_of_cell? w _ hx333_1)).trans hx333_1
          replace hx333_2 := (HB.out.cell (World.block_lt_of_cell? w _ hx333_2)).trans hx333_2
          replace p333 := eq_true p333
          replace q333 := eq_true q333
          go_wp2
          go_roundg k2
          case measure => have := HK1.out; have := HK2.out; omega
          case rel => exact ⟨(wrap64 (x7_2 + 1)), (by first | rfl | (simp; done) | (simp [*]; done)), H', ⟨by have := HK1.out; have := HK2.out; omega⟩, ⟨by exact HB.out⟩⟩
         ·
          rw [if_neg c12] at H
          have c12b0 : (((rd_T23 l1 x7_2).f0) == 0) = false := beq_eq_false_iff_ne.mpr c12
          have c12b1 : (((rd_T23 l1 x7_2).f0) != 0) = true := bne_iff_ne.mpr c12
          obtain rfl := Option.some.inj H
          have p332 : 0 ≤ (x7_2 : Int) := of_decide_eq_true (by first | (with_reducible assumption) | assumption)
          have q332 : x7_2 < (l1.length : Int) := of_decide_eq_true (by first | (with_reducible assumption) | assumption)
          obtain ⟨ad332, e332, hx332_0, hx332_1, hx332_2⟩ := at_T23 HR1.out x7_2 p332 q332
          cases e332
          replace hx332_0 := (HB.out.cell (World.block_lt_of_cell? w _ hx332_0)).trans hx332_0
          replace hx332_1 := (HB.out.cell (World.block_lt_of_cell? w _ hx332_1)).trans hx332_1
          replace hx332_2 := (HB.out.cell (World.block_lt_of_cell? w _ hx332_2)).trans hx332_2
          replace p332 := eq_true p332
          replace q332 := eq_true q332
          have p333 : 0 ≤ (x7_2 : Int) := of_decide_eq_true (by first | (with_reducible assumption) | assumption)
          have q333 : x7_2 < (l1.length : Int) := of_decide_eq_true (by first | (with_reducible assumption) | assumption)
          obtain ⟨ad333, e333, hx333_0, hx333_1, hx333_2⟩ := at_T23 HR1.out x7_2 p333 q333
          obtain rfl : ad332 = ad333 := (by injection e333)
          replace hx333_0 := (HB.out.cell (World.block_lt_of_cell? w _ hx333_0)).trans hx333_0
          replace hx333_1 := (HB.out.cell (World.block_lt_of_cell? w _ hx333_1)).trans hx333_1
          replace hx333_2 := (HB.out.cell (World.block_lt_of_cell? w _ hx333_2)).trans hx333_2
          replace p333 := eq_true p333
          replace q333 := eq_true q333
          go_wp2
          go_ret
          exact ⟨by first | (simp only [ByteArray.size_extract, Nat.min_self]; rfl) | rfl | (simp [errW_none, errW_some] <;> rfl) | (simp [*, errW_none, errW_some] <;> rfl), by repeat (first | (with_reducible first | exact HB.out | apply pA | apply pN | apply pD) | exact HB.out)⟩
       ·
        rw [if_neg c10] at H
        exact absurd H (by simp)
      ·
       rw [if_neg c9] at H
       have c9b0 : decide (x7_2 < (l1.length : Int)) = false := decide_eq_false c9
       clear c9
       obtain rfl := Option.some.inj H
       go_wp2
       go_ret
       exact ⟨by first | (simp only [ByteArray.size_extract, Nat.min_self]; rfl) | rfl | (simp [errW_none, errW_some] <;> rfl) | (simp [*, errW_none, errW_some] <;> rfl), by repeat (first | (with_reducible first | exact HB.out | apply pA | apply pN | apply pD) | exact HB.out)⟩

/-! ### unisonref01_Number: function 47 -/
def unisonref01_Number.f (a0 : Int) : Option (Int × Int × ByteArray) := some (1, a0, (⟨#[]⟩ : ByteArray))
set_option maxHeartbeats 8000000 in
set_option maxRecDepth 100000 in
theorem unisonref01_Number.calls (a0 : Int) (r1 : Int) (r2 : Int) (r3 : ByteArray) (w : World) (h : unisonref01_Number.f a0 = some (r1, r2, r3)) :
  Calls Tryd.prog 47 #[.int .i64 a0] w fun e w' => e = .returned (.agg #[.int .i64 r1, .int .i64 r2, .string r3]) ∧ Below w.heap.size w w' := by
 have hu23 := Tryd.underlying23
 have HB := Aside0.mk (Below.refl w.heap.size w)
 have H : (some (1, a0, (⟨#[]⟩ : ByteArray))) = some (r1, r2, r3) := h
 clear h
 simp only [Option.some.injEq, Prod.mk.injEq] at H
 obtain ⟨rfl, rfl, rfl⟩ := H
 go_enter Tryd.func47, Tryd.ntmps47
 go_wp2_with (first | ((with_reducible refine gate_dst (N := 2) rfl ?_); refine box_event ?hg (N := 2) ?hd (cs := #[.int .i64 0, .int .i64 0, .string (⟨#[]⟩ : ByteArray)]) (t := 23) ?hr ?_; (case hd => rfl); (case hg => rfl); (case hr => first | (go_simp; done) | (go_simp; rfl)); intro gb334 hg w2 hbox hb; have n0_ := Aside0.mk (below_step (by repeat (first | (with_reducible first | exact HB.out | apply pA | apply pN | apply pD) | exact HB.out)) hb); have n1_ := Aside0.mk (hbox); have n2_ := Aside0.mk ((by rw [hg]; exact (below_size (by repeat (first | (with_reducible first | exact HB.out | apply pA | apply pN | apply pD) | exact HB.out))) : w.heap.size ≤ gb334)); have n3_ := Aside0.mk ((by rw [hg]; exact (below_size (by repeat (first | (with_reducible first | exact HB.out | apply pA | apply pN | apply pD) | exact HB.out))) : w.heap.size ≤ gb334)); clear HB; have HB := n0_; have BK334 := n1_; have GW334 := n2_; have GE334 := n3_; clear n0_ n1_ n2_ n3_; clear hb hbox hg; have hcz3_0 : w2.cell? ⟨gb334, 0, none⟩ = some (.int .i64 0) := (blk_cell BK334.out 0).trans rfl; have hcz3_1 : w2.cell? ⟨gb334, 1, none⟩ = some (.int .i64 0) := (blk_cell BK334.out 1).trans rfl; have hcz3_2 : w2.cell? ⟨gb334, 2, none⟩ = some (.string (⟨#[]⟩ : ByteArray)) := (blk_cell BK334.out 2).trans rfl; have hfz3_0 := blk_frozen BK334.out 0; have hfz3_1 := blk_frozen BK334.out 1; have hfz3_2 := blk_frozen BK334.out 2) | ((with_reducible refine gate_store (t := 23) (p := 2) rfl ?_); refine store_event (t := 23) (p := 2) (v := ?vo_w4) (w1 := (((w2.setCell ⟨gb334, 0, none⟩ (.int .i64 1)).setCell ⟨gb334, 1, none⟩ (.int .i64 a0)).setCell ⟨gb334, 2, none⟩ (.string (⟨#[]⟩ : ByteArray)))) ?hg ?ho ?hn ?hr ?_; (case ho => rfl); (case hg => rfl); (case hn => rfl); (case hr => first | (go_simp; done) | (go_simp; rfl)); intro w4 hw; have n0_ : Aside0 (w4.heap[gb334]? = some (.cells #[.int .i64 1, .int .i64 a0, .string (⟨#[]⟩ : ByteArray)] 23 (0, 0))) := ⟨(by rw [hw]; exact (by (with_reducible repeat first | apply bN | apply bD | apply bA); refine blk_put (cs := #[.int .i64 1, .int .i64 a0, .string (⟨#[]⟩ : ByteArray)]) ?_ 2 _ rfl; (with_reducible repeat first | apply bN | apply bD | apply bA); refine blk_put (cs := #[.int .i64 1, .int .i64 0, .string (⟨#[]⟩ : ByteArray)]) ?_ 1 _ rfl; (with_reducible repeat first | apply bN | apply bD | apply bA); refine blk_put (cs := #[.int .i64 0, .int .i64 0, .string (⟨#[]⟩ : ByteArray)]) ?_ 0 _ rfl; (with_reducible repeat first | apply bN | apply bD | apply bA); exact BK334.out))⟩; have n1_ : Aside0 (Below w.heap.size w w4) := ⟨(by rw [hw]; exact (by repeat (first | (with_reducible first | exact HB.out | apply pA | apply pN | apply pD | refine pS ?_ GE334.out) | exact HB.out)))⟩; clear hw; clear BK334; clear HB; have BK334 := n0_; have HB := n1_; clear n0_ n1_))
 refine bodyPost_ret (results_cell_row rfl _ _ gb334 23 #[.int .i64 1, .int .i64 a0, .string (⟨#[]⟩ : ByteArray)] (0, 0) _ rfl (by (with_reducible repeat first | apply bN | apply bD | apply bA); exact BK334.out) Tryd.underlying23 rfl (by kernel_rfl)) rfl ?_
 exact ⟨by first | (simp only [ByteArray.size_extract, Nat.min_self]; rfl) | rfl | (simp [errW_none, errW_some] <;> rfl) | (simp [*, errW_none, errW_some] <;> rfl), by repeat (first | (with_reducible first | exact HB.out | apply pA | apply pN | apply pD | refine pS ?_ GE334.out) | exact HB.out)⟩

end Go.Proofs.YteehcopkljiikaaDoor.PA
