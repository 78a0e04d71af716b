/- Several texts in one (merge.py): PFRRight, PFRRefused, PFRNumber, PFRTimes, PFRFits; no conditions beyond those in each theorem's head. -/
import Derived.Test.YteehcopkljiikaaDoorPAx0
import Derived.Test.YteehcopkljiikaaDoorPAx1
section
namespace Go.Proofs.YteehcopkljiikaaDoor.PA
open Go.RowKit Go.Proofs.YteehcopkljiikaaDoorW.PrintWords Go.Proofs.YteehcopkljiikaaDoorW.PrintLast Go.Proofs.YteehcopkljiikaaDoorW.PrintMore Go.Proofs.YteehcopkljiikaaDoorX
attribute [local go_sem] max2_int min2_int max_two min_two max_three min_three max_four min_four   -- for this text's walks alone
set_option linter.unusedVariables false
set_option linter.unusedSimpArgs false
attribute [local go_sem high] eqA23
/-! ### unisonref01_Right: function 14 -/
def unisonref01_Right.f (a0_0 : Int) (a0_1 : Int) (a0_2 : ByteArray) : Option (Bool) := if a0_0 = 0 then (if a0_1 = 0 then (some (a0_2.toList == ([] : List UInt8))) else (some false)) else (if a0_0 = 1 then (if a0_1 ≥ (-4611686018427387904) then (if a0_1 ≤ 4611686018427387904 then (some (a0_2.toList == ([] : List UInt8))) else (some false)) else (some false)) else (if a0_0 = 2 then (if a0_1 = 0 then (some (a0_2.toList == ([] : List UInt8))) else (if a0_1 = 1 then (some (a0_2.toList == ([] : List UInt8))) else (some false))) else (if a0_0 = 3 then (if a0_1 = 0 then (some (decide ((a0_2.size : Int) ≤ 64))) else (some false)) else (some false))))
set_option maxHeartbeats 8000000 in
set_option maxRecDepth 100000 in
theorem unisonref01_Right.calls (a0_0 : Int) (a0_1 : Int) (a0_2 : ByteArray) (r : Bool) (w : World) (h : unisonref01_Right.f a0_0 a0_1 a0_2 = some r) :
  Calls Tryd.prog 14 #[.agg #[.int .i64 a0_0, .int .i64 a0_1, .string a0_2]] w fun e w' => e = .returned (.bool r) ∧ Below w.heap.size w w' := by
 have hu23 := Tryd.underlying23; have HB := Aside0.mk (Below.refl w.heap.size w); have H : (if a0_0 = 0 then (if a0_1 = 0 then (some (a0_2.toList == ([] : List UInt8))) else (some false)) else (if a0_0 = 1 then (if a0_1 ≥ (-4611686018427387904) then (if a0_1 ≤ 4611686018427387904 then (some (a0_2.toList == ([] : List UInt8))) else (some false)) else (some false)) else (if a0_0 = 2 then (if a0_1 = 0 then (some (a0_2.toList == ([] : List UInt8))) else (if a0_1 = 1 then (some (a0_2.toList == ([] : List UInt8))) else (some false))) else (if a0_0 = 3 then (if a0_1 = 0 then (some (decide ((a0_2.size : Int) ≤ 64))) else (some false)) else (some false))))) = some r := h; clear h
 by_cases c2 : a0_0 = 0
 ·
  rw [if_pos c2] at H
  have c2b0 : (a0_0 == 0) = true := beq_iff_eq.mpr c2; have c2b1 : (a0_0 != 0) = false := bne_eq_false_iff_eq.mpr c2; clear c2
  by_cases c3 : a0_1 = 0
  ·
   rw [if_pos c3] at H
   have c3b0 : (a0_1 == 0) = true := beq_iff_eq.mpr c3; have c3b1 : (a0_1 != 0) = false := bne_eq_false_iff_eq.mpr c3; clear c3
   obtain rfl := Option.some.inj H
   go_enter Tryd.func14, Tryd.ntmps14
   go_wp2_with (first | ((with_reducible refine gate_dst (N := 1) rfl ?_); (try (refine gate_guard (by rfl) ?_; dsimp only)); refine box_event ?hg (N := 1) ?hd (cs := #[.int .i64 a0_0, .int .i64 a0_1, .string a0_2]) (t := 23) ?hr ?_; (case hd => rfl); (case hg => rfl); (case hr => first | (go_simp; done) | (go_simp; rfl)); intro gb277 hg w4 hbox hb; have BK277 := Aside0.mk (hbox); have GW277 := Aside0.mk ((by rw [hg]; exact (below_size (by exact HB.out)) : w.heap.size ≤ gb277)); have GE277 := Aside0.mk ((by rw [hg]; exact (below_size (by exact HB.out)) : w.heap.size ≤ gb277)); replace HB := Aside0.mk (below_step (by exact HB.out) hb); clear hb hbox hg; have hcz5_0 : w4.cell? ⟨gb277, 0, none⟩ = some (.int .i64 a0_0) := (blk_cell BK277.out 0).trans rfl; have hcz5_1 : w4.cell? ⟨gb277, 1, none⟩ = some (.int .i64 a0_1) := (blk_cell BK277.out 1).trans rfl; have hcz5_2 : w4.cell? ⟨gb277, 2, none⟩ = some (.string a0_2) := (blk_cell BK277.out 2).trans rfl; have hfz5_0 := blk_frozen BK277.out 0; have hfz5_1 := blk_frozen BK277.out 1; have hfz5_2 := blk_frozen BK277.out 2))
   go_ret
   exact ⟨by first | (simp only [ByteArray.size_extract, Nat.min_self]; rfl) | rfl | (simp [errW_none, errW_some] <;> rfl) | (simp [*, errW_none, errW_some] <;> rfl), by exact HB.out⟩
  ·
   rw [if_neg c3] at H
   have c3b0 : (a0_1 == 0) = false := beq_eq_false_iff_ne.mpr c3; have c3b1 : (a0_1 != 0) = true := bne_iff_ne.mpr c3
   obtain rfl := Option.some.inj H
   go_enter Tryd.func14, Tryd.ntmps14
   go_wp2_with (first | ((with_reducible refine gate_dst (N := 1) rfl ?_); (try (refine gate_guard (by rfl) ?_; dsimp only)); refine box_event ?hg (N := 1) ?hd (cs := #[.int .i64 a0_0, .int .i64 a0_1, .string a0_2]) (t := 23) ?hr ?_; (case hd => rfl); (case hg => rfl); (case hr => first | (go_simp; done) | (go_simp; rfl)); intro gb277 hg w6 hbox hb; have BK277 := Aside0.mk (hbox); have GW277 := Aside0.mk ((by rw [hg]; exact (below_size (by exact HB.out)) : w.heap.size ≤ gb277)); have GE277 := Aside0.mk ((by rw [hg]; exact (below_size (by exact HB.out)) : w.heap.size ≤ gb277)); replace HB := Aside0.mk (below_step (by exact HB.out) hb); clear hb hbox hg; have hcz7_0 : w6.cell? ⟨gb277, 0, none⟩ = some (.int .i64 a0_0) := (blk_cell BK277.out 0).trans rfl; have hcz7_1 : w6.cell? ⟨gb277, 1, none⟩ = some (.int .i64 a0_1) := (blk_cell BK277.out 1).trans rfl; have hcz7_2 : w6.cell? ⟨gb277, 2, none⟩ = some (.string a0_2) := (blk_cell BK277.out 2).trans rfl; have hfz7_0 := blk_frozen BK277.out 0; have hfz7_1 := blk_frozen BK277.out 1; have hfz7_2 := blk_frozen BK277.out 2))
   go_ret
   exact ⟨by first | (simp only [ByteArray.size_extract, Nat.min_self]; rfl) | rfl | (simp [errW_none, errW_some] <;> rfl) | (simp [*, errW_none, errW_some] <;> rfl), by exact HB.out⟩
 ·
  rw [if_neg c2] at H
  have c2b0 : (a0_0 == 0) = false := beq_eq_false_iff_ne.mpr c2; have c2b1 : (a0_0 != 0) = true := bne_iff_ne.mpr c2
  by_cases c8 : a0_0 = 1
  ·
   rw [if_pos c8] at H
   have c8b0 : (a0_0 == 1) = true := beq_iff_eq.mpr c8; have c8b1 : (a0_0 != 1) = false := bne_eq_false_iff_eq.mpr c8; clear c8
   by_cases c9 : a0_1 ≥ (-4611686018427387904)
   ·
    rw [if_pos c9] at H
    have c9b0 : decide ((-4611686018427387904) ≤ a0_1) = true := decide_eq_true c9; clear c9
    by_cases c10 : a0_1 ≤ 4611686018427387904
    ·
     rw [if_pos c10] at H
     have c10b0 : decide (a0_1 ≤ 4611686018427387904) = true := decide_eq_true c10; clear c10
     obtain rfl := Option.some.inj H
     go_enter Tryd.func14, Tryd.ntmps14
     go_wp2_with (first | ((with_reducible refine gate_dst (N := 1) rfl ?_); (try (refine gate_guard (by rfl) ?_; dsimp only)); refine box_event ?hg (N := 1) ?hd (cs := #[.int .i64 a0_0, .int .i64 a0_1, .string a0_2]) (t := 23) ?hr ?_; (case hd => rfl); (case hg => rfl); (case hr => first | (go_simp; done) | (go_simp; rfl)); intro gb277 hg w11 hbox hb; have BK277 := Aside0.mk (hbox); have GW277 := Aside0.mk ((by rw [hg]; exact (below_size (by exact HB.out)) : w.heap.size ≤ gb277)); have GE277 := Aside0.mk ((by rw [hg]; exact (below_size (by exact HB.out)) : w.heap.size ≤ gb277)); replace HB := Aside0.mk (below_step (by exact HB.out) hb); clear hb hbox hg; have hcz12_0 : w11.cell? ⟨gb277, 0, none⟩ = some (.int .i64 a0_0) := (blk_cell BK277.out 0).trans rfl; have hcz12_1 : w11.cell? ⟨gb277, 1, none⟩ = some (.int .i64 a0_1) := (blk_cell BK277.out 1).trans rfl; have hcz12_2 : w11.cell? ⟨gb277, 2, none⟩ = some (.string a0_2) := (blk_cell BK277.out 2).trans rfl; have hfz12_0 := blk_frozen BK277.out 0; have hfz12_1 := blk_frozen BK277.out 1; have hfz12_2 := blk_frozen BK277.out 2))
     go_ret
     exact ⟨by first | (simp only [ByteArray.size_extract, Nat.min_self]; rfl) | rfl | (simp [errW_none, errW_some] <;> rfl) | (simp [*, errW_none, errW_some] <;> rfl), by exact HB.out⟩
    ·
     rw [if_neg c10] at H
     have c10b0 : decide (a0_1 ≤ 4611686018427387904) = false := decide_eq_false c10; clear c10
     obtain rfl := Option.some.inj H
     go_enter Tryd.func14, Tryd.ntmps14
     go_wp2_with (first | ((with_reducible refine gate_dst (N := 1) rfl ?_); (try (refine gate_guard (by rfl) ?_; dsimp only)); refine box_event ?hg (N := 1) ?hd (cs := #[.int .i64 a0_0, .int .i64 a0_1, .string a0_2]) (t := 23) ?hr ?_; (case hd => rfl); (case hg => rfl); (case hr => first | (go_simp; done) | (go_simp; rfl)); intro gb277 hg w13 hbox hb; have BK277 := Aside0.mk (hbox); have GW277 := Aside0.mk ((by rw [hg]; exact (below_size (by exact HB.out)) : w.heap.size ≤ gb277)); have GE277 := Aside0.mk ((by rw [hg]; exact (below_size (by exact HB.out)) : w.heap.size ≤ gb277)); replace HB := Aside0.mk (below_step (by exact HB.out) hb); clear hb hbox hg; have hcz14_0 : w13.cell? ⟨gb277, 0, none⟩ = some (.int .i64 a0_0) := (blk_cell BK277.out 0).trans rfl; have hcz14_1 : w13.cell? ⟨gb277, 1, none⟩ = some (.int .i64 a0_1) := (blk_cell BK277.out 1).trans rfl; have hcz14_2 : w13.cell? ⟨gb277, 2, none⟩ = some (.string a0_2) := (blk_cell BK277.out 2).trans rfl; have hfz14_0 := blk_frozen BK277.out 0; have hfz14_1 := blk_frozen BK277.out 1; have hfz14_2 := blk_frozen BK277.out 2))
     go_ret
     exact ⟨by first | (simp only [ByteArray.size_extract, Nat.min_self]; rfl) | rfl | (simp [errW_none, errW_some] <;> rfl) | (simp [*, errW_none, errW_some] <;> rfl), by exact HB.out⟩
   ·
    rw [if_neg c9] at H
    have c9b0 : decide ((-4611686018427387904) ≤ a0_1) = false := decide_eq_false c9; clear c9
    obtain rfl := Option.some.inj H
    go_enter Tryd.func14, Tryd.ntmps14
    go_wp2_with (first | ((with_reducible refine gate_dst (N := 1) rfl ?_); (try (refine gate_guard (by rfl) ?_; dsimp only)); refine box_event ?hg (N := 1) ?hd (cs := #[.int .i64 a0_0, .int .i64 a0_1, .string a0_2]) (t := 23) ?hr ?_; (case hd => rfl); (case hg => rfl); (case hr => first | (go_simp; done) | (go_simp; rfl)); intro gb277 hg w15 hbox hb; have BK277 := Aside0.mk (hbox); have GW277 := Aside0.mk ((by rw [hg]; exact (below_size (by exact HB.out)) : w.heap.size ≤ gb277)); have GE277 := Aside0.mk ((by rw [hg]; exact (below_size (by exact HB.out)) : w.heap.size ≤ gb277)); replace HB := Aside0.mk (below_step (by exact HB.out) hb); clear hb hbox hg; have hcz16_0 : w15.cell? ⟨gb277, 0, none⟩ = some (.int .i64 a0_0) := (blk_cell BK277.out 0).trans rfl; have hcz16_1 : w15.cell? ⟨gb277, 1, none⟩ = some (.int .i64 a0_1) := (blk_cell BK277.out 1).trans rfl; have hcz16_2 : w15.cell? ⟨gb277, 2, none⟩ = some (.string a0_2) := (blk_cell BK277.out 2).trans rfl; have hfz16_0 := blk_frozen BK277.out 0; have hfz16_1 := blk_frozen BK277.out 1; have hfz16_2 := blk_frozen BK277.out 2))
    go_ret
    exact ⟨by first | (simp only [ByteArray.size_extract, Nat.min_self]; rfl) | rfl | (simp [errW_none, errW_some] <;> rfl) | (simp [*, errW_none, errW_some] <;> rfl), by exact HB.out⟩
  ·
   rw [if_neg c8] at H
   have c8b0 : (a0_0 == 1) = false := beq_eq_false_iff_ne.mpr c8; have c8b1 : (a0_0 != 1) = true := bne_iff_ne.mpr c8
   by_cases c17 : a0_0 = 2
   ·
    rw [if_pos c17] at H
    have c17b0 : (a0_0 == 2) = true := beq_iff_eq.mpr c17; have c17b1 : (a0_0 != 2) = false := bne_eq_false_iff_eq.mpr c17; clear c17
    by_cases c18 : a0_1 = 0
    ·
     rw [if_pos c18] at H
     have c18b0 : (a0_1 == 0) = true := beq_iff_eq.mpr c18; have c18b1 : (a0_1 != 0) = false := bne_eq_false_iff_eq.mpr c18; clear c18
     obtain rfl := Option.some.inj H
     go_enter Tryd.func14, Tryd.ntmps14
     go_wp2_with (first | ((with_reducible refine gate_dst (N := 1) rfl ?_); (try (refine gate_guard (by rfl) ?_; dsimp only)); refine box_event ?hg (N := 1) ?hd (cs := #[.int .i64 a0_0, .int .i64 a0_1, .string a0_2]) (t := 23) ?hr ?_; (case hd => rfl); (case hg => rfl); (case hr => first | (go_simp; done) | (go_simp; rfl)); intro gb277 hg w19 hbox hb; have BK277 := Aside0.mk (hbox); have GW277 := Aside0.mk ((by rw [hg]; exact (below_size (by exact HB.out)) : w.heap.size ≤ gb277)); have GE277 := Aside0.mk ((by rw [hg]; exact (below_size (by exact HB.out)) : w.heap.size ≤ gb277)); replace HB := Aside0.mk (below_step (by exact HB.out) hb); clear hb hbox hg; have hcz20_0 : w19.cell? ⟨gb277, 0, none⟩ = some (.int .i64 a0_0) := (blk_cell BK277.out 0).trans rfl; have hcz20_1 : w19.cell? ⟨gb277, 1, none⟩ = some (.int .i64 a0_1) := (blk_cell BK277.out 1).trans rfl; have hcz20_2 : w19.cell? ⟨gb277, 2, none⟩ = some (.string a0_2) := (blk_cell BK277.out 2).trans rfl; have hfz20_0 := blk_frozen BK277.out 0; have hfz20_1 := blk_frozen BK277.out 1; have hfz20_2 := blk_frozen BK277.out 2))
     go_ret
     exact ⟨by first | (simp only [ByteArray.size_extract, Nat.min_self]; rfl) | rfl | (simp [errW_none, errW_some] <;> rfl) | (simp [*, errW_none, errW_some] <;> rfl), by exact HB.out⟩
    ·
     rw [if_neg c18] at H
     have c18b0 : (a0_1 == 0) = false := beq_eq_false_iff_ne.mpr c18; have c18b1 : (a0_1 != 0) = true := bne_iff_ne.mpr c18
     by_cases c21 : a0_1 = 1
     ·
      rw [if_pos c21] at H
      have c21b0 : (a0_1 == 1) = true := beq_iff_eq.mpr c21; have c21b1 : (a0_1 != 1) = false := bne_eq_false_iff_eq.mpr c21; clear c21
      obtain rfl := Option.some.inj H
      go_enter Tryd.func14, Tryd.ntmps14
      go_wp2_with (first | ((with_reducible refine gate_dst (N := 1) rfl ?_); (try (refine gate_guard (by rfl) ?_; dsimp only)); refine box_event ?hg (N := 1) ?hd (cs := #[.int .i64 a0_0, .int .i64 a0_1, .string a0_2]) (t := 23) ?hr ?_; (case hd => rfl); (case hg => rfl); (case hr => first | (go_simp; done) | (go_simp; rfl)); intro gb277 hg w22 hbox hb; have BK277 := Aside0.mk (hbox); have GW277 := Aside0.mk ((by rw [hg]; exact (below_size (by exact HB.out)) : w.heap.size ≤ gb277)); have GE277 := Aside0.mk ((by rw [hg]; exact (below_size (by exact HB.out)) : w.heap.size ≤ gb277)); replace HB := Aside0.mk (below_step (by exact HB.out) hb); clear hb hbox hg; have hcz23_0 : w22.cell? ⟨gb277, 0, none⟩ = some (.int .i64 a0_0) := (blk_cell BK277.out 0).trans rfl; have hcz23_1 : w22.cell? ⟨gb277, 1, none⟩ = some (.int .i64 a0_1) := (blk_cell BK277.out 1).trans rfl; have hcz23_2 : w22.cell? ⟨gb277, 2, none⟩ = some (.string a0_2) := (blk_cell BK277.out 2).trans rfl; have hfz23_0 := blk_frozen BK277.out 0; have hfz23_1 := blk_frozen BK277.out 1; have hfz23_2 := blk_frozen BK277.out 2))
      go_ret
      exact ⟨by first | (simp only [ByteArray.size_extract, Nat.min_self]; rfl) | rfl | (simp [errW_none, errW_some] <;> rfl) | (simp [*, errW_none, errW_some] <;> rfl), by exact HB.out⟩
     ·
      rw [if_neg c21] at H
      have c21b0 : (a0_1 == 1) = false := beq_eq_false_iff_ne.mpr c21; have c21b1 : (a0_1 != 1) = true := bne_iff_ne.mpr c21
      obtain rfl := Option.some.inj H
      go_enter Tryd.func14, Tryd.ntmps14
      go_wp2_with (first | ((with_reducible refine gate_dst (N := 1) rfl ?_); (try (refine gate_guard (by rfl) ?_; dsimp only)); refine box_event ?hg (N := 1) ?hd (cs := #[.int .i64 a0_0, .int .i64 a0_1, .string a0_2]) (t := 23) ?hr ?_; (case hd => rfl); (case hg => rfl); (case hr => first | (go_simp; done) | (go_simp; rfl)); intro gb277 hg w24 hbox hb; have BK277 := Aside0.mk (hbox); have GW277 := Aside0.mk ((by rw [hg]; exact (below_size (by exact HB.out)) : w.heap.size ≤ gb277)); have GE277 := Aside0.mk ((by rw [hg]; exact (below_size (by exact HB.out)) : w.heap.size ≤ gb277)); replace HB := Aside0.mk (below_step (by exact HB.out) hb); clear hb hbox hg; have hcz25_0 : w24.cell? ⟨gb277, 0, none⟩ = some (.int .i64 a0_0) := (blk_cell BK277.out 0).trans rfl; have hcz25_1 : w24.cell? ⟨gb277, 1, none⟩ = some (.int .i64 a0_1) := (blk_cell BK277.out 1).trans rfl; have hcz25_2 : w24.cell? ⟨gb277, 2, none⟩ = some (.string a0_2) := (blk_cell BK277.out 2).trans rfl; have hfz25_0 := blk_frozen BK277.out 0; have hfz25_1 := blk_frozen BK277.out 1; have hfz25_2 := blk_frozen BK277.out 2))
      go_ret
      exact ⟨by first | (simp only [ByteArray.size_extract, Nat.min_self]; rfl) | rfl | (simp [errW_none, errW_some] <;> rfl) | (simp [*, errW_none, errW_some] <;> rfl), by exact HB.out⟩
   ·
    rw [if_neg c17] at H
    have c17b0 : (a0_0 == 2) = false := beq_eq_false_iff_ne.mpr c17; have c17b1 : (a0_0 != 2) = true := bne_iff_ne.mpr c17
    by_cases c26 : a0_0 = 3
    ·
     rw [if_pos c26] at H
     have c26b0 : (a0_0 == 3) = true := beq_iff_eq.mpr c26; have c26b1 : (a0_0 != 3) = false := bne_eq_false_iff_eq.mpr c26; clear c26
     by_cases c27 : a0_1 = 0
     ·
      rw [if_pos c27] at H
      have c27b0 : (a0_1 == 0) = true := beq_iff_eq.mpr c27; have c27b1 : (a0_1 != 0) = false := bne_eq_false_iff_eq.mpr c27; clear c27
      obtain rfl := Option.some.inj H
      go_enter Tryd.func14, Tryd.ntmps14
      go_wp2_with (first | ((with_reducible refine gate_dst (N := 1) rfl ?_); (try (refine gate_guard (by rfl) ?_; dsimp only)); refine box_event ?hg (N := 1) ?hd (cs := #[.int .i64 a0_0, .int .i64 a0_1, .string a0_2]) (t := 23) ?hr ?_; (case hd => rfl); (case hg => rfl); (case hr => first | (go_simp; done) | (go_simp; rfl)); intro gb277 hg w28 hbox hb; have BK277 := Aside0.mk (hbox); have GW277 := Aside0.mk ((by rw [hg]; exact (below_size (by exact HB.out)) : w.heap.size ≤ gb277)); have GE277 := Aside0.mk ((by rw [hg]; exact (below_size (by exact HB.out)) : w.heap.size ≤ gb277)); replace HB := Aside0.mk (below_step (by exact HB.out) hb); clear hb hbox hg; have hcz29_0 : w28.cell? ⟨gb277, 0, none⟩ = some (.int .i64 a0_0) := (blk_cell BK277.out 0).trans rfl; have hcz29_1 : w28.cell? ⟨gb277, 1, none⟩ = some (.int .i64 a0_1) := (blk_cell BK277.out 1).trans rfl; have hcz29_2 : w28.cell? ⟨gb277, 2, none⟩ = some (.string a0_2) := (blk_cell BK277.out 2).trans rfl; have hfz29_0 := blk_frozen BK277.out 0; have hfz29_1 := blk_frozen BK277.out 1; have hfz29_2 := blk_frozen BK277.out 2))
      go_ret
      exact ⟨by first | (simp only [ByteArray.size_extract, Nat.min_self]; rfl) | rfl | (simp [errW_none, errW_some] <;> rfl) | (simp [*, errW_none, errW_some] <;> rfl), by exact HB.out⟩
     ·
      rw [if_neg c27] at H
      have c27b0 : (a0_1 == 0) = false := beq_eq_false_iff_ne.mpr c27; have c27b1 : (a0_1 != 0) = true := bne_iff_ne.mpr c27
      obtain rfl := Option.some.inj H
      go_enter Tryd.func14, Tryd.ntmps14
      go_wp2_with (first | ((with_reducible refine gate_dst (N := 1) rfl ?_); (try (refine gate_guard (by rfl) ?_; dsimp only)); refine box_event ?hg (N := 1) ?hd (cs := #[.int .i64 a0_0, .int .i64 a0_1, .string a0_2]) (t := 23) ?hr ?_; (case hd => rfl); (case hg => rfl); (case hr => first | (go_simp; done) | (go_simp; rfl)); intro gb277 hg w30 hbox hb; have BK277 := Aside0.mk (hbox); have GW277 := Aside0.mk ((by rw [hg]; exact (below_size (by exact HB.out)) : w.heap.size ≤ gb277)); have GE277 := Aside0.mk ((by rw [hg]; exact (below_size (by exact HB.out)) : w.heap.size ≤ gb277)); replace HB := Aside0.mk (below_step (by exact HB.out) hb); clear hb hbox hg; have hcz31_0 : w30.cell? ⟨gb277, 0, none⟩ = some (.int .i64 a0_0) := (blk_cell BK277.out 0).trans rfl; have hcz31_1 : w30.cell? ⟨gb277, 1, none⟩ = some (.int .i64 a0_1) := (blk_cell BK277.out 1).trans rfl; have hcz31_2 : w30.cell? ⟨gb277, 2, none⟩ = some (.string a0_2) := (blk_cell BK277.out 2).trans rfl; have hfz31_0 := blk_frozen BK277.out 0; have hfz31_1 := blk_frozen BK277.out 1; have hfz31_2 := blk_frozen BK277.out 2))
      go_ret
      exact ⟨by first | (simp only [ByteArray.size_extract, Nat.min_self]; rfl) | rfl | (simp [errW_none, errW_some] <;> rfl) | (simp [*, errW_none, errW_some] <;> rfl), by exact HB.out⟩
    ·
     rw [if_neg c26] at H
     have c26b0 : (a0_0 == 3) = false := beq_eq_false_iff_ne.mpr c26; have c26b1 : (a0_0 != 3) = true := bne_iff_ne.mpr c26
     obtain rfl := Option.some.inj H
     go_enter Tryd.func14, Tryd.ntmps14
     go_wp2_with (first | ((with_reducible refine gate_dst (N := 1) rfl ?_); (try (refine gate_guard (by rfl) ?_; dsimp only)); refine box_event ?hg (N := 1) ?hd (cs := #[.int .i64 a0_0, .int .i64 a0_1, .string a0_2]) (t := 23) ?hr ?_; (case hd => rfl); (case hg => rfl); (case hr => first | (go_simp; done) | (go_simp; rfl)); intro gb277 hg w32 hbox hb; have BK277 := Aside0.mk (hbox); have GW277 := Aside0.mk ((by rw [hg]; exact (below_size (by exact HB.out)) : w.heap.size ≤ gb277)); have GE277 := Aside0.mk ((by rw [hg]; exact (below_size (by exact HB.out)) : w.heap.size ≤ gb277)); replace HB := Aside0.mk (below_step (by exact HB.out) hb); clear hb hbox hg; have hcz33_0 : w32.cell? ⟨gb277, 0, none⟩ = some (.int .i64 a0_0) := (blk_cell BK277.out 0).trans rfl; have hcz33_1 : w32.cell? ⟨gb277, 1, none⟩ = some (.int .i64 a0_1) := (blk_cell BK277.out 1).trans rfl; have hcz33_2 : w32.cell? ⟨gb277, 2, none⟩ = some (.string a0_2) := (blk_cell BK277.out 2).trans rfl; have hfz33_0 := blk_frozen BK277.out 0; have hfz33_1 := blk_frozen BK277.out 1; have hfz33_2 := blk_frozen BK277.out 2))
     go_ret
     exact ⟨by first | (simp only [ByteArray.size_extract, Nat.min_self]; rfl) | rfl | (simp [errW_none, errW_some] <;> rfl) | (simp [*, errW_none, errW_some] <;> rfl), by exact HB.out⟩
end Go.Proofs.YteehcopkljiikaaDoor.PA
end
section
namespace Go.Proofs.YteehcopkljiikaaDoor.PA
open Go.RowKit Go.Proofs.YteehcopkljiikaaDoorW.PrintWords Go.Proofs.YteehcopkljiikaaDoorW.PrintLast Go.Proofs.YteehcopkljiikaaDoorW.PrintMore Go.Proofs.YteehcopkljiikaaDoorX
attribute [local go_sem] max2_int min2_int max_two min_two max_three min_three max_four min_four   -- for this text's walks alone
set_option linter.unusedVariables false
set_option linter.unusedSimpArgs false
attribute [local go_sem high] eqA23
/-! ### unisonref01_refused: function 46 -/
mutual
def unisonref01_refused.l0 : Nat → Int → List (S23) → Int → Option (Int)
 | 0, _, _, _ => none
 | k + 1, x0, x1, x5 => if x5 < (x1.length : Int) then (if 0 ≤ x5 then ((unisonref01_Right.f ((rd_T23 x1 x5).f0) ((rd_T23 x1 x5).f1) ((rd_T23 x1 x5).f2)).bind fun t331 => (if t331 = true then (unisonref01_refused.l0 k x0 x1 (wrap64 (x5 + 1))) else (some 10))) else (none)) else (unisonref01_refused.l1 k x0 x1 0)
def unisonref01_refused.l1 : Nat → Int → List (S23) → Int → Option (Int)
 | 0, _, _, _ => none
 | k + 1, x0, x1, x7 => if x7 < (x1.length : Int) then (if 0 ≤ x7 then (if ((rd_T23 x1 x7).f0) = x0 then (unisonref01_refused.l1 k x0 x1 (wrap64 (x7 + 1))) else (if ((rd_T23 x1 x7).f0) = 0 then (unisonref01_refused.l1 k x0 x1 (wrap64 (x7 + 1))) else (some 11))) else (none)) else (some 0)
end
def unisonref01_refused.f (k : Nat) (a0 : Int) (l1 : List (S23)) : Option (Int) := unisonref01_refused.l0 k a0 l1 0
theorem unisonref01_refused.mono_l : ∀ k, (∀ y0 y1 y2, LeO (unisonref01_refused.l0 k y0 y1 y2) (unisonref01_refused.l0 (k + 1) y0 y1 y2)) ∧ (∀ y0 y1 y2, LeO (unisonref01_refused.l1 k y0 y1 y2) (unisonref01_refused.l1 (k + 1) y0 y1 y2))
 | 0 => ⟨fun _ _ _ r h => by simp [unisonref01_refused.l0] at h, fun _ _ _ r h => by simp [unisonref01_refused.l1] at h⟩
 | k + 1 => by
  obtain ⟨ih0, ih1⟩ := unisonref01_refused.mono_l k
  refine ⟨?_, ?_⟩
  ·
   intro y0 y1 y2
   unfold unisonref01_refused.l0
   repeat' first
   | (with_reducible exact ih0 _ _ _)
   | (with_reducible exact ih1 _ _ _)
   | (with_reducible exact LeO.refl _)
   | (with_reducible exact LeO.none _)
   | (with_reducible refine LeO.ite ?_ ?_)
   | (with_reducible refine LeO.bind ?_ (fun _ => ?_))
   | exact ih0 _ _ _
   | exact ih1 _ _ _
   | exact LeO.none _
   | refine LeO.ite ?_ ?_
   | refine LeO.bind ?_ (fun _ => ?_)
  ·
   intro y0 y1 y2
   unfold unisonref01_refused.l1
   repeat' first
   | (with_reducible exact ih0 _ _ _)
   | (with_reducible exact ih1 _ _ _)
   | (with_reducible exact LeO.refl _)
   | (with_reducible exact LeO.none _)
   | (with_reducible refine LeO.ite ?_ ?_)
   | (with_reducible refine LeO.bind ?_ (fun _ => ?_))
   | exact ih0 _ _ _
   | exact ih1 _ _ _
   | exact LeO.none _
   | refine LeO.ite ?_ ?_
   | refine LeO.bind ?_ (fun _ => ?_)
theorem unisonref01_refused.mono : ∀ a0 a1 k, LeO (unisonref01_refused.f k a0 a1) (unisonref01_refused.f (k + 1) a0 a1) := by
 intro a0 a1 k
 obtain ⟨ih0, ih1⟩ := unisonref01_refused.mono_l k
 unfold unisonref01_refused.f
 repeat' first
   | (with_reducible exact ih0 _ _ _)
   | (with_reducible exact ih1 _ _ _)
   | (with_reducible exact LeO.refl _)
   | (with_reducible exact LeO.none _)
   | (with_reducible refine LeO.ite ?_ ?_)
   | (with_reducible refine LeO.bind ?_ (fun _ => ?_))
   | exact ih0 _ _ _
   | exact ih1 _ _ _
   | exact LeO.none _
   | refine LeO.ite ?_ ?_
   | refine LeO.bind ?_ (fun _ => ?_)
set_option maxHeartbeats 8000000 in
set_option maxRecDepth 100000 in
theorem unisonref01_refused.calls (k : Nat) (a0 : Int) (A1 : Option Addr) (c1 : Nat) (l1 : List (S23)) (r : Int) (w : World) (hr1 : Kd.C k23 w A1 l1.length l1) (hc1 : l1.length ≤ c1) (h : unisonref01_refused.f k a0 l1 = some r) :
  Calls Tryd.prog 46 #[.int .i64 a0, .slice A1 l1.length c1] w fun e w' => e = .returned (.int .i64 r) ∧ Below w.heap.size w w' := by
 have hu23 := Tryd.underlying23; have HR1 := Aside0.mk hr1; have HC1 := Aside0.mk hc1; clear hr1 hc1; have HB := Aside0.mk (Below.refl w.heap.size w); have H : (unisonref01_refused.l0 k a0 l1 0) = some r := h; clear h
 have H' := Aside0.mk H
 clear H
 go_enter Tryd.func46, Tryd.ntmps46
 go_wp2
 go_loopg [5] k (fun kq v5 w' => ∃ (x5_1 : Int), v5 = .int .i64 x5_1 ∧ Aside0 (unisonref01_refused.l0 kq a0 l1 x5_1 = some r) ∧ Aside0 (kq ≤ k) ∧ Aside0 (Below w.heap.size w w'))
 case atStart => exact ⟨(0), (by first | rfl | (simp; done) | (simp [*]; done)), H', ⟨Nat.le_refl _⟩, ⟨by exact HB.out⟩⟩
 case round =>
  clear H'
  (try clear c1); (try clear p2)
  obtain ⟨x5_1, rfl, HA, HK1, HB⟩ := hrel
  cases gk with
  | zero => exact absurd HA.out (by simp [unisonref01_refused.l0])
  | succ k1 =>
   have H := HA.out; clear HA
   simp only [unisonref01_refused.l0] at H
   by_cases c3 : x5_1 < (l1.length : Int)
   ·
    rw [if_pos c3] at H
    have c3b0 : decide (x5_1 < (l1.length : Int)) = true := decide_eq_true c3; clear c3
    by_cases c4 : 0 ≤ x5_1
    ·
     rw [if_pos c4] at H
     have c4b0 : decide (0 ≤ x5_1) = true := decide_eq_true c4; clear c4; replace H := Option.bind_eq_some_iff.mp H
     obtain ⟨t331, A50, H⟩ := H
     replace H : (if t331 = true then (unisonref01_refused.l0 k1 a0 l1 (wrap64 (x5_1 + 1))) else (some 10)) = some r := H; have A5 := Aside0.mk A50; clear A50
     by_cases c6 : t331 = true
     ·
      subst c6
      have H1 : (unisonref01_refused.l0 k1 a0 l1 (wrap64 (x5_1 + 1))) = some r := by (first | rw [if_pos rfl] at H | rw [if_pos True.intro] at H | skip); exact H
      clear H; have H := H1; clear H1
      have H' := Aside0.mk H
      clear H; have p330 : 0 ≤ (x5_1 : Int) := of_decide_eq_true (by first | (with_reducible assumption) | assumption); have q330 : x5_1 < (l1.length : Int) := of_decide_eq_true (by first | (with_reducible assumption) | assumption)
      obtain ⟨ad330, e330, hx330_0, hx330_1, hx330_2⟩ := at_T23 HR1.out x5_1 p330 q330
      cases e330
      replace hx330_0 := (HB.out.cell (World.block_lt_of_cell? w _ hx330_0)).trans hx330_0; replace hx330_1 := (HB.out.cell (World.block_lt_of_cell? w _ hx330_1)).trans hx330_1; replace hx330_2 := (HB.out.cell (World.block_lt_of_cell? w _ hx330_2)).trans hx330_2; replace p330 := eq_true p330; replace q330 := eq_true q330
      go_wp2_with (first | ((with_reducible refine gate_callee (f := 14) rfl ?_); refine gL (some 18) Tryd.func14 #[.agg #[.int .i64 ((rd_T23 l1 x5_1).f0), .int .i64 ((rd_T23 l1 x5_1).f1), .string ((rd_T23 l1 x5_1).f2)]] ?_; (with_reducible refine (unisonref01_Right.calls ((rd_T23 l1 x5_1).f0) ((rd_T23 l1 x5_1).f1) ((rd_T23 l1 x5_1).f2) true _ A5.out).mono ?_); rintro e w7 ⟨rfl, hb⟩; refine ⟨_, rfl, ?_⟩; replace HB := Aside0.mk (below_step (by exact HB.out) hb); (try clear hb); (try clear hb2); (try clear hk); (try clear hi)))
      go_roundg k1
      case measure => have := HK1.out; omega
      case rel => exact ⟨(wrap64 (x5_1 + 1)), (by first | rfl | (simp; done) | (simp [*]; done)), H', ⟨by have := HK1.out; omega⟩, ⟨by exact HB.out⟩⟩
     ·
      replace c6 := Bool.eq_false_iff.mpr c6
      subst c6
      have H1 : (some 10) = some r := by rw [if_neg (show ¬ (false = true) by decide)] at H; exact H
      clear H; have H := H1; clear H1
      obtain rfl := Option.some.inj H
      have p330 : 0 ≤ (x5_1 : Int) := of_decide_eq_true (by first | (with_reducible assumption) | assumption); have q330 : x5_1 < (l1.length : Int) := of_decide_eq_true (by first | (with_reducible assumption) | assumption)
      obtain ⟨ad330, e330, hx330_0, hx330_1, hx330_2⟩ := at_T23 HR1.out x5_1 p330 q330
      cases e330
      replace hx330_0 := (HB.out.cell (World.block_lt_of_cell? w _ hx330_0)).trans hx330_0; replace hx330_1 := (HB.out.cell (World.block_lt_of_cell? w _ hx330_1)).trans hx330_1; replace hx330_2 := (HB.out.cell (World.block_lt_of_cell? w _ hx330_2)).trans hx330_2; replace p330 := eq_true p330; replace q330 := eq_true q330
      go_wp2_with (first | ((with_reducible refine gate_callee (f := 14) rfl ?_); refine gL (some 18) Tryd.func14 #[.agg #[.int .i64 ((rd_T23 l1 x5_1).f0), .int .i64 ((rd_T23 l1 x5_1).f1), .string ((rd_T23 l1 x5_1).f2)]] ?_; (with_reducible refine (unisonref01_Right.calls ((rd_T23 l1 x5_1).f0) ((rd_T23 l1 x5_1).f1) ((rd_T23 l1 x5_1).f2) false _ A5.out).mono ?_); rintro e w8 ⟨rfl, hb⟩; refine ⟨_, rfl, ?_⟩; replace HB := Aside0.mk (below_step (by exact HB.out) hb); (try clear hb); (try clear hb2); (try clear hk); (try clear hi)))
      go_ret
      exact ⟨by first | (simp only [ByteArray.size_extract, Nat.min_self]; rfl) | rfl | (simp [errW_none, errW_some] <;> rfl) | (simp [*, errW_none, errW_some] <;> rfl), by exact HB.out⟩
    ·
     rw [if_neg c4] at H
     exact absurd H (by simp)
   ·
    rw [if_neg c3] at H
    have c3b0 : decide (x5_1 < (l1.length : Int)) = false := decide_eq_false c3; clear c3
    have H' := Aside0.mk H
    clear H
    go_wp2
    go_loopg [7] k1 (fun kq v7 w' => ∃ (x7_2 : Int), v7 = .int .i64 x7_2 ∧ Aside0 (unisonref01_refused.l1 kq a0 l1 x7_2 = some r) ∧ Aside0 (kq ≤ k1) ∧ Aside0 (Below w.heap.size w w'))
    case atStart => exact ⟨(0), (by first | rfl | (simp; done) | (simp [*]; done)), H', ⟨Nat.le_refl _⟩, ⟨by exact HB.out⟩⟩
    case round =>
     clear H'
     (try clear c1); (try clear p2); (try clear c3); (try clear c3b0); (try clear p3); (try clear q3); (try clear hx3); (try clear c4); (try clear c4b0); (try clear c6); (try clear p6); (try clear hx330_0); (try clear hx330_1); (try clear hx330_2); (try clear p2); (try clear p330); (try clear q330)
     obtain ⟨x7_2, rfl, HA, HK2, HB⟩ := hrel
     cases gk with
     | zero => exact absurd HA.out (by simp [unisonref01_refused.l1])
     | succ k2 =>
      have H := HA.out; clear HA
      simp only [unisonref01_refused.l1] at H
      by_cases c9 : x7_2 < (l1.length : Int)
      ·
       rw [if_pos c9] at H
       have c9b0 : decide (x7_2 < (l1.length : Int)) = true := decide_eq_true c9; clear c9
       by_cases c10 : 0 ≤ x7_2
       ·
        rw [if_pos c10] at H
        have c10b0 : decide (0 ≤ x7_2) = true := decide_eq_true c10; clear c10
        by_cases c11 : ((rd_T23 l1 x7_2).f0) = a0
        ·
         rw [if_pos c11] at H
         have c11b0 : (((rd_T23 l1 x7_2).f0) == a0) = true := beq_iff_eq.mpr c11; have c11b1 : (((rd_T23 l1 x7_2).f0) != a0) = false := bne_eq_false_iff_eq.mpr c11; clear c11
         have H' := Aside0.mk H
         clear H; have p332 : 0 ≤ (x7_2 : Int) := of_decide_eq_true (by first | (with_reducible assumption) | assumption); have q332 : x7_2 < (l1.length : Int) := of_decide_eq_true (by first | (with_reducible assumption) | assumption)
         obtain ⟨ad332, e332, hx332_0, hx332_1, hx332_2⟩ := at_T23 HR1.out x7_2 p332 q332
         cases e332
         replace hx332_0 := (HB.out.cell (World.block_lt_of_cell? w _ hx332_0)).trans hx332_0; replace hx332_1 := (HB.out.cell (World.block_lt_of_cell? w _ hx332_1)).trans hx332_1; replace hx332_2 := (HB.out.cell (World.block_lt_of_cell? w _ hx332_2)).trans hx332_2; replace p332 := eq_true p332; replace q332 := eq_true q332
         go_wp2
         go_roundg k2
         case measure => have := HK1.out; have := HK2.out; omega
         case rel => exact ⟨(wrap64 (x7_2 + 1)), (by first | rfl | (simp; done) | (simp [*]; done)), H', ⟨by have := HK1.out; have := HK2.out; omega⟩, ⟨by exact HB.out⟩⟩
        ·
         rw [if_neg c11] at H
         have c11b0 : (((rd_T23 l1 x7_2).f0) == a0) = false := beq_eq_false_iff_ne.mpr c11; have c11b1 : (((rd_T23 l1 x7_2).f0) != a0) = true := bne_iff_ne.mpr c11
         by_cases c12 : ((rd_T23 l1 x7_2).f0) = 0
         ·
          rw [if_pos c12] at H
          have c12b0 : (((rd_T23 l1 x7_2).f0) == 0) = true := beq_iff_eq.mpr c12; have c12b1 : (((rd_T23 l1 x7_2).f0) != 0) = false := bne_eq_false_iff_eq.mpr c12; clear c12
          have H' := Aside0.mk H
          clear H; have p332 : 0 ≤ (x7_2 : Int) := of_decide_eq_true (by first | (with_reducible assumption) | assumption); have q332 : x7_2 < (l1.length : Int) := of_decide_eq_true (by first | (with_reducible assumption) | assumption)
          obtain ⟨ad332, e332, hx332_0, hx332_1, hx332_2⟩ := at_T23 HR1.out x7_2 p332 q332
          cases e332
          replace hx332_0 := (HB.out.cell (World.block_lt_of_cell? w _ hx332_0)).trans hx332_0; replace hx332_1 := (HB.out.cell (World.block_lt_of_cell? w _ hx332_1)).trans hx332_1; replace hx332_2 := (HB.out.cell (World.block_lt_of_cell? w _ hx332_2)).trans hx332_2; replace p332 := eq_true p332; replace q332 := eq_true q332; have p333 : 0 ≤ (x7_2 : Int) := of_decide_eq_true (by first | (with_reducible assumption) | assumption); have q333 : x7_2 < (l1.length : Int) := of_decide_eq_true (by first | (with_reducible assumption) | assumption)
          obtain ⟨ad333, e333, hx333_0, hx333_1, hx333_2⟩ := at_T23 HR1.out x7_2 p333 q333
          obtain rfl : ad332 = ad333 := (by injection e333)
          replace hx333_0 := (HB.out.cell (World.block_lt_of_cell? w _ hx333_0)).trans hx333_0; replace hx333_1 := (HB.out.cell (World.block_lt_of_cell? w _ hx333_1)).trans hx333_1; replace hx333_2 := (HB.out.cell (World.block_lt_of_cell? w _ hx333_2)).trans hx333_2; replace p333 := eq_true p333; replace q333 := eq_true q333
          go_wp2
          go_roundg k2
          case measure => have := HK1.out; have := HK2.out; omega
          case rel => exact ⟨(wrap64 (x7_2 + 1)), (by first | rfl | (simp; done) | (simp [*]; done)), H', ⟨by have := HK1.out; have := HK2.out; omega⟩, ⟨by exact HB.out⟩⟩
         ·
          rw [if_neg c12] at H
          have c12b0 : (((rd_T23 l1 x7_2).f0) == 0) = false := beq_eq_false_iff_ne.mpr c12; have c12b1 : (((rd_T23 l1 x7_2).f0) != 0) = true := bne_iff_ne.mpr c12
          obtain rfl := Option.some.inj H
          have p332 : 0 ≤ (x7_2 : Int) := of_decide_eq_true (by first | (with_reducible assumption) | assumption); have q332 : x7_2 < (l1.length : Int) := of_decide_eq_true (by first | (with_reducible assumption) | assumption)
          obtain ⟨ad332, e332, hx332_0, hx332_1, hx332_2⟩ := at_T23 HR1.out x7_2 p332 q332
          cases e332
          replace hx332_0 := (HB.out.cell (World.block_lt_of_cell? w _ hx332_0)).trans hx332_0; replace hx332_1 := (HB.out.cell (World.block_lt_of_cell? w _ hx332_1)).trans hx332_1; replace hx332_2 := (HB.out.cell (World.block_lt_of_cell? w _ hx332_2)).trans hx332_2; replace p332 := eq_true p332; replace q332 := eq_true q332; have p333 : 0 ≤ (x7_2 : Int) := of_decide_eq_true (by first | (with_reducible assumption) | assumption); have q333 : x7_2 < (l1.length : Int) := of_decide_eq_true (by first | (with_reducible assumption) | assumption)
          obtain ⟨ad333, e333, hx333_0, hx333_1, hx333_2⟩ := at_T23 HR1.out x7_2 p333 q333
          obtain rfl : ad332 = ad333 := (by injection e333)
          replace hx333_0 := (HB.out.cell (World.block_lt_of_cell? w _ hx333_0)).trans hx333_0; replace hx333_1 := (HB.out.cell (World.block_lt_of_cell? w _ hx333_1)).trans hx333_1; replace hx333_2 := (HB.out.cell (World.block_lt_of_cell? w _ hx333_2)).trans hx333_2; replace p333 := eq_true p333; replace q333 := eq_true q333
          go_wp2
          go_ret
          exact ⟨by first | (simp only [ByteArray.size_extract, Nat.min_self]; rfl) | rfl | (simp [errW_none, errW_some] <;> rfl) | (simp [*, errW_none, errW_some] <;> rfl), by repeat (first | (with_reducible first | exact HB.out | apply pA | apply pN | apply pD) | exact HB.out)⟩
       ·
        rw [if_neg c10] at H
        exact absurd H (by simp)
      ·
       rw [if_neg c9] at H
       have c9b0 : decide (x7_2 < (l1.length : Int)) = false := decide_eq_false c9; clear c9
       obtain rfl := Option.some.inj H
       go_wp2
       go_ret
       exact ⟨by first | (simp only [ByteArray.size_extract, Nat.min_self]; rfl) | rfl | (simp [errW_none, errW_some] <;> rfl) | (simp [*, errW_none, errW_some] <;> rfl), by repeat (first | (with_reducible first | exact HB.out | apply pA | apply pN | apply pD) | exact HB.out)⟩
end Go.Proofs.YteehcopkljiikaaDoor.PA
end
section
namespace Go.Proofs.YteehcopkljiikaaDoor.PA
open Go.RowKit Go.Proofs.YteehcopkljiikaaDoorW.PrintWords Go.Proofs.YteehcopkljiikaaDoorW.PrintLast Go.Proofs.YteehcopkljiikaaDoorW.PrintMore Go.Proofs.YteehcopkljiikaaDoorX
attribute [local go_sem] max2_int min2_int max_two min_two max_three min_three max_four min_four   -- for this text's walks alone
set_option linter.unusedVariables false
set_option linter.unusedSimpArgs false
attribute [local go_sem high] eqA23
/-! ### unisonref01_Number: function 47 -/
def unisonref01_Number.f (a0 : Int) : Option (Int × Int × ByteArray) := some (1, a0, (⟨#[]⟩ : ByteArray))
set_option maxHeartbeats 8000000 in
set_option maxRecDepth 100000 in
theorem unisonref01_Number.calls (a0 : Int) (r1 : Int) (r2 : Int) (r3 : ByteArray) (w : World) (h : unisonref01_Number.f a0 = some (r1, r2, r3)) :
  Calls Tryd.prog 47 #[.int .i64 a0] w fun e w' => e = .returned (.agg #[.int .i64 r1, .int .i64 r2, .string r3]) ∧ Below w.heap.size w w' := by
 have hu23 := Tryd.underlying23; have HB := Aside0.mk (Below.refl w.heap.size w); have H : (some (1, a0, (⟨#[]⟩ : ByteArray))) = some (r1, r2, r3) := h; clear h
 simp only [Option.some.injEq, Prod.mk.injEq] at H
 obtain ⟨rfl, rfl, rfl⟩ := H
 go_enter Tryd.func47, Tryd.ntmps47
 go_wp2_with (first | ((with_reducible refine gate_dst (N := 2) rfl ?_); refine box_event ?hg (N := 2) ?hd (cs := #[.int .i64 0, .int .i64 0, .string (⟨#[]⟩ : ByteArray)]) (t := 23) ?hr ?_; (case hd => rfl); (case hg => rfl); (case hr => first | (go_simp; done) | (go_simp; rfl)); intro gb334 hg w2 hbox hb; have BK334 := Aside0.mk (hbox); have GW334 := bz hg; have GE334 := bz hg; replace HB := bs hb; clear hb hbox hg; have hcz3_0 : w2.cell? ⟨gb334, 0, none⟩ = some (.int .i64 0) := (blk_cell BK334.out 0).trans rfl; have hcz3_1 : w2.cell? ⟨gb334, 1, none⟩ = some (.int .i64 0) := (blk_cell BK334.out 1).trans rfl; have hcz3_2 : w2.cell? ⟨gb334, 2, none⟩ = some (.string (⟨#[]⟩ : ByteArray)) := (blk_cell BK334.out 2).trans rfl; have hfz3_0 := blk_frozen BK334.out 0; have hfz3_1 := blk_frozen BK334.out 1; have hfz3_2 := blk_frozen BK334.out 2) | ((with_reducible refine gate_store (t := 23) (p := 2) rfl ?_); refine store_event (t := 23) (p := 2) (v := ?vo_w4) (w1 := (((w2.setCell ⟨gb334, 0, none⟩ (.int .i64 1)).setCell ⟨gb334, 1, none⟩ (.int .i64 a0)).setCell ⟨gb334, 2, none⟩ (.string (⟨#[]⟩ : ByteArray)))) ?hg ?ho ?hn ?hr ?_; (case ho => rfl); (case hg => rfl); (case hn => rfl); (case hr => first | (go_simp; done) | (go_simp; rfl)); intro w4 hw; replace BK334 : Aside0 (w4.heap[gb334]? = some (.cells #[.int .i64 1, .int .i64 a0, .string (⟨#[]⟩ : ByteArray)] 23 (0, 0))) := bp BK334 hw; replace HB := bv hw; clear hw))
 refine bodyPost_ret (results_cell_row rfl _ _ gb334 23 #[.int .i64 1, .int .i64 a0, .string (⟨#[]⟩ : ByteArray)] (0, 0) _ rfl (by (with_reducible repeat first | apply bN | apply bD | apply bA); exact BK334.out) Tryd.underlying23 rfl (by kernel_rfl)) rfl ?_
 exact ⟨by first | (simp only [ByteArray.size_extract, Nat.min_self]; rfl) | rfl | (simp [errW_none, errW_some] <;> rfl) | (simp [*, errW_none, errW_some] <;> rfl), by repeat (first | (with_reducible first | exact HB.out | apply pA | apply pN | apply pD | refine pS ?_ GE334.out) | exact HB.out)⟩
end Go.Proofs.YteehcopkljiikaaDoor.PA
end
section
namespace Go.Proofs.YteehcopkljiikaaDoor.PA
open Go.RowKit Go.Proofs.YteehcopkljiikaaDoorW.PrintWords Go.Proofs.YteehcopkljiikaaDoorW.PrintLast Go.Proofs.YteehcopkljiikaaDoorW.PrintMore Go.Proofs.YteehcopkljiikaaDoorX
attribute [local go_sem] max2_int min2_int max_two min_two max_three min_three max_four min_four   -- for this text's walks alone
set_option linter.unusedVariables false
set_option linter.unusedSimpArgs false
/-! ### unisonref01_times: function 49 -/
def unisonref01_times.j0 : Nat → Int → Int → Int → Option (Int × Bool)
 | 0, _, _, _ => none
 | k + 1, x0, x1, x6 => if x1 < 0 then (if x6 > 0 then (if x6 = 0 then (none) else (if (wrap64 (-x1)) > (wrap64 (Int.tdiv (4611686018427387904 : Int) x6)) then (some (0, false)) else (some (wrap64 (x0 * x1), true)))) else (some (wrap64 (x0 * x1), true))) else (if x6 > 0 then (if x6 = 0 then (none) else (if x1 > (wrap64 (Int.tdiv (4611686018427387904 : Int) x6)) then (some (0, false)) else (some (wrap64 (x0 * x1), true)))) else (some (wrap64 (x0 * x1), true)))
def unisonref01_times.f (k : Nat) (a0 : Int) (a1 : Int) : Option (Int × Bool) := if a0 < 0 then (unisonref01_times.j0 k a0 a1 (wrap64 (-a0))) else (unisonref01_times.j0 k a0 a1 a0)
theorem unisonref01_times.mono_l : ∀ k, (∀ y0 y1 y2, LeO (unisonref01_times.j0 k y0 y1 y2) (unisonref01_times.j0 (k + 1) y0 y1 y2))
 | 0 => fun _ _ _ r h => by simp [unisonref01_times.j0] at h
 | k + 1 => by
  have ih0 := unisonref01_times.mono_l k
  ·
   intro y0 y1 y2
   unfold unisonref01_times.j0
   repeat' first
   | (with_reducible exact ih0 _ _ _)
   | (with_reducible exact LeO.refl _)
   | (with_reducible exact LeO.none _)
   | (with_reducible refine LeO.ite ?_ ?_)
   | (with_reducible refine LeO.bind ?_ (fun _ => ?_))
   | exact ih0 _ _ _
   | exact LeO.none _
   | refine LeO.ite ?_ ?_
   | refine LeO.bind ?_ (fun _ => ?_)
theorem unisonref01_times.mono : ∀ a0 a1 k, LeO (unisonref01_times.f k a0 a1) (unisonref01_times.f (k + 1) a0 a1) := by
 intro a0 a1 k
 have ih0 := unisonref01_times.mono_l k
 unfold unisonref01_times.f
 repeat' first
   | (with_reducible exact ih0 _ _ _)
   | (with_reducible exact LeO.refl _)
   | (with_reducible exact LeO.none _)
   | (with_reducible refine LeO.ite ?_ ?_)
   | (with_reducible refine LeO.bind ?_ (fun _ => ?_))
   | exact ih0 _ _ _
   | exact LeO.none _
   | refine LeO.ite ?_ ?_
   | refine LeO.bind ?_ (fun _ => ?_)
set_option maxHeartbeats 8000000 in
set_option maxRecDepth 100000 in
theorem unisonref01_times.calls (k : Nat) (a0 : Int) (a1 : Int) (r1 : Int) (r2 : Bool) (w : World) (h : unisonref01_times.f k a0 a1 = some (r1, r2)) :
  Calls Tryd.prog 49 #[.int .i64 a0, .int .i64 a1] w fun e w' => e = .returned (.tuple #[.int .i64 r1, .bool r2]) ∧ Drawn0 w w' := by
 have H : (if a0 < 0 then (unisonref01_times.j0 k a0 a1 (wrap64 (-a0))) else (unisonref01_times.j0 k a0 a1 a0)) = some (r1, r2) := h; clear h; have HC3 := Aside0.mk H; clear H
 go_enter Tryd.func49, Tryd.ntmps49
 go_upto_if 10 with (fail)
 go_cut [6] (fun v6 wc => ∃ (kq : Nat) (x6_2 : Int), v6 = .int .i64 x6_2 ∧ Aside0 (unisonref01_times.j0 kq a0 a1 x6_2 = some (r1, r2)) ∧ Aside0 (kq ≤ k) ∧ Drawn0 w wc)
 case first =>
  have H := HC3.out; clear HC3
  by_cases c4 : a0 < 0
  ·
   rw [if_pos c4] at H
   have c4b0 : decide (a0 < 0) = true := decide_eq_true c4; clear c4
   (first | rw [c4b0] | (simp only [i64_w, i32_w, u8_w, u32_w]; rw [c4b0]) | rw [c4b1] | skip)
   have H' := Aside0.mk H
   clear H
   go_wp2
   go_meet
   case rel => exact ⟨_, (wrap64 (-a0)), (by first | rfl | (simp; done) | (simp [*]; done)), H', ⟨by first | omega | exact Nat.le_refl _⟩, by repeat (first | exact Drawn0.refl _ | apply Drawn0.step)⟩
  ·
   rw [if_neg c4] at H
   have c4b0 : decide (a0 < 0) = false := decide_eq_false c4; clear c4
   (first | rw [c4b0] | (simp only [i64_w, i32_w, u8_w, u32_w]; rw [c4b0]) | rw [c4b1] | skip)
   have H' := Aside0.mk H
   clear H
   go_wp2
   go_meet
   case rel => exact ⟨_, (a0), (by first | rfl | (simp; done) | (simp [*]; done)), H', ⟨by first | omega | exact Nat.le_refl _⟩, by repeat (first | exact Drawn0.refl _ | apply Drawn0.step)⟩
 case rest =>
  clear HC3; (try clear p2); (try clear c4); (try clear c4b0); (try clear c4b1)
  obtain ⟨kq, x6_2, rfl, HA, HJ2, ⟨mc2, rfl⟩⟩ := hcut
  cases kq with
  | zero => exact absurd HA.out (by simp [unisonref01_times.j0])
  | succ kj2 =>
   have H := HA.out; clear HA
   simp only [unisonref01_times.j0] at H
   by_cases c5 : a1 < 0
   ·
    rw [if_pos c5] at H
    have c5b0 : decide (a1 < 0) = true := decide_eq_true c5; clear c5
    by_cases c6 : x6_2 > 0
    ·
     rw [if_pos c6] at H
     have c6b0 : decide (0 < x6_2) = true := decide_eq_true c6; clear c6
     by_cases c7 : x6_2 = 0
     ·
      rw [if_pos c7] at H
      exact absurd H (by simp)
     ·
      rw [if_neg c7] at H
      have c7b0 : (x6_2 == 0) = false := beq_eq_false_iff_ne.mpr c7; have c7b1 : (x6_2 != 0) = true := bne_iff_ne.mpr c7
      by_cases c8 : (wrap64 (-a1)) > (wrap64 (Int.tdiv (4611686018427387904 : Int) x6_2))
      ·
       rw [if_pos c8] at H
       have c8b0 : decide ((wrap64 (Int.tdiv (4611686018427387904 : Int) x6_2)) < (wrap64 (-a1))) = true := decide_eq_true c8; clear c8
       simp only [Option.some.injEq, Prod.mk.injEq] at H
       obtain ⟨rfl, rfl⟩ := H
       go_wp2
       go_ret2
       exact ⟨by first | rfl | (simp; done) | (simp [*]; done), by repeat (first | exact Drawn0.refl _ | apply Drawn0.step)⟩
      ·
       rw [if_neg c8] at H
       have c8b0 : decide ((wrap64 (Int.tdiv (4611686018427387904 : Int) x6_2)) < (wrap64 (-a1))) = false := decide_eq_false c8; clear c8
       simp only [Option.some.injEq, Prod.mk.injEq] at H
       obtain ⟨rfl, rfl⟩ := H
       go_wp2
       go_ret2
       exact ⟨by first | rfl | (simp; done) | (simp [*]; done), by repeat (first | exact Drawn0.refl _ | apply Drawn0.step)⟩
    ·
     rw [if_neg c6] at H
     have c6b0 : decide (0 < x6_2) = false := decide_eq_false c6; clear c6
     simp only [Option.some.injEq, Prod.mk.injEq] at H
     obtain ⟨rfl, rfl⟩ := H
     go_wp2
     go_ret2
     exact ⟨by first | rfl | (simp; done) | (simp [*]; done), by repeat (first | exact Drawn0.refl _ | apply Drawn0.step)⟩
   ·
    rw [if_neg c5] at H
    have c5b0 : decide (a1 < 0) = false := decide_eq_false c5; clear c5
    by_cases c9 : x6_2 > 0
    ·
     rw [if_pos c9] at H
     have c9b0 : decide (0 < x6_2) = true := decide_eq_true c9; clear c9
     by_cases c10 : x6_2 = 0
     ·
      rw [if_pos c10] at H
      exact absurd H (by simp)
     ·
      rw [if_neg c10] at H
      have c10b0 : (x6_2 == 0) = false := beq_eq_false_iff_ne.mpr c10; have c10b1 : (x6_2 != 0) = true := bne_iff_ne.mpr c10
      by_cases c11 : a1 > (wrap64 (Int.tdiv (4611686018427387904 : Int) x6_2))
      ·
       rw [if_pos c11] at H
       have c11b0 : decide ((wrap64 (Int.tdiv (4611686018427387904 : Int) x6_2)) < a1) = true := decide_eq_true c11; clear c11
       simp only [Option.some.injEq, Prod.mk.injEq] at H
       obtain ⟨rfl, rfl⟩ := H
       go_wp2
       go_ret2
       exact ⟨by first | rfl | (simp; done) | (simp [*]; done), by repeat (first | exact Drawn0.refl _ | apply Drawn0.step)⟩
      ·
       rw [if_neg c11] at H
       have c11b0 : decide ((wrap64 (Int.tdiv (4611686018427387904 : Int) x6_2)) < a1) = false := decide_eq_false c11; clear c11
       simp only [Option.some.injEq, Prod.mk.injEq] at H
       obtain ⟨rfl, rfl⟩ := H
       go_wp2
       go_ret2
       exact ⟨by first | rfl | (simp; done) | (simp [*]; done), by repeat (first | exact Drawn0.refl _ | apply Drawn0.step)⟩
    ·
     rw [if_neg c9] at H
     have c9b0 : decide (0 < x6_2) = false := decide_eq_false c9; clear c9
     simp only [Option.some.injEq, Prod.mk.injEq] at H
     obtain ⟨rfl, rfl⟩ := H
     go_wp2
     go_ret2
     exact ⟨by first | rfl | (simp; done) | (simp [*]; done), by repeat (first | exact Drawn0.refl _ | apply Drawn0.step)⟩
end Go.Proofs.YteehcopkljiikaaDoor.PA
end
section
namespace Go.Proofs.YteehcopkljiikaaDoor.PA
open Go.RowKit Go.Proofs.YteehcopkljiikaaDoorW.PrintWords Go.Proofs.YteehcopkljiikaaDoorW.PrintLast Go.Proofs.YteehcopkljiikaaDoorW.PrintMore Go.Proofs.YteehcopkljiikaaDoorX
attribute [local go_sem] max2_int min2_int max_two min_two max_three min_three max_four min_four   -- for this text's walks alone
set_option linter.unusedVariables false
set_option linter.unusedSimpArgs false
/-! ### unisonref01_fits: function 48 -/
def unisonref01_fits.f (a0 : Int) : Option (Int × Int × ByteArray × Int) := if a0 < (-4611686018427387904) then (some (0, 0, (⟨#[]⟩ : ByteArray), 12)) else (if a0 > 4611686018427387904 then (some (0, 0, (⟨#[]⟩ : ByteArray), 12)) else ((unisonref01_Number.f a0).bind fun bt468 => (some (bt468.1, bt468.2.1, bt468.2.2, 0))))
set_option maxHeartbeats 8000000 in
set_option maxRecDepth 100000 in
theorem unisonref01_fits.calls (a0 : Int) (r1 : Int) (r2 : Int) (r3 : ByteArray) (r4 : Int) (w : World) (h : unisonref01_fits.f a0 = some (r1, r2, r3, r4)) :
  Calls Tryd.prog 48 #[.int .i64 a0] w fun e w' => e = .returned (.tuple #[.agg #[.int .i64 r1, .int .i64 r2, .string r3], .int .i64 r4]) ∧ Below w.heap.size w w' := by
 have hu23 := Tryd.underlying23; have HB := Aside0.mk (Below.refl w.heap.size w); have H : (if a0 < (-4611686018427387904) then (some (0, 0, (⟨#[]⟩ : ByteArray), 12)) else (if a0 > 4611686018427387904 then (some (0, 0, (⟨#[]⟩ : ByteArray), 12)) else ((unisonref01_Number.f a0).bind fun bt468 => (some (bt468.1, bt468.2.1, bt468.2.2, 0))))) = some (r1, r2, r3, r4) := h; clear h
 by_cases c2 : a0 < (-4611686018427387904)
 ·
  rw [if_pos c2] at H
  have c2b0 : decide (a0 < (-4611686018427387904)) = true := decide_eq_true c2; clear c2
  simp only [Option.some.injEq, Prod.mk.injEq] at H
  obtain ⟨rfl, rfl, rfl, rfl⟩ := H
  go_enter Tryd.func48, Tryd.ntmps48
  go_wp2_with (first | ((with_reducible refine gate_dst (N := 2) rfl ?_); refine box_event ?hg (N := 2) ?hd (cs := #[.int .i64 0, .int .i64 0, .string (⟨#[]⟩ : ByteArray)]) (t := 23) ?hr ?_; (case hd => rfl); (case hg => rfl); (case hr => first | (go_simp; done) | (go_simp; rfl)); intro gb467 hg w3 hbox hb; have BK467 := Aside0.mk (hbox); have GW467 := bz hg; have GE467 := bz hg; replace HB := bs hb; clear hb hbox hg; have hcz4_0 : w3.cell? ⟨gb467, 0, none⟩ = some (.int .i64 0) := (blk_cell BK467.out 0).trans rfl; have hcz4_1 : w3.cell? ⟨gb467, 1, none⟩ = some (.int .i64 0) := (blk_cell BK467.out 1).trans rfl; have hcz4_2 : w3.cell? ⟨gb467, 2, none⟩ = some (.string (⟨#[]⟩ : ByteArray)) := (blk_cell BK467.out 2).trans rfl; have hfz4_0 := blk_frozen BK467.out 0; have hfz4_1 := blk_frozen BK467.out 1; have hfz4_2 := blk_frozen BK467.out 2) | ((with_reducible refine gate_store (t := 23) (p := 2) rfl ?_); refine store_event (t := 23) (p := 2) (v := ?vo_w5) (w1 := (((w3.setCell ⟨gb467, 0, none⟩ (.int .i64 0)).setCell ⟨gb467, 1, none⟩ (.int .i64 0)).setCell ⟨gb467, 2, none⟩ (.string (⟨#[]⟩ : ByteArray)))) ?hg ?ho ?hn ?hr ?_; (case ho => rfl); (case hg => rfl); (case hn => rfl); (case hr => first | (go_simp; done) | (go_simp; rfl)); intro w5 hw; replace BK467 : Aside0 (w5.heap[gb467]? = some (.cells #[.int .i64 0, .int .i64 0, .string (⟨#[]⟩ : ByteArray)] 23 (0, 0))) := bp BK467 hw; replace HB := bv hw; clear hw))
  refine bodyPost_ret (results_ct rfl _ _ gb467 23 #[.int .i64 0, .int .i64 0, .string (⟨#[]⟩ : ByteArray)] (0, 0) _ rfl (by (with_reducible repeat (first | refine blk_drewN ?_ _ | refine blk_drew ?_ | refine blk_alloc ?_ _)); exact BK467.out) Tryd.underlying23 rfl (by kernel_rfl)) rfl ?_
  exact ⟨by first | (simp only [ByteArray.size_extract, Nat.min_self]; rfl) | rfl | (simp [errW_none, errW_some] <;> rfl) | (simp [*, errW_none, errW_some] <;> rfl), by repeat (first | (with_reducible first | exact HB.out | apply below_alloc | apply pw_below_drewN | apply below_drew1 | refine below_set ?_ GE467.out) | exact HB.out)⟩
 ·
  rw [if_neg c2] at H
  have c2b0 : decide (a0 < (-4611686018427387904)) = false := decide_eq_false c2; clear c2
  by_cases c6 : a0 > 4611686018427387904
  ·
   rw [if_pos c6] at H
   have c6b0 : decide (4611686018427387904 < a0) = true := decide_eq_true c6; clear c6
   simp only [Option.some.injEq, Prod.mk.injEq] at H
   obtain ⟨rfl, rfl, rfl, rfl⟩ := H
   go_enter Tryd.func48, Tryd.ntmps48
   go_wp2_with (first | ((with_reducible refine gate_dst (N := 2) rfl ?_); refine box_event ?hg (N := 2) ?hd (cs := #[.int .i64 0, .int .i64 0, .string (⟨#[]⟩ : ByteArray)]) (t := 23) ?hr ?_; (case hd => rfl); (case hg => rfl); (case hr => first | (go_simp; done) | (go_simp; rfl)); intro gb467 hg w7 hbox hb; have BK467 := Aside0.mk (hbox); have GW467 := bz hg; have GE467 := bz hg; replace HB := bs hb; clear hb hbox hg; have hcz8_0 : w7.cell? ⟨gb467, 0, none⟩ = some (.int .i64 0) := (blk_cell BK467.out 0).trans rfl; have hcz8_1 : w7.cell? ⟨gb467, 1, none⟩ = some (.int .i64 0) := (blk_cell BK467.out 1).trans rfl; have hcz8_2 : w7.cell? ⟨gb467, 2, none⟩ = some (.string (⟨#[]⟩ : ByteArray)) := (blk_cell BK467.out 2).trans rfl; have hfz8_0 := blk_frozen BK467.out 0; have hfz8_1 := blk_frozen BK467.out 1; have hfz8_2 := blk_frozen BK467.out 2) | ((with_reducible refine gate_store (t := 23) (p := 2) rfl ?_); refine store_event (t := 23) (p := 2) (v := ?vo_w9) (w1 := (((w7.setCell ⟨gb467, 0, none⟩ (.int .i64 0)).setCell ⟨gb467, 1, none⟩ (.int .i64 0)).setCell ⟨gb467, 2, none⟩ (.string (⟨#[]⟩ : ByteArray)))) ?hg ?ho ?hn ?hr ?_; (case ho => rfl); (case hg => rfl); (case hn => rfl); (case hr => first | (go_simp; done) | (go_simp; rfl)); intro w9 hw; replace BK467 : Aside0 (w9.heap[gb467]? = some (.cells #[.int .i64 0, .int .i64 0, .string (⟨#[]⟩ : ByteArray)] 23 (0, 0))) := bp BK467 hw; replace HB := bv hw; clear hw))
   refine bodyPost_ret (results_ct rfl _ _ gb467 23 #[.int .i64 0, .int .i64 0, .string (⟨#[]⟩ : ByteArray)] (0, 0) _ rfl (by (with_reducible repeat (first | refine blk_drewN ?_ _ | refine blk_drew ?_ | refine blk_alloc ?_ _)); exact BK467.out) Tryd.underlying23 rfl (by kernel_rfl)) rfl ?_
   exact ⟨by first | (simp only [ByteArray.size_extract, Nat.min_self]; rfl) | rfl | (simp [errW_none, errW_some] <;> rfl) | (simp [*, errW_none, errW_some] <;> rfl), by repeat (first | (with_reducible first | exact HB.out | apply below_alloc | apply pw_below_drewN | apply below_drew1 | refine below_set ?_ GE467.out) | exact HB.out)⟩
  ·
   rw [if_neg c6] at H
   have c6b0 : decide (4611686018427387904 < a0) = false := decide_eq_false c6; clear c6; replace H := Option.bind_eq_some_iff.mp H
   obtain ⟨⟨t468, t469, t470⟩, A100, H⟩ := H
   replace H : (some (t468, t469, t470, 0)) = some (r1, r2, r3, r4) := H; have A10 := Aside0.mk A100; clear A100
   simp only [Option.some.injEq, Prod.mk.injEq] at H
   obtain ⟨rfl, rfl, rfl, rfl⟩ := H
   go_enter Tryd.func48, Tryd.ntmps48
   go_wp2_with (first | ((with_reducible refine gate_dst (N := 2) rfl ?_); refine box_event ?hg (N := 2) ?hd (cs := #[.int .i64 0, .int .i64 0, .string (⟨#[]⟩ : ByteArray)]) (t := 23) ?hr ?_; (case hd => rfl); (case hg => rfl); (case hr => first | (go_simp; done) | (go_simp; rfl)); intro gb467 hg w11 hbox hb; have BK467 := Aside0.mk (hbox); have GW467 := bz hg; have GE467 := bz hg; replace HB := bs hb; clear hb hbox hg) | ((with_reducible refine gate_callee (f := 47) rfl ?_); refine gL (some 12) Tryd.func47 #[.int .i64 a0] ?_; (with_reducible refine (unisonref01_Number.calls a0 t468 t469 t470 _ A10.out).mono ?_); rintro e w12 ⟨rfl, hb⟩; refine ⟨_, rfl, ?_⟩; replace BK467 := bb BK467 hb; replace HB := bs hb; (try clear hb); (try clear hb2); (try clear hk); (try clear hi); have hcz13_0 : w12.cell? ⟨gb467, 0, none⟩ = some (.int .i64 0) := (blk_cell BK467.out 0).trans rfl; have hcz13_1 : w12.cell? ⟨gb467, 1, none⟩ = some (.int .i64 0) := (blk_cell BK467.out 1).trans rfl; have hcz13_2 : w12.cell? ⟨gb467, 2, none⟩ = some (.string (⟨#[]⟩ : ByteArray)) := (blk_cell BK467.out 2).trans rfl; have hfz13_0 := blk_frozen BK467.out 0; have hfz13_1 := blk_frozen BK467.out 1; have hfz13_2 := blk_frozen BK467.out 2) | ((with_reducible refine gate_store (t := 23) (p := 2) rfl ?_); refine store_event (t := 23) (p := 2) (v := ?vo_w14) (w1 := (((w12.setCell ⟨gb467, 0, none⟩ (.int .i64 t468)).setCell ⟨gb467, 1, none⟩ (.int .i64 t469)).setCell ⟨gb467, 2, none⟩ (.string t470))) ?hg ?ho ?hn ?hr ?_; (case ho => rfl); (case hg => rfl); (case hn => rfl); (case hr => first | (go_simp; done) | (go_simp; rfl)); intro w14 hw; replace BK467 : Aside0 (w14.heap[gb467]? = some (.cells #[.int .i64 t468, .int .i64 t469, .string t470] 23 (0, 0))) := bp BK467 hw; replace HB := bv hw; clear hw))
   refine bodyPost_ret (results_ct rfl _ _ gb467 23 #[.int .i64 t468, .int .i64 t469, .string t470] (0, 0) _ rfl (by (with_reducible repeat (first | refine blk_drewN ?_ _ | refine blk_drew ?_ | refine blk_alloc ?_ _)); exact BK467.out) Tryd.underlying23 rfl (by kernel_rfl)) rfl ?_
   exact ⟨by first | (simp only [ByteArray.size_extract, Nat.min_self]; rfl) | rfl | (simp [errW_none, errW_some] <;> rfl) | (simp [*, errW_none, errW_some] <;> rfl), by repeat (first | (with_reducible first | exact HB.out | apply below_alloc | apply pw_below_drewN | apply below_drew1 | refine below_set ?_ GE467.out) | exact HB.out)⟩
end Go.Proofs.YteehcopkljiikaaDoor.PA
end
