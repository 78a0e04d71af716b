-- Laid by a program of ours (wip/gen/xprint.py). Not trusted: Lean checks it.
import Derived.Test.YtohknmlcleifpaaDoorPAx0
import Derived.Test.YtohknmlcleifpaaDoorPAx2
namespace Go.Proofs.YtohknmlcleifpaaDoor.PA
open Go.RowKit Go.Proofs.YtohknmlcleifpaaDoorW.PrintWords Go.Proofs.YtohknmlcleifpaaDoorW.PrintLast Go.Proofs.YtohknmlcleifpaaDoorW.PrintMore Go.Proofs.YtohknmlcleifpaaDoorX
attribute [local go_sem] max2_int min2_int max_two min_two max_three min_three max_four min_four   -- for this text's walks alone
set_option linter.unusedVariables false
set_option linter.unusedSimpArgs false

/-! ### key_first: function 25 -/
mutual
def key_first.j0 : Nat → ByteArray → Bool → Bool → Int → Int → ByteArray → Option (Int × Int × ByteArray × ByteArray × Bool)
 | 0, _, _, _, _, _, _ => none
 | k + 1, x0, x6, x20, x131000, x131001, x131002 => if x20 = true then (key_first.l0 k x0 x6 0 0 x131000 x131001 x131002) else (if x131000 = 2 then (key_first.j2 k x0 x6 (decide ((x0.size : Int) ≥ 1)) x131000 x131001 x131002) else (key_first.j2 k x0 x6 false x131000 x131001 x131002))
def key_first.l0 : Nat → ByteArray → Bool → Int → Int → Int → Int → ByteArray → Option (Int × Int × ByteArray × ByteArray × Bool)
 | 0, _, _, _, _, _, _, _ => none
 | k + 1, x0, x6, x7, x29, x131000, x131001, x131002 => if x29 < 8 then (if 0 ≤ x29 then (if x29 < (x0.size : Int) then (key_first.l0 k x0 x6 (Go.bits .or .u64 (IntKind.u64.wrap (x7 * 256)) (IntKind.u64.wrap (bt x0 x29))) (wrap64 (x29 + 1)) x131000 x131001 x131002) else (none)) else (none)) else (if 8 ≤ (x0.size : Int) then (if x6 = true then ((value_Right.f x131000 (wrap64 (Go.bits .xor .u64 x7 9223372036854775808)) x131002).bind fun t132 => (some (x131000, wrap64 (Go.bits .xor .u64 x7 9223372036854775808), x131002, x0.extract 8 x0.size, t132))) else (some (x131000, wrap64 (Go.bits .xor .u64 x7 9223372036854775808), x131002, x0.extract 8 x0.size, false))) else (none))
def key_first.j2 : Nat → ByteArray → Bool → Bool → Int → Int → ByteArray → Option (Int × Int × ByteArray × ByteArray × Bool)
 | 0, _, _, _, _, _, _ => none
 | k + 1, x0, x6, x46, x131000, x131001, x131002 => if x46 = true then (if 0 < (x0.size : Int) then (if 1 ≤ (x0.size : Int) then (if x6 = true then ((value_Right.f x131000 (wrap64 (bt x0 0)) x131002).bind fun t133 => (some (x131000, wrap64 (bt x0 0), x131002, x0.extract 1 x0.size, t133))) else (some (x131000, wrap64 (bt x0 0), x131002, x0.extract 1 x0.size, false))) else (none)) else (none)) else (if x131000 = 3 then ((key_text.f x0).bind fun bt134 => (if bt134.2.2 = true then ((value_Right.f x131000 x131001 bt134.1).bind fun t137 => (some (x131000, x131001, bt134.1, bt134.2.1, t137))) else (some (x131000, x131001, bt134.1, bt134.2.1, false)))) else (some (x131000, x131001, x131002, x0, false)))
end
def key_first.f (k : Nat) (a0 : ByteArray) : Option (Int × Int × ByteArray × ByteArray × Bool) := if 0 < (a0.size : Int) then (if 1 ≤ (a0.size : Int) then (if (wrap64 ((wrap64 (bt a0 0)) - 1)) = 0 then ((value_Right.f (wrap64 ((wrap64 (bt a0 0)) - 1)) 0 (⟨#[]⟩ : ByteArray)).bind fun t131 => (some (wrap64 ((wrap64 (bt a0 0)) - 1), 0, (⟨#[]⟩ : ByteArray), a0.extract 1 a0.size, t131))) else (if (wrap64 ((wrap64 (bt a0 0)) - 1)) = 1 then (key_first.j0 k (a0.extract 1 a0.size) true (decide (((a0.extract 1 a0.size).size : Int) ≥ 8)) (wrap64 ((wrap64 (bt a0 0)) - 1)) 0 (⟨#[]⟩ : ByteArray)) else (key_first.j0 k (a0.extract 1 a0.size) true false (wrap64 ((wrap64 (bt a0 0)) - 1)) 0 (⟨#[]⟩ : ByteArray)))) else (none)) else (none)
theorem key_first.mono_l : ∀ k, (∀ y0 y1 y2 y3 y4 y5, LeO (key_first.j0 k y0 y1 y2 y3 y4 y5) (key_first.j0 (k + 1) y0 y1 y2 y3 y4 y5)) ∧ (∀ y0 y1 y2 y3 y4 y5 y6, LeO (key_first.l0 k y0 y1 y2 y3 y4 y5 y6) (key_first.l0 (k + 1) y0 y1 y2 y3 y4 y5 y6)) ∧ (∀ y0 y1 y2 y3 y4 y5, LeO (key_first.j2 k y0 y1 y2 y3 y4 y5) (key_first.j2 (k + 1) y0 y1 y2 y3 y4 y5))
 | 0 => ⟨fun _ _ _ _ _ _ r h => by simp [key_first.j0] at h, fun _ _ _ _ _ _ _ r h => by simp [key_first.l0] at h, fun _ _ _ _ _ _ r h => by simp [key_first.j2] at h⟩
 | k + 1 => by
  obtain ⟨ih0, ih1, ih2⟩ := key_first.mono_l k
  refine ⟨?_, ?_, ?_⟩
  ·
   intro y0 y1 y2 y3 y4 y5
   unfold key_first.j0
   repeat' first
   | (with_reducible exact ih0 _ _ _ _ _ _)
   | (with_reducible exact ih1 _ _ _ _ _ _ _)
   | (with_reducible exact ih2 _ _ _ _ _ _)
   | (with_reducible exact LeO.refl _)
   | (with_reducible exact LeO.none _)
   | (with_reducible refine LeO.ite ?_ ?_)
   | (with_reducible refine LeO.bind ?_ (fun _ => ?_))
   | exact ih0 _ _ _ _ _ _
   | exact ih1 _ _ _ _ _ _ _
   | exact ih2 _ _ _ _ _ _
   | exact LeO.none _
   | refine LeO.ite ?_ ?_
   | refine LeO.bind ?_ (fun _ => ?_)
  ·
   intro y0 y1 y2 y3 y4 y5 y6
   unfold key_first.l0
   repeat' first
   | (with_reducible exact ih0 _ _ _ _ _ _)
   | (with_reducible exact ih1 _ _ _ _ _ _ _)
   | (with_reducible exact ih2 _ _ _ _ _ _)
   | (with_reducible exact LeO.refl _)
   | (with_reducible exact LeO.none _)
   | (with_reducible refine LeO.ite ?_ ?_)
   | (with_reducible refine LeO.bind ?_ (fun _ => ?_))
   | exact ih0 _ _ _ _ _ _
   | exact ih1 _ _ _ _ _ _ _
   | exact ih2 _ _ _ _ _ _
   | exact LeO.none _
   | refine LeO.ite ?_ ?_
   | refine LeO.bind ?_ (fun _ => ?_)
  ·
   intro y0 y1 y2 y3 y4 y5
   unfold key_first.j2
   repeat' first
   | (with_reducible exact ih0 _ _ _ _ _ _)
   | (with_reducible exact ih1 _ _ _ _ _ _ _)
   | (with_reducible exact ih2 _ _ _ _ _ _)
   | (with_reducible exact LeO.refl _)
   | (with_reducible exact LeO.none _)
   | (with_reducible refine LeO.ite ?_ ?_)
   | (with_reducible refine LeO.bind ?_ (fun _ => ?_))
   | exact ih0 _ _ _ _ _ _
   | exact ih1 _ _ _ _ _ _ _
   | exact ih2 _ _ _ _ _ _
   | exact LeO.none _
   | refine LeO.ite ?_ ?_
   | refine LeO.bind ?_ (fun _ => ?_)
theorem key_first.mono : ∀ a0 k, LeO (key_first.f k a0) (key_first.f (k + 1) a0) := by
 intro a0 k
 obtain ⟨ih0, ih1, ih2⟩ := key_first.mono_l k
 unfold key_first.f
 repeat' first
   | (with_reducible exact ih0 _ _ _ _ _ _)
   | (with_reducible exact ih1 _ _ _ _ _ _ _)
   | (with_reducible exact ih2 _ _ _ _ _ _)
   | (with_reducible exact LeO.refl _)
   | (with_reducible exact LeO.none _)
   | (with_reducible refine LeO.ite ?_ ?_)
   | (with_reducible refine LeO.bind ?_ (fun _ => ?_))
   | exact ih0 _ _ _ _ _ _
   | exact ih1 _ _ _ _ _ _ _
   | exact ih2 _ _ _ _ _ _
   | exact LeO.none _
   | refine LeO.ite ?_ ?_
   | refine LeO.bind ?_ (fun _ => ?_)
def key_first.T20 : Bool × List (List Nat × List Nat) := (true, [([], []), ([], []), ([], []), ([2], [2]), ([3], [3]), ([4, 3, 3], [3, 4]), ([3, 5], [3, 5]), ([0, 5, 0], [0]), ([1, 7, 0, 1, 7], [1]), ([6, 8, 0, 1, 2, 3, 4, 5, 6, 7, 8], [6])])
def key_first.B20 : List Nat := [0, 0, 0, 4, 12, 28, 60, 61, 191, 511]
theorem key_first.tab20 : rtab .any (opsOf Tryd.f25 20) = key_first.T20 := by kernel_rfl
theorem key_first.bits20 : waitsOk key_first.T20.2 key_first.B20 = true := by kernel_rfl
set_option maxHeartbeats 8000000 in
set_option maxRecDepth 100000 in
theorem key_first.calls (k : Nat) (a0 : ByteArray) (r1 : Int) (r2 : Int) (r3 : ByteArray) (r4 : ByteArray) (r5 : Bool) (w : World) (h : key_first.f k a0 = some (r1, r2, r3, r4, r5)) :
  Calls Tryd.prog 25 #[.string a0] w fun e w' => e = .returned (.tuple #[.agg #[.int .i64 r1, .int .i64 r2, .string r3], .string r4, .bool r5]) ∧ Below w.heap.size w w' := by
 have hu25 := Tryd.underlying25
 have HB := Aside0.mk (Below.refl w.heap.size w)
 have H : (if 0 < (a0.size : Int) then (if 1 ≤ (a0.size : Int) then (if (wrap64 ((wrap64 (bt a0 0)) - 1)) = 0 then ((value_Right.f (wrap64 ((wrap64 (bt a0 0)) - 1)) 0 (⟨#[]⟩ : ByteArray)).bind fun t131 => (some (wrap64 ((wrap64 (bt a0 0)) - 1), 0, (⟨#[]⟩ : ByteArray), a0.extract 1 a0.size, t131))) else (if (wrap64 ((wrap64 (bt a0 0)) - 1)) = 1 then (key_first.j0 k (a0.extract 1 a0.size) true (decide (((a0.extract 1 a0.size).size : Int) ≥ 8)) (wrap64 ((wrap64 (bt a0 0)) - 1)) 0 (⟨#[]⟩ : ByteArray)) else (key_first.j0 k (a0.extract 1 a0.size) true false (wrap64 ((wrap64 (bt a0 0)) - 1)) 0 (⟨#[]⟩ : ByteArray)))) else (none)) else (none)) = some (r1, r2, r3, r4, r5) := h
 clear h
 by_cases c2 : 0 < (a0.size : Int)
 ·
  rw [if_pos c2] at H
  have c2b0 : decide (0 < (a0.size : Int)) = true := decide_eq_true c2
  have c2b1 : decide (0 < a0.size) = true := decide_eq_true (by omega)
  clear c2
  by_cases c4 : 1 ≤ (a0.size : Int)
  ·
   rw [if_pos c4] at H
   have c4b0 := eq_true c4
   have c4b1 : decide (1 ≤ (a0.size : Int)) = true := decide_eq_true c4
   clear c4
   by_cases c5 : (wrap64 ((wrap64 (bt a0 0)) - 1)) = 0
   ·
    rw [if_pos c5] at H
    have c5b0 : ((wrap64 ((wrap64 (bt a0 0)) - 1)) == 0) = true := beq_iff_eq.mpr c5
    have c5b1 : ((wrap64 ((wrap64 (bt a0 0)) - 1)) != 0) = false := bne_eq_false_iff_eq.mpr c5
    clear c5
    replace H := Option.bind_eq_some_iff.mp H
    obtain ⟨t131, A60, H⟩ := H
    replace H : (some (wrap64 ((wrap64 (bt a0 0)) - 1), 0, (⟨#[]⟩ : ByteArray), a0.extract 1 a0.size, t131)) = some (r1, r2, r3, r4, r5) := H
    have A6 := Aside0.mk A60
    clear A60
    simp only [Option.some.injEq, Prod.mk.injEq] at H
    obtain ⟨rfl, rfl, rfl, rfl, rfl⟩ := H
    go_enter Tryd.func25, Tryd.ntmps25
    try go_wp2_with (first | ((with_reducible refine gate_dst (N := 2) rfl ?_); (try (refine gate_guard (by rfl) ?_; dsimp only)); refine box_event ?hg (N := 2) ?hd (cs := #[.int .i64 0, .int .i64 0, .string (⟨#[]⟩ : ByteArray)]) (t := 25) ?hr ?_; (case hd => rfl); (case hg => rfl); (case hr => first | (go_simp; done) | (go_simp; rfl)); intro gb129 hg w7 hbox hb; have n0_ := Aside0.mk (below_step (by repeat (first | (with_reducible first | exact HB.out | apply below_alloc | apply pw_below_drewN | apply below_drew1) | exact HB.out)) hb); have n1_ := Aside0.mk (hbox); have n2_ := Aside0.mk ((by rw [hg]; exact (below_size (by repeat (first | (with_reducible first | exact HB.out | apply below_alloc | apply pw_below_drewN | apply below_drew1) | exact HB.out))) : w.heap.size ≤ gb129)); have n3_ := Aside0.mk ((by rw [hg]; exact (below_size (by repeat (first | (with_reducible first | exact HB.out | apply below_alloc | apply pw_below_drewN | apply below_drew1) | exact HB.out))) : w.heap.size ≤ gb129)); clear HB; have HB := n0_; have BK129 := n1_; have GW129 := n2_; have GE129 := n3_; clear n0_ n1_ n2_ n3_; clear hb hbox hg; have p3 : 0 ≤ (0 : Int) := (by omega); have q3 : 0 < a0.size := (by have : (0 : Int) < (a0.size : Int) := of_decide_eq_true (by first | (with_reducible assumption) | assumption); omega); have hx3 : ∀ h : 0 < a0.size, ((a0[0]'h).toNat : Int) = bt a0 0 := bt_at a0 0; clear p3; have qi3 : (0 < (a0.size : Int)) = True := eq_true (of_decide_eq_true (by first | (with_reducible assumption) | assumption)); replace q3 := eq_true q3) | ((with_reducible refine gate_dst (N := 5) rfl ?_); (try (refine gate_guard (by rfl) ?_; dsimp only)); refine box_event ?hg (N := 5) ?hd (cs := #[.int .i64 0, .int .i64 0, .string (⟨#[]⟩ : ByteArray)]) (t := 25) ?hr ?_; (case hd => rfl); (case hg => rfl); (case hr => first | (go_simp; done) | (go_simp; rfl)); intro gb130 hg w8 hbox hb; have n0_ := Aside0.mk (blk_below (g := gb129) (o := .cells #[.int .i64 0, .int .i64 0, .string (⟨#[]⟩ : ByteArray)] 25 (0, 0)) (by (with_reducible repeat (first | refine blk_drewN ?_ _ | refine blk_drew ?_ | refine blk_alloc ?_ _)); exact BK129.out) hb); have n1_ := Aside0.mk (below_step (by repeat (first | (with_reducible first | exact HB.out | apply below_alloc | apply pw_below_drewN | apply below_drew1 | refine below_set ?_ GE129.out) | exact HB.out)) hb); have n2_ := Aside0.mk (hbox); have n3_ := Aside0.mk ((by rw [hg]; exact (below_size (by repeat (first | (with_reducible first | exact HB.out | apply below_alloc | apply pw_below_drewN | apply below_drew1 | refine below_set ?_ GE129.out) | exact HB.out))) : w.heap.size ≤ gb130)); have n4_ := Aside0.mk ((by rw [hg]; exact (below_size (by repeat (first | (with_reducible first | exact HB.out | apply below_alloc | apply pw_below_drewN | apply below_drew1 | refine below_set ?_ GE129.out) | exact HB.out))) : w.heap.size ≤ gb130)); have n5_ := Aside0.mk ((by rw [hg]; exact Nat.ne_of_lt (blk_lt (g := gb129) (o := .cells #[.int .i64 0, .int .i64 0, .string (⟨#[]⟩ : ByteArray)] 25 (0, 0)) (by (with_reducible repeat (first | refine blk_drewN ?_ _ | refine blk_drew ?_ | refine blk_alloc ?_ _)); exact BK129.out)) : gb129 ≠ gb130)); have n6_ := Aside0.mk ((by rw [hg]; exact Nat.ne_of_gt (blk_lt (g := gb129) (o := .cells #[.int .i64 0, .int .i64 0, .string (⟨#[]⟩ : ByteArray)] 25 (0, 0)) (by (with_reducible repeat (first | refine blk_drewN ?_ _ | refine blk_drew ?_ | refine blk_alloc ?_ _)); exact BK129.out)) : gb130 ≠ gb129)); clear BK129; clear HB; have BK129 := n0_; have HB := n1_; have BK130 := n2_; have GW130 := n3_; have GE130 := n4_; have NB129_130 := n5_; have NB130_129 := n6_; clear n0_ n1_ n2_ n3_ n4_ n5_ n6_; clear hb hbox hg; have hnb9 := NB130_129.out; have hnc9 := NB129_130.out; have hcz10_0 : w8.cell? ⟨gb130, 0, none⟩ = some (.int .i64 0) := (blk_cell BK130.out 0).trans rfl; have hcz10_1 : w8.cell? ⟨gb130, 1, none⟩ = some (.int .i64 0) := (blk_cell BK130.out 1).trans rfl; have hcz10_2 : w8.cell? ⟨gb130, 2, none⟩ = some (.string (⟨#[]⟩ : ByteArray)) := (blk_cell BK130.out 2).trans rfl; have hfz10_0 := blk_frozen BK130.out 0; have hfz10_1 := blk_frozen BK130.out 1; have hfz10_2 := blk_frozen BK130.out 2) | ((with_reducible refine gate_store (t := 25) (p := 5) rfl ?_); refine store_event (t := 25) (p := 5) (v := ?vo_w11) (w1 := (((w8.setCell ⟨gb130, 0, none⟩ (.int .i64 (wrap64 ((wrap64 (bt a0 0)) - 1)))).setCell ⟨gb130, 1, none⟩ (.int .i64 0)).setCell ⟨gb130, 2, none⟩ (.string (⟨#[]⟩ : ByteArray)))) ?hg ?ho ?hn ?hr ?_; (case ho => rfl); (case hg => rfl); (case hn => rfl); (case hr => first | (go_simp; done) | (go_simp; rfl)); intro w11 hw; have n0_ : Aside0 (w11.heap[gb129]? = some (.cells #[.int .i64 0, .int .i64 0, .string (⟨#[]⟩ : ByteArray)] 25 (0, 0))) := ⟨(by rw [hw]; exact (by (with_reducible repeat (first | refine blk_drewN ?_ _ | refine blk_drew ?_ | refine blk_alloc ?_ _)); refine blk_far ?_ NB129_130.out _; (with_reducible repeat (first | refine blk_drewN ?_ _ | refine blk_drew ?_ | refine blk_alloc ?_ _)); refine blk_far ?_ NB129_130.out _; (with_reducible repeat (first | refine blk_drewN ?_ _ | refine blk_drew ?_ | refine blk_alloc ?_ _)); refine blk_far ?_ NB129_130.out _; (with_reducible repeat (first | refine blk_drewN ?_ _ | refine blk_drew ?_ | refine blk_alloc ?_ _)); exact BK129.out))⟩; have n1_ : Aside0 (w11.heap[gb130]? = some (.cells #[.int .i64 (wrap64 ((wrap64 (bt a0 0)) - 1)), .int .i64 0, .string (⟨#[]⟩ : ByteArray)] 25 (0, 0))) := ⟨(by rw [hw]; exact (by (with_reducible repeat (first | refine blk_drewN ?_ _ | refine blk_drew ?_ | refine blk_alloc ?_ _)); refine blk_put (cs := #[.int .i64 (wrap64 ((wrap64 (bt a0 0)) - 1)), .int .i64 0, .string (⟨#[]⟩ : ByteArray)]) ?_ 2 _ rfl; (with_reducible repeat (first | refine blk_drewN ?_ _ | refine blk_drew ?_ | refine blk_alloc ?_ _)); refine blk_put (cs := #[.int .i64 (wrap64 ((wrap64 (bt a0 0)) - 1)), .int .i64 0, .string (⟨#[]⟩ : ByteArray)]) ?_ 1 _ rfl; (with_reducible repeat (first | refine blk_drewN ?_ _ | refine blk_drew ?_ | refine blk_alloc ?_ _)); refine blk_put (cs := #[.int .i64 0, .int .i64 0, .string (⟨#[]⟩ : ByteArray)]) ?_ 0 _ rfl; (with_reducible repeat (first | refine blk_drewN ?_ _ | refine blk_drew ?_ | refine blk_alloc ?_ _)); exact BK130.out))⟩; have n2_ : Aside0 (Below w.heap.size w w11) := ⟨(by rw [hw]; exact (by repeat (first | (with_reducible first | exact HB.out | apply below_alloc | apply pw_below_drewN | apply below_drew1 | refine below_set ?_ GE129.out | refine below_set ?_ GE130.out) | exact HB.out)))⟩; clear hw; clear BK129; clear BK130; clear HB; have BK129 := n0_; have BK130 := n1_; have HB := n2_; clear n0_ n1_ n2_; have hcz12_0 : w11.cell? ⟨gb130, 0, none⟩ = some (.int .i64 (wrap64 ((wrap64 (bt a0 0)) - 1))) := (blk_cell BK130.out 0).trans rfl; have hcz12_1 : w11.cell? ⟨gb130, 1, none⟩ = some (.int .i64 0) := (blk_cell BK130.out 1).trans rfl; have hcz12_2 : w11.cell? ⟨gb130, 2, none⟩ = some (.string (⟨#[]⟩ : ByteArray)) := (blk_cell BK130.out 2).trans rfl; have hfz12_0 := blk_frozen BK130.out 0; have hfz12_1 := blk_frozen BK130.out 1; have hfz12_2 := blk_frozen BK130.out 2))
    have n0_ := Aside0.mk (blk_drew BK129.out)
    have n1_ := Aside0.mk (blk_drew BK130.out)
    have n2_ := Aside0.mk (below_drew1 HB.out)
    clear BK129
    clear BK130
    clear HB
    have BK129 := n0_
    have BK130 := n1_
    have HB := n2_
    clear n0_ n1_ n2_
    refine start_ (n := 10) (S := fun w' => w'.cell? ⟨gb130, 0, none⟩ = some (.int .i64 (wrap64 ((wrap64 (bt a0 0)) - 1))) ∧ w'.cell? ⟨gb130, 1, none⟩ = some (.int .i64 0) ∧ w'.cell? ⟨gb130, 2, none⟩ = some (.string (⟨#[]⟩ : ByteArray))) (ds := []) #[false, false, false, false, false, false, false, false, false, false] (by kernel_rfl) rfl rfl ⟨(blk_cell BK130.out 0).trans rfl, (blk_cell BK130.out 1).trans rfl, (blk_cell BK130.out 2).trans rfl⟩ (fun hHeld => ?_); refine with_tabW key_first.tab20 key_first.bits20 (fun HT_ HW_ => ?_)
    generalize w11.drew = w13 at BK129 BK130 HB hHeld ⊢
    refine pure_ (i := 1) (N := some 73) (v := ?_) (a' := ?_) #[false, true, false, false, false, false, false, false, false, false] rfl rfl (any_of HT_.out (by kernel_rfl)) (fun _ _ _ h => h) (Or.inl ⟨by rfl, ?_⟩) ?_ ?_
    rotate_left; focus (intro w'; go_simp; with_reducible rfl; done)
    rotate_left; focus (simp only [Act.put, List.setIfInBounds_toArray, List.set_cons_zero, List.set_cons_succ, i64_w, i32_w, u8_w, u32_w]; rfl; done)
    refine pure_ (i := 2) (N := some 74) (v := ?_) (a' := ?_) #[false, true, true, false, false, false, false, false, false, false] rfl rfl (any_of HT_.out (by kernel_rfl)) (fun _ _ _ h => h) (Or.inl ⟨by rfl, ?_⟩) ?_ ?_
    rotate_left; focus (intro w'; go_simp; with_reducible rfl; done)
    rotate_left; focus (simp only [Act.put, List.setIfInBounds_toArray, List.set_cons_zero, List.set_cons_succ, i64_w, i32_w, u8_w, u32_w]; rfl; done)
    refine pure_ (i := 3) (N := some 75) (v := ?_) (a' := ?_) #[false, true, true, true, false, false, false, false, false, false] rfl rfl (any_of HT_.out (by kernel_rfl)) (fun _ _ _ h => h) (Or.inl ⟨by rfl, ?_⟩) ?_ ?_
    rotate_left; focus (intro w'; go_simp; with_reducible rfl; done)
    rotate_left; focus (simp only [Act.put, List.setIfInBounds_toArray, List.set_cons_zero, List.set_cons_succ, i64_w, i32_w, u8_w, u32_w]; rfl; done)
    refine take_ (i := 0) (N := some 72) (v := ?_) (a' := ?_) #[true, true, true, true, false, false, false, false, false, false] rfl rfl (take_ofW HT_.out HW_.out (by kernel_rfl)) (fun _ _ _ h => h) (Or.inl ⟨by rfl, ?_⟩) hHeld ?_ ?_
    rotate_left; focus (rintro w' ⟨s0, s1, s2⟩; go_simp; with_reducible rfl; done)
    rotate_left; focus (simp only [Act.put, List.setIfInBounds_toArray, List.set_cons_zero, List.set_cons_succ, i64_w, i32_w, u8_w, u32_w]; rfl; done)
    refine take_ (i := 4) (N := some 76) (v := ?_) (a' := ?_) #[true, true, true, true, true, false, false, false, false, false] rfl rfl (take_ofW HT_.out HW_.out (by kernel_rfl)) (fun _ _ _ h => h) (Or.inl ⟨by rfl, ?_⟩) hHeld ?_ ?_
    rotate_left; focus (rintro w' ⟨s0, s1, s2⟩; go_simp; with_reducible rfl; done)
    rotate_left; focus (simp only [Act.put, List.setIfInBounds_toArray, List.set_cons_zero, List.set_cons_succ, i64_w, i32_w, u8_w, u32_w]; rfl; done)
    refine one_ (i := 5) (N := some 77) #[true, true, true, true, true, true, false, false, false, false] rfl rfl (one_of HT_.out (by kernel_rfl)) (by decide) (fun K hK => ?_)
    refine goes_ Tryd.func21 (by kernel_rfl) rfl #[.agg #[.int .i64 (wrap64 ((wrap64 (bt a0 0)) - 1)), .int .i64 0, .string (⟨#[]⟩ : ByteArray)]] (by rfl) rfl rfl (by (try simp only [List.map_toArray, List.map_cons, List.map_nil]); first | done | rfl | (simp only [List.length_drop, List.length_take]; rfl)) ?_
    with_reducible refine (value_Right.calls (wrap64 ((wrap64 (bt a0 0)) - 1)) 0 (⟨#[]⟩ : ByteArray) t131 _ A6.out).mono ?_
    rintro e w14 ⟨rfl, hb⟩
    refine ⟨_, rfl, ?_⟩
    have n0_ := Aside0.mk (blk_below (g := gb129) (o := .cells #[.int .i64 0, .int .i64 0, .string (⟨#[]⟩ : ByteArray)] 25 (0, 0)) (by (with_reducible repeat (first | refine blk_drewN ?_ _ | refine blk_drew ?_ | refine blk_alloc ?_ _)); exact BK129.out) hb)
    have n1_ := Aside0.mk (blk_below (g := gb130) (o := .cells #[.int .i64 (wrap64 ((wrap64 (bt a0 0)) - 1)), .int .i64 0, .string (⟨#[]⟩ : ByteArray)] 25 (0, 0)) (by (with_reducible repeat (first | refine blk_drewN ?_ _ | refine blk_drew ?_ | refine blk_alloc ?_ _)); exact BK130.out) hb)
    have n2_ := Aside0.mk (below_step (by repeat (first | (with_reducible first | exact HB.out | apply below_alloc | apply pw_below_drewN | apply below_drew1 | refine below_set ?_ GE129.out | refine below_set ?_ GE130.out) | exact HB.out)) hb)
    clear BK129
    clear BK130
    clear HB
    have BK129 := n0_
    have BK130 := n1_
    have HB := n2_
    clear n0_ n1_ n2_
    (try clear hb)
    (try clear hb2)
    (try clear hk)
    (try clear hi)
    refine hK.out _ _ ⟨(blk_cell BK130.out 0).trans rfl, (blk_cell BK130.out 1).trans rfl, (blk_cell BK130.out 2).trans rfl⟩ (fun hHeld => ?_)
    clear hK K
    refine norm_ (a' := ?_) ?_ ?_
    rotate_left; focus (show Act.put _ (some 77) _ = _; simp only [Act.put, List.setIfInBounds_toArray, List.set_cons_zero, List.set_cons_succ, i64_w, i32_w, u8_w, u32_w]; rfl; done)
    refine pure_ (i := 6) (N := some 78) (v := ?_) (a' := ?_) #[true, true, true, true, true, true, true, false, false, false] rfl rfl (any_of HT_.out (by kernel_rfl)) (fun _ _ _ h => h) (Or.inl ⟨by rfl, ?_⟩) ?_ ?_
    rotate_left; focus (intro w'; go_simp; with_reducible rfl; done)
    rotate_left; focus (simp only [Act.put, List.setIfInBounds_toArray, List.set_cons_zero, List.set_cons_succ, i64_w, i32_w, u8_w, u32_w]; rfl; done)
    refine one_ (i := 7) (N := none) #[true, true, true, true, true, true, true, true, false, false] rfl rfl (one_of HT_.out (by kernel_rfl)) (by decide) (fun K hK => ?_)
    have hs15 : w14.cell? ⟨gb129, 0, none⟩ = some (.int .i64 0) := (blk_cell BK129.out 0).trans rfl
    have hfs15 := blk_frozen BK129.out 0
    have hns15_1 := NB130_129.out
    have hms15_1 := NB129_130.out
    have hs16 : w14.cell? ⟨gb129, 1, none⟩ = some (.int .i64 0) := (blk_cell BK129.out 1).trans rfl
    have hfs16 := blk_frozen BK129.out 1
    have hns16_1 := NB130_129.out
    have hms16_1 := NB129_130.out
    have hs17 : w14.cell? ⟨gb129, 2, none⟩ = some (.string (⟨#[]⟩ : ByteArray)) := (blk_cell BK129.out 2).trans rfl
    have hfs17 := blk_frozen BK129.out 2
    have hns17_1 := NB130_129.out
    have hms17_1 := NB129_130.out
    refine skip_ (w1 := ?_) (by rfl) rfl ?_ ?_
    rotate_left; focus (go_simp; rfl; done)
    refine hK.out _ _ ⟨((cell_far (p := ⟨gb129, _, none⟩) NB130_129.out _).trans (((cell_far (p := ⟨gb129, _, none⟩) NB130_129.out _).trans (((cell_far (p := ⟨gb129, _, none⟩) NB130_129.out _).trans (hHeld.1)))))), ((cell_far (p := ⟨gb129, _, none⟩) NB130_129.out _).trans (((cell_far (p := ⟨gb129, _, none⟩) NB130_129.out _).trans (((cell_far (p := ⟨gb129, _, none⟩) NB130_129.out _).trans (hHeld.2.1)))))), ((cell_far (p := ⟨gb129, _, none⟩) NB130_129.out _).trans (((cell_far (p := ⟨gb129, _, none⟩) NB130_129.out _).trans (((cell_far (p := ⟨gb129, _, none⟩) NB130_129.out _).trans (hHeld.2.2))))))⟩ (fun hHeld => ?_)
    clear hK K
    refine pure_ (i := 8) (N := some 3) (v := ?_) (a' := ?_) #[true, true, true, true, true, true, true, true, true, false] rfl rfl (any_of HT_.out (by kernel_rfl)) (fun _ _ _ h => h) (Or.inl ⟨by rfl, ?_⟩) ?_ ?_
    rotate_left; focus (intro w'; go_simp; with_reducible rfl; done)
    rotate_left; focus (simp only [Act.put, List.setIfInBounds_toArray, List.set_cons_zero, List.set_cons_succ, i64_w, i32_w, u8_w, u32_w]; rfl; done)
    refine pure_ (i := 9) (N := some 4) (v := ?_) (a' := ?_) #[true, true, true, true, true, true, true, true, true, true] rfl rfl (any_of HT_.out (by kernel_rfl)) (fun _ _ _ h => h) (Or.inl ⟨by rfl, ?_⟩) ?_ ?_
    rotate_left; focus (intro w'; go_simp; with_reducible rfl; done)
    rotate_left; focus (simp only [Act.put, List.setIfInBounds_toArray, List.set_cons_zero, List.set_cons_succ, i64_w, i32_w, u8_w, u32_w]; rfl; done)
    refine done_ (done_of HT_.out (by kernel_rfl)) ?_
    have n0_ : Aside0 ((((w14.setCell ⟨gb129, 0, none⟩ (.int .i64 (wrap64 ((wrap64 (bt a0 0)) - 1)))).setCell ⟨gb129, 1, none⟩ (.int .i64 0)).setCell ⟨gb129, 2, none⟩ (.string (⟨#[]⟩ : ByteArray))).heap[gb129]? = some (.cells #[.int .i64 (wrap64 ((wrap64 (bt a0 0)) - 1)), .int .i64 0, .string (⟨#[]⟩ : ByteArray)] 25 (0, 0))) := ⟨by (with_reducible repeat (first | refine blk_drewN ?_ _ | refine blk_drew ?_ | refine blk_alloc ?_ _)); refine blk_put (cs := #[.int .i64 (wrap64 ((wrap64 (bt a0 0)) - 1)), .int .i64 0, .string (⟨#[]⟩ : ByteArray)]) ?_ 2 _ rfl; (with_reducible repeat (first | refine blk_drewN ?_ _ | refine blk_drew ?_ | refine blk_alloc ?_ _)); refine blk_put (cs := #[.int .i64 (wrap64 ((wrap64 (bt a0 0)) - 1)), .int .i64 0, .string (⟨#[]⟩ : ByteArray)]) ?_ 1 _ rfl; (with_reducible repeat (first | refine blk_drewN ?_ _ | refine blk_drew ?_ | refine blk_alloc ?_ _)); refine blk_put (cs := #[.int .i64 0, .int .i64 0, .string (⟨#[]⟩ : ByteArray)]) ?_ 0 _ rfl; (with_reducible repeat (first | refine blk_drewN ?_ _ | refine blk_drew ?_ | refine blk_alloc ?_ _)); exact BK129.out⟩
    have n1_ : Aside0 ((((w14.setCell ⟨gb129, 0, none⟩ (.int .i64 (wrap64 ((wrap64 (bt a0 0)) - 1)))).setCell ⟨gb129, 1, none⟩ (.int .i64 0)).setCell ⟨gb129, 2, none⟩ (.string (⟨#[]⟩ : ByteArray))).heap[gb130]? = some (.cells #[.int .i64 (wrap64 ((wrap64 (bt a0 0)) - 1)), .int .i64 0, .string (⟨#[]⟩ : ByteArray)] 25 (0, 0))) := ⟨by (with_reducible repeat (first | refine blk_drewN ?_ _ | refine blk_drew ?_ | refine blk_alloc ?_ _)); refine blk_far ?_ NB130_129.out _; (with_reducible repeat (first | refine blk_drewN ?_ _ | refine blk_drew ?_ | refine blk_alloc ?_ _)); refine blk_far ?_ NB130_129.out _; (with_reducible repeat (first | refine blk_drewN ?_ _ | refine blk_drew ?_ | refine blk_alloc ?_ _)); refine blk_far ?_ NB130_129.out _; (with_reducible repeat (first | refine blk_drewN ?_ _ | refine blk_drew ?_ | refine blk_alloc ?_ _)); exact BK130.out⟩
    have n2_ : Aside0 (Below w.heap.size w (((w14.setCell ⟨gb129, 0, none⟩ (.int .i64 (wrap64 ((wrap64 (bt a0 0)) - 1)))).setCell ⟨gb129, 1, none⟩ (.int .i64 0)).setCell ⟨gb129, 2, none⟩ (.string (⟨#[]⟩ : ByteArray)))) := ⟨by repeat (first | (with_reducible first | exact HB.out | apply below_alloc | apply pw_below_drewN | apply below_drew1 | refine below_set ?_ GE129.out | refine below_set ?_ GE130.out) | exact HB.out)⟩
    (try clear BK129)
    (try clear BK130)
    (try clear HB)
    generalize (((w14.setCell ⟨gb129, 0, none⟩ (.int .i64 (wrap64 ((wrap64 (bt a0 0)) - 1)))).setCell ⟨gb129, 1, none⟩ (.int .i64 0)).setCell ⟨gb129, 2, none⟩ (.string (⟨#[]⟩ : ByteArray))) = w18 at n0_ n1_ n2_ ⊢
    have BK129 := n0_
    have BK130 := n1_
    have HB := n2_
    clear n0_ n1_ n2_
    try go_wp2
    refine bodyPost_ret (results_ctt rfl _ _ gb129 25 #[.int .i64 (wrap64 ((wrap64 (bt a0 0)) - 1)), .int .i64 0, .string (⟨#[]⟩ : ByteArray)] (0, 0) _ rfl (by (with_reducible repeat (first | refine blk_drewN ?_ _ | refine blk_drew ?_ | refine blk_alloc ?_ _)); exact BK129.out) Tryd.underlying25 rfl (by kernel_rfl)) rfl ?_
    exact ⟨by first | (simp only [ByteArray.size_extract, Nat.min_self]; rfl) | rfl | (simp [errW_none, errW_some] <;> rfl) | (simp [*, errW_none, errW_some] <;> rfl), by repeat (first | (with_reducible first | exact HB.out | apply below_alloc | apply pw_below_drewN | apply below_drew1 | refine below_set ?_ GE129.out | refine below_set ?_ GE130.out) | exact HB.out)⟩
   ·
    rw [if_neg c5] at H
    have c5b0 : ((wrap64 ((wrap64 (bt a0 0)) - 1)) == 0) = false := beq_eq_false_iff_ne.mpr c5
    have c5b1 : ((wrap64 ((wrap64 (bt a0 0)) - 1)) != 0) = true := bne_iff_ne.mpr c5
    have HC19 := Aside0.mk H
    clear H
    go_enter Tryd.func25, Tryd.ntmps25
    go_upto_region 6 with (first | ((with_reducible refine gate_dst (N := 2) rfl ?_); (try (refine gate_guard (by rfl) ?_; dsimp only)); refine box_event ?hg (N := 2) ?hd (cs := #[.int .i64 0, .int .i64 0, .string (⟨#[]⟩ : ByteArray)]) (t := 25) ?hr ?_; (case hd => rfl); (case hg => rfl); (case hr => first | (go_simp; done) | (go_simp; rfl)); intro gb129 hg w20 hbox hb; have n0_ := Aside0.mk (below_step (by repeat (first | (with_reducible first | exact HB.out | apply below_alloc | apply pw_below_drewN | apply below_drew1) | exact HB.out)) hb); have n1_ := Aside0.mk (hbox); have n2_ := Aside0.mk ((by rw [hg]; exact (below_size (by repeat (first | (with_reducible first | exact HB.out | apply below_alloc | apply pw_below_drewN | apply below_drew1) | exact HB.out))) : w.heap.size ≤ gb129)); have n3_ := Aside0.mk ((by rw [hg]; exact (below_size (by repeat (first | (with_reducible first | exact HB.out | apply below_alloc | apply pw_below_drewN | apply below_drew1) | exact HB.out))) : w.heap.size ≤ gb129)); clear HB; have HB := n0_; have BK129 := n1_; have GW129 := n2_; have GE129 := n3_; clear n0_ n1_ n2_ n3_; clear hb hbox hg; have p3 : 0 ≤ (0 : Int) := (by omega); have q3 : 0 < a0.size := (by have : (0 : Int) < (a0.size : Int) := of_decide_eq_true (by first | (with_reducible assumption) | assumption); omega); have hx3 : ∀ h : 0 < a0.size, ((a0[0]'h).toNat : Int) = bt a0 0 := bt_at a0 0; clear p3; have qi3 : (0 < (a0.size : Int)) = True := eq_true (of_decide_eq_true (by first | (with_reducible assumption) | assumption)); replace q3 := eq_true q3) | ((with_reducible refine gate_dst (N := 5) rfl ?_); (try (refine gate_guard (by rfl) ?_; dsimp only)); refine box_event ?hg (N := 5) ?hd (cs := #[.int .i64 0, .int .i64 0, .string (⟨#[]⟩ : ByteArray)]) (t := 25) ?hr ?_; (case hd => rfl); (case hg => rfl); (case hr => first | (go_simp; done) | (go_simp; rfl)); intro gb130 hg w21 hbox hb; have n0_ := Aside0.mk (blk_below (g := gb129) (o := .cells #[.int .i64 0, .int .i64 0, .string (⟨#[]⟩ : ByteArray)] 25 (0, 0)) (by (with_reducible repeat (first | refine blk_drewN ?_ _ | refine blk_drew ?_ | refine blk_alloc ?_ _)); exact BK129.out) hb); have n1_ := Aside0.mk (below_step (by repeat (first | (with_reducible first | exact HB.out | apply below_alloc | apply pw_below_drewN | apply below_drew1 | refine below_set ?_ GE129.out) | exact HB.out)) hb); have n2_ := Aside0.mk (hbox); have n3_ := Aside0.mk ((by rw [hg]; exact (below_size (by repeat (first | (with_reducible first | exact HB.out | apply below_alloc | apply pw_below_drewN | apply below_drew1 | refine below_set ?_ GE129.out) | exact HB.out))) : w.heap.size ≤ gb130)); have n4_ := Aside0.mk ((by rw [hg]; exact (below_size (by repeat (first | (with_reducible first | exact HB.out | apply below_alloc | apply pw_below_drewN | apply below_drew1 | refine below_set ?_ GE129.out) | exact HB.out))) : w.heap.size ≤ gb130)); have n5_ := Aside0.mk ((by rw [hg]; exact Nat.ne_of_lt (blk_lt (g := gb129) (o := .cells #[.int .i64 0, .int .i64 0, .string (⟨#[]⟩ : ByteArray)] 25 (0, 0)) (by (with_reducible repeat (first | refine blk_drewN ?_ _ | refine blk_drew ?_ | refine blk_alloc ?_ _)); exact BK129.out)) : gb129 ≠ gb130)); have n6_ := Aside0.mk ((by rw [hg]; exact Nat.ne_of_gt (blk_lt (g := gb129) (o := .cells #[.int .i64 0, .int .i64 0, .string (⟨#[]⟩ : ByteArray)] 25 (0, 0)) (by (with_reducible repeat (first | refine blk_drewN ?_ _ | refine blk_drew ?_ | refine blk_alloc ?_ _)); exact BK129.out)) : gb130 ≠ gb129)); clear BK129; clear HB; have BK129 := n0_; have HB := n1_; have BK130 := n2_; have GW130 := n3_; have GE130 := n4_; have NB129_130 := n5_; have NB130_129 := n6_; clear n0_ n1_ n2_ n3_ n4_ n5_ n6_; clear hb hbox hg; have hnb22 := NB130_129.out; have hnc22 := NB129_130.out; have hcz23_0 : w21.cell? ⟨gb130, 0, none⟩ = some (.int .i64 0) := (blk_cell BK130.out 0).trans rfl; have hcz23_1 : w21.cell? ⟨gb130, 1, none⟩ = some (.int .i64 0) := (blk_cell BK130.out 1).trans rfl; have hcz23_2 : w21.cell? ⟨gb130, 2, none⟩ = some (.string (⟨#[]⟩ : ByteArray)) := (blk_cell BK130.out 2).trans rfl; have hfz23_0 := blk_frozen BK130.out 0; have hfz23_1 := blk_frozen BK130.out 1; have hfz23_2 := blk_frozen BK130.out 2) | ((with_reducible refine gate_store (t := 25) (p := 5) rfl ?_); refine store_event (t := 25) (p := 5) (v := ?vo_w24) (w1 := (((w21.setCell ⟨gb130, 0, none⟩ (.int .i64 (wrap64 ((wrap64 (bt a0 0)) - 1)))).setCell ⟨gb130, 1, none⟩ (.int .i64 0)).setCell ⟨gb130, 2, none⟩ (.string (⟨#[]⟩ : ByteArray)))) ?hg ?ho ?hn ?hr ?_; (case ho => rfl); (case hg => rfl); (case hn => rfl); (case hr => first | (go_simp; done) | (go_simp; rfl)); intro w24 hw; have n0_ : Aside0 (w24.heap[gb129]? = some (.cells #[.int .i64 0, .int .i64 0, .string (⟨#[]⟩ : ByteArray)] 25 (0, 0))) := ⟨(by rw [hw]; exact (by (with_reducible repeat (first | refine blk_drewN ?_ _ | refine blk_drew ?_ | refine blk_alloc ?_ _)); refine blk_far ?_ NB129_130.out _; (with_reducible repeat (first | refine blk_drewN ?_ _ | refine blk_drew ?_ | refine blk_alloc ?_ _)); refine blk_far ?_ NB129_130.out _; (with_reducible repeat (first | refine blk_drewN ?_ _ | refine blk_drew ?_ | refine blk_alloc ?_ _)); refine blk_far ?_ NB129_130.out _; (with_reducible repeat (first | refine blk_drewN ?_ _ | refine blk_drew ?_ | refine blk_alloc ?_ _)); exact BK129.out))⟩; have n1_ : Aside0 (w24.heap[gb130]? = some (.cells #[.int .i64 (wrap64 ((wrap64 (bt a0 0)) - 1)), .int .i64 0, .string (⟨#[]⟩ : ByteArray)] 25 (0, 0))) := ⟨(by rw [hw]; exact (by (with_reducible repeat (first | refine blk_drewN ?_ _ | refine blk_drew ?_ | refine blk_alloc ?_ _)); refine blk_put (cs := #[.int .i64 (wrap64 ((wrap64 (bt a0 0)) - 1)), .int .i64 0, .string (⟨#[]⟩ : ByteArray)]) ?_ 2 _ rfl; (with_reducible repeat (first | refine blk_drewN ?_ _ | refine blk_drew ?_ | refine blk_alloc ?_ _)); refine blk_put (cs := #[.int .i64 (wrap64 ((wrap64 (bt a0 0)) - 1)), .int .i64 0, .string (⟨#[]⟩ : ByteArray)]) ?_ 1 _ rfl; (with_reducible repeat (first | refine blk_drewN ?_ _ | refine blk_drew ?_ | refine blk_alloc ?_ _)); refine blk_put (cs := #[.int .i64 0, .int .i64 0, .string (⟨#[]⟩ : ByteArray)]) ?_ 0 _ rfl; (with_reducible repeat (first | refine blk_drewN ?_ _ | refine blk_drew ?_ | refine blk_alloc ?_ _)); exact BK130.out))⟩; have n2_ : Aside0 (Below w.heap.size w w24) := ⟨(by rw [hw]; exact (by repeat (first | (with_reducible first | exact HB.out | apply below_alloc | apply pw_below_drewN | apply below_drew1 | refine below_set ?_ GE129.out | refine below_set ?_ GE130.out) | exact HB.out)))⟩; clear hw; clear BK129; clear BK130; clear HB; have BK129 := n0_; have BK130 := n1_; have HB := n2_; clear n0_ n1_ n2_; have hcz25_0 : w24.cell? ⟨gb130, 0, none⟩ = some (.int .i64 (wrap64 ((wrap64 (bt a0 0)) - 1))) := (blk_cell BK130.out 0).trans rfl; have hcz25_1 : w24.cell? ⟨gb130, 1, none⟩ = some (.int .i64 0) := (blk_cell BK130.out 1).trans rfl; have hcz25_2 : w24.cell? ⟨gb130, 2, none⟩ = some (.string (⟨#[]⟩ : ByteArray)) := (blk_cell BK130.out 2).trans rfl; have hfz25_0 := blk_frozen BK130.out 0; have hfz25_1 := blk_frozen BK130.out 1; have hfz25_2 := blk_frozen BK130.out 2))
    (try simp only [Act.put, List.setIfInBounds_toArray, List.set_cons_zero, List.set_cons_succ])
    go_cut [20] (fun v20 wc => ∃ (kq : Nat) (x20_18 : Bool), v20 = .bool x20_18 ∧ Aside0 (key_first.j0 kq (a0.extract 1 a0.size) true x20_18 (wrap64 ((wrap64 (bt a0 0)) - 1)) 0 (⟨#[]⟩ : ByteArray) = some (r1, r2, r3, r4, r5)) ∧ Aside0 (kq ≤ k) ∧ Aside0 (wc.heap[gb129]? = some (.cells #[.int .i64 0, .int .i64 0, .string (⟨#[]⟩ : ByteArray)] 25 (0, 0))) ∧ Aside0 (wc.heap[gb130]? = some (.cells #[.int .i64 (wrap64 ((wrap64 (bt a0 0)) - 1)), .int .i64 0, .string (⟨#[]⟩ : ByteArray)] 25 (0, 0))) ∧ Aside0 (Below w.heap.size w wc))
    case first =>
     have H := HC19.out
     clear HC19
     by_cases c26 : (wrap64 ((wrap64 (bt a0 0)) - 1)) = 1
     ·
      rw [if_pos c26] at H
      have c26b0 : ((wrap64 ((wrap64 (bt a0 0)) - 1)) == 1) = true := beq_iff_eq.mpr c26
      have c26b1 : ((wrap64 ((wrap64 (bt a0 0)) - 1)) != 1) = false := bne_eq_false_iff_eq.mpr c26
      clear c26
      (first | rw [c26b0] | (simp only [i64_w, i32_w, u8_w, u32_w]; rw [c26b0]) | rw [c26b1] | skip)
      have H' := Aside0.mk H
      clear H
      have hnb27 := NB130_129.out
      have hnc27 := NB129_130.out
      have hcz28_0 : w24.cell? ⟨gb130, 0, none⟩ = some (.int .i64 (wrap64 ((wrap64 (bt a0 0)) - 1))) := (blk_cell BK130.out 0).trans rfl
      have hcz28_1 : w24.cell? ⟨gb130, 1, none⟩ = some (.int .i64 0) := (blk_cell BK130.out 1).trans rfl
      have hcz28_2 : w24.cell? ⟨gb130, 2, none⟩ = some (.string (⟨#[]⟩ : ByteArray)) := (blk_cell BK130.out 2).trans rfl
      have hfz28_0 := blk_frozen BK130.out 0
      have hfz28_1 := blk_frozen BK130.out 1
      have hfz28_2 := blk_frozen BK130.out 2
      go_wp2
      go_meet
      case rel => exact ⟨_, (decide (((a0.extract 1 a0.size).size : Int) ≥ 8)), (by first | rfl | (simp; done) | (simp [*]; done)), H', ⟨by first | omega | exact Nat.le_refl _⟩, ⟨by (with_reducible repeat (first | refine blk_drewN ?_ _ | refine blk_drew ?_ | refine blk_alloc ?_ _)); exact BK129.out⟩, ⟨by (with_reducible repeat (first | refine blk_drewN ?_ _ | refine blk_drew ?_ | refine blk_alloc ?_ _)); exact BK130.out⟩, ⟨by repeat (first | (with_reducible first | exact HB.out | apply below_alloc | apply pw_below_drewN | apply below_drew1 | refine below_set ?_ GE129.out | refine below_set ?_ GE130.out) | exact HB.out)⟩⟩
     ·
      rw [if_neg c26] at H
      have c26b0 : ((wrap64 ((wrap64 (bt a0 0)) - 1)) == 1) = false := beq_eq_false_iff_ne.mpr c26
      have c26b1 : ((wrap64 ((wrap64 (bt a0 0)) - 1)) != 1) = true := bne_iff_ne.mpr c26
      (first | rw [c26b0] | (simp only [i64_w, i32_w, u8_w, u32_w]; rw [c26b0]) | rw [c26b1] | skip)
      have H' := Aside0.mk H
      clear H
      have hnb29 := NB130_129.out
      have hnc29 := NB129_130.out
      have hcz30_0 : w24.cell? ⟨gb130, 0, none⟩ = some (.int .i64 (wrap64 ((wrap64 (bt a0 0)) - 1))) := (blk_cell BK130.out 0).trans rfl
      have hcz30_1 : w24.cell? ⟨gb130, 1, none⟩ = some (.int .i64 0) := (blk_cell BK130.out 1).trans rfl
      have hcz30_2 : w24.cell? ⟨gb130, 2, none⟩ = some (.string (⟨#[]⟩ : ByteArray)) := (blk_cell BK130.out 2).trans rfl
      have hfz30_0 := blk_frozen BK130.out 0
      have hfz30_1 := blk_frozen BK130.out 1
      have hfz30_2 := blk_frozen BK130.out 2
      go_wp2
      go_meet
      case rel => exact ⟨_, (false), (by first | rfl | (simp; done) | (simp [*]; done)), H', ⟨by first | omega | exact Nat.le_refl _⟩, ⟨by (with_reducible repeat (first | refine blk_drewN ?_ _ | refine blk_drew ?_ | refine blk_alloc ?_ _)); exact BK129.out⟩, ⟨by (with_reducible repeat (first | refine blk_drewN ?_ _ | refine blk_drew ?_ | refine blk_alloc ?_ _)); exact BK130.out⟩, ⟨by repeat (first | (with_reducible first | exact HB.out | apply below_alloc | apply pw_below_drewN | apply below_drew1 | refine below_set ?_ GE129.out | refine below_set ?_ GE130.out) | exact HB.out)⟩⟩
    case rest =>
     clear HC19
     try clear c2
     try clear c2b0
     try clear c2b1
     try clear p2
     try clear p3
     try clear q3
     try clear hx3
     try clear qi3
     try clear c4
     try clear c4b0
     try clear c4b1
     try clear c5
     try clear c5b0
     try clear c5b1
     try clear p6
     try clear c9
     try clear c21
     try clear c22
     try clear c25
     try clear c26
     try clear c26b0
     try clear c26b1
     try clear c27
     try clear c29
     try clear hcz10_0
     try clear hcz10_1
     try clear hcz10_2
     try clear hcz12_0
     try clear hcz12_1
     try clear hcz12_2
     try clear hcz23_0
     try clear hcz23_1
     try clear hcz23_2
     try clear hcz25_0
     try clear hcz25_1
     try clear hcz25_2
     try clear hcz28_0
     try clear hcz28_1
     try clear hcz28_2
     try clear hcz30_0
     try clear hcz30_1
     try clear hcz30_2
     try clear hfz10_0
     try clear hfz10_1
     try clear hfz10_2
     try clear hfz12_0
     try clear hfz12_1
     try clear hfz12_2
     try clear hfz23_0
     try clear hfz23_1
     try clear hfz23_2
     try clear hfz25_0
     try clear hfz25_1
     try clear hfz25_2
     try clear hfz28_0
     try clear hfz28_1
     try clear hfz28_2
     try clear hfz30_0
     try clear hfz30_1
     try clear hfz30_2
     try clear p3
     try clear q3
     obtain ⟨kq, x20_18, rfl, HA, HJ18, BK129, BK130, HB⟩ := hcut
     cases kq with
     | zero => exact absurd HA.out (by simp [key_first.j0])
     | succ kj18 =>
      have H := HA.out
      clear HA
      simp only [key_first.j0] at H
      by_cases c31 : x20_18 = true
      ·
       subst c31
       have H1 : (key_first.l0 kj18 (a0.extract 1 a0.size) true 0 0 (wrap64 ((wrap64 (bt a0 0)) - 1)) 0 (⟨#[]⟩ : ByteArray)) = some (r1, r2, r3, r4, r5) := by (first | rw [if_pos rfl] at H | rw [if_pos True.intro] at H | skip); exact H
       clear H
       have H := H1
       clear H1
       have H' := Aside0.mk H
       clear H
       go_wp2
       go_loopg [7, 29] kj18 (fun kq v7 v29 w' => ∃ (x7_2 : Int) (x29_2 : Int), v7 = .int .u64 x7_2 ∧ v29 = .int .i64 x29_2 ∧ Aside0 (key_first.l0 kq (a0.extract 1 a0.size) true x7_2 x29_2 (wrap64 ((wrap64 (bt a0 0)) - 1)) 0 (⟨#[]⟩ : ByteArray) = some (r1, r2, r3, r4, r5)) ∧ Aside0 (kq ≤ kj18) ∧ Aside0 (w'.heap[gb129]? = some (.cells #[.int .i64 0, .int .i64 0, .string (⟨#[]⟩ : ByteArray)] 25 (0, 0))) ∧ Aside0 (w'.heap[gb130]? = some (.cells #[.int .i64 (wrap64 ((wrap64 (bt a0 0)) - 1)), .int .i64 0, .string (⟨#[]⟩ : ByteArray)] 25 (0, 0))) ∧ Aside0 (Below w.heap.size w w'))
       case atStart => exact ⟨(0), (0), (by first | rfl | (simp; done) | (simp [*]; done)), (by first | rfl | (simp; done) | (simp [*]; done)), H', ⟨Nat.le_refl _⟩, ⟨by (with_reducible repeat (first | refine blk_drewN ?_ _ | refine blk_drew ?_ | refine blk_alloc ?_ _)); exact BK129.out⟩, ⟨by (with_reducible repeat (first | refine blk_drewN ?_ _ | refine blk_drew ?_ | refine blk_alloc ?_ _)); exact BK130.out⟩, ⟨by repeat (first | (with_reducible first | exact HB.out | apply below_alloc | apply pw_below_drewN | apply below_drew1 | refine below_set ?_ GE129.out | refine below_set ?_ GE130.out) | exact HB.out)⟩⟩
       case round =>
        clear H'
        try clear c2
        try clear c2b0
        try clear c2b1
        try clear p2
        try clear c3
        try clear p3
        try clear q3
        try clear hx3
        try clear qi3
        try clear c4
        try clear c4b0
        try clear c4b1
        try clear c5
        try clear c5b0
        try clear c5b1
        try clear p6
        try clear c9
        try clear c21
        try clear c22
        try clear c25
        try clear c26
        try clear c26b0
        try clear c26b1
        try clear c27
        try clear c29
        try clear c31
        try clear hcz10_0
        try clear hcz10_1
        try clear hcz10_2
        try clear hcz12_0
        try clear hcz12_1
        try clear hcz12_2
        try clear hcz23_0
        try clear hcz23_1
        try clear hcz23_2
        try clear hcz25_0
        try clear hcz25_1
        try clear hcz25_2
        try clear hcz28_0
        try clear hcz28_1
        try clear hcz28_2
        try clear hcz30_0
        try clear hcz30_1
        try clear hcz30_2
        try clear hfz10_0
        try clear hfz10_1
        try clear hfz10_2
        try clear hfz12_0
        try clear hfz12_1
        try clear hfz12_2
        try clear hfz23_0
        try clear hfz23_1
        try clear hfz23_2
        try clear hfz25_0
        try clear hfz25_1
        try clear hfz25_2
        try clear hfz28_0
        try clear hfz28_1
        try clear hfz28_2
        try clear hfz30_0
        try clear hfz30_1
        try clear hfz30_2
        try clear p2
        try clear p3
        try clear p6
        try clear q3
        obtain ⟨x7_2, x29_2, rfl, rfl, HA, HK2, BK129, BK130, HB⟩ := hrel
        cases gk with
        | zero => exact absurd HA.out (by simp [key_first.l0])
        | succ k2 =>
         have H := HA.out
         clear HA
         simp only [key_first.l0] at H
         by_cases c32 : x29_2 < 8
         ·
          rw [if_pos c32] at H
          have c32b0 : decide (x29_2 < 8) = true := decide_eq_true c32
          clear c32
          by_cases c33 : 0 ≤ x29_2
          ·
           rw [if_pos c33] at H
           have c33b0 : decide (0 ≤ x29_2) = true := decide_eq_true c33
           clear c33
           by_cases c34 : x29_2 < ((a0.extract 1 a0.size).size : Int)
           ·
            rw [if_pos c34] at H
            have c34b0 : decide (x29_2 < ((a0.extract 1 a0.size).size : Int)) = true := decide_eq_true c34
            try (have c34bs := c34b0; simp only [ByteArray.size_extract, Nat.min_self] at c34bs)
            clear c34
            have H' := Aside0.mk H
            clear H
            have p35 : 0 ≤ (x29_2 : Int) := of_decide_eq_true (by first | (with_reducible assumption) | assumption)
            have q35 : x29_2 < ((a0.extract 1 a0.size).size : Int) := of_decide_eq_true (by first | (with_reducible assumption) | assumption)
            have hx35 := bt_at (a0.extract 1 a0.size) x29_2
            replace p35 := eq_true p35
            replace q35 := eq_true q35
            try (have q35s := q35; simp only [ByteArray.size_extract, Nat.min_self] at q35s)
            go_wp2
            go_roundg k2
            case measure => have := HJ18.out; have := HK2.out; omega
            case rel => exact ⟨(Go.bits .or .u64 (IntKind.u64.wrap (x7_2 * 256)) (IntKind.u64.wrap (bt (a0.extract 1 a0.size) x29_2))), (wrap64 (x29_2 + 1)), (by first | rfl | (simp; done) | (simp [*]; done)), (by first | rfl | (simp; done) | (simp [*]; done)), H', ⟨by have := HJ18.out; have := HK2.out; omega⟩, ⟨by (with_reducible repeat (first | refine blk_drewN ?_ _ | refine blk_drew ?_ | refine blk_alloc ?_ _)); exact BK129.out⟩, ⟨by (with_reducible repeat (first | refine blk_drewN ?_ _ | refine blk_drew ?_ | refine blk_alloc ?_ _)); exact BK130.out⟩, ⟨by repeat (first | (with_reducible first | exact HB.out | apply below_alloc | apply pw_below_drewN | apply below_drew1 | refine below_set ?_ GE129.out | refine below_set ?_ GE130.out) | exact HB.out)⟩⟩
           ·
            rw [if_neg c34] at H
            exact absurd H (by simp)
          ·
           rw [if_neg c33] at H
           exact absurd H (by simp)
         ·
          rw [if_neg c32] at H
          have c32b0 : decide (x29_2 < 8) = false := decide_eq_false c32
          clear c32
          by_cases c36 : 8 ≤ ((a0.extract 1 a0.size).size : Int)
          ·
           rw [if_pos c36] at H
           have c36b0 := eq_true c36
           try (have c36bs := c36b0; simp only [ByteArray.size_extract, Nat.min_self] at c36bs)
           have c36b1 : decide (8 ≤ ((a0.extract 1 a0.size).size : Int)) = true := decide_eq_true c36
           clear c36
           have H1 : ((value_Right.f (wrap64 ((wrap64 (bt a0 0)) - 1)) (wrap64 (Go.bits .xor .u64 x7_2 9223372036854775808)) (⟨#[]⟩ : ByteArray)).bind fun t132 => (some ((wrap64 ((wrap64 (bt a0 0)) - 1)), wrap64 (Go.bits .xor .u64 x7_2 9223372036854775808), (⟨#[]⟩ : ByteArray), (a0.extract 1 a0.size).extract 8 (a0.extract 1 a0.size).size, t132))) = some (r1, r2, r3, r4, r5) := by (first | rw [if_pos rfl] at H | rw [if_pos True.intro] at H | skip); exact H
           clear H
           have H := H1
           clear H1
           replace H := Option.bind_eq_some_iff.mp H
           obtain ⟨t132, A370, H⟩ := H
           replace H : (some ((wrap64 ((wrap64 (bt a0 0)) - 1)), wrap64 (Go.bits .xor .u64 x7_2 9223372036854775808), (⟨#[]⟩ : ByteArray), (a0.extract 1 a0.size).extract 8 (a0.extract 1 a0.size).size, t132)) = some (r1, r2, r3, r4, r5) := H
           have A37 := Aside0.mk A370
           clear A370
           simp only [Option.some.injEq, Prod.mk.injEq] at H
           obtain ⟨rfl, rfl, rfl, rfl, rfl⟩ := H
           have hnb38 := NB130_129.out
           have hnc38 := NB129_130.out
           have hcz39_0 : wr.cell? ⟨gb130, 0, none⟩ = some (.int .i64 (wrap64 ((wrap64 (bt a0 0)) - 1))) := (blk_cell BK130.out 0).trans rfl
           have hcz39_1 : wr.cell? ⟨gb130, 1, none⟩ = some (.int .i64 0) := (blk_cell BK130.out 1).trans rfl
           have hcz39_2 : wr.cell? ⟨gb130, 2, none⟩ = some (.string (⟨#[]⟩ : ByteArray)) := (blk_cell BK130.out 2).trans rfl
           have hfz39_0 := blk_frozen BK130.out 0
           have hfz39_1 := blk_frozen BK130.out 1
           have hfz39_2 := blk_frozen BK130.out 2
           try go_wp2
           have n0_ : Aside0 ((wr.setCell ⟨gb130, 1, none⟩ (.int .i64 (wrap64 (Go.bits .xor .u64 x7_2 9223372036854775808)))).heap[gb129]? = some (.cells #[.int .i64 0, .int .i64 0, .string (⟨#[]⟩ : ByteArray)] 25 (0, 0))) := ⟨by (with_reducible repeat (first | refine blk_drewN ?_ _ | refine blk_drew ?_ | refine blk_alloc ?_ _)); refine blk_far ?_ NB129_130.out _; (with_reducible repeat (first | refine blk_drewN ?_ _ | refine blk_drew ?_ | refine blk_alloc ?_ _)); exact BK129.out⟩
           have n1_ : Aside0 ((wr.setCell ⟨gb130, 1, none⟩ (.int .i64 (wrap64 (Go.bits .xor .u64 x7_2 9223372036854775808)))).heap[gb130]? = some (.cells #[.int .i64 (wrap64 ((wrap64 (bt a0 0)) - 1)), .int .i64 (wrap64 (Go.bits .xor .u64 x7_2 9223372036854775808)), .string (⟨#[]⟩ : ByteArray)] 25 (0, 0))) := ⟨by (with_reducible repeat (first | refine blk_drewN ?_ _ | refine blk_drew ?_ | refine blk_alloc ?_ _)); refine blk_put (cs := #[.int .i64 (wrap64 ((wrap64 (bt a0 0)) - 1)), .int .i64 0, .string (⟨#[]⟩ : ByteArray)]) ?_ 1 _ rfl; (with_reducible repeat (first | refine blk_drewN ?_ _ | refine blk_drew ?_ | refine blk_alloc ?_ _)); exact BK130.out⟩
           have n2_ : Aside0 (Below w.heap.size w (wr.setCell ⟨gb130, 1, none⟩ (.int .i64 (wrap64 (Go.bits .xor .u64 x7_2 9223372036854775808))))) := ⟨by repeat (first | (with_reducible first | exact HB.out | apply below_alloc | apply pw_below_drewN | apply below_drew1 | refine below_set ?_ GE129.out | refine below_set ?_ GE130.out) | exact HB.out)⟩
           (try clear BK129)
           (try clear BK130)
           (try clear HB)
           generalize (wr.setCell ⟨gb130, 1, none⟩ (.int .i64 (wrap64 (Go.bits .xor .u64 x7_2 9223372036854775808)))) = w40 at n0_ n1_ n2_ ⊢
           have BK129 := n0_
           have BK130 := n1_
           have HB := n2_
           clear n0_ n1_ n2_
           have n0_ := Aside0.mk (blk_drew BK129.out)
           have n1_ := Aside0.mk (blk_drew BK130.out)
           have n2_ := Aside0.mk (below_drew1 HB.out)
           clear BK129
           clear BK130
           clear HB
           have BK129 := n0_
           have BK130 := n1_
           have HB := n2_
           clear n0_ n1_ n2_
           refine start_ (n := 10) (S := fun w' => w'.cell? ⟨gb130, 0, none⟩ = some (.int .i64 (wrap64 ((wrap64 (bt a0 0)) - 1))) ∧ w'.cell? ⟨gb130, 1, none⟩ = some (.int .i64 (wrap64 (Go.bits .xor .u64 x7_2 9223372036854775808))) ∧ w'.cell? ⟨gb130, 2, none⟩ = some (.string (⟨#[]⟩ : ByteArray))) (ds := []) #[false, false, false, false, false, false, false, false, false, false] (by kernel_rfl) rfl rfl ⟨(blk_cell BK130.out 0).trans rfl, (blk_cell BK130.out 1).trans rfl, (blk_cell BK130.out 2).trans rfl⟩ (fun hHeld => ?_); refine with_tabW key_first.tab20 key_first.bits20 (fun HT_ HW_ => ?_)
           generalize w40.drew = w41 at BK129 BK130 HB hHeld ⊢
           refine pure_ (i := 1) (N := some 73) (v := ?_) (a' := ?_) #[false, true, false, false, false, false, false, false, false, false] rfl rfl (any_of HT_.out (by kernel_rfl)) (fun _ _ _ h => h) (Or.inl ⟨by rfl, ?_⟩) ?_ ?_
           rotate_left; focus (intro w'; go_simp; with_reducible rfl; done)
           rotate_left; focus (simp only [Act.put, List.setIfInBounds_toArray, List.set_cons_zero, List.set_cons_succ, i64_w, i32_w, u8_w, u32_w]; rfl; done)
           refine pure_ (i := 2) (N := some 74) (v := ?_) (a' := ?_) #[false, true, true, false, false, false, false, false, false, false] rfl rfl (any_of HT_.out (by kernel_rfl)) (fun _ _ _ h => h) (Or.inl ⟨by rfl, ?_⟩) ?_ ?_
           rotate_left; focus (intro w'; go_simp; with_reducible rfl; done)
           rotate_left; focus (simp only [Act.put, List.setIfInBounds_toArray, List.set_cons_zero, List.set_cons_succ, i64_w, i32_w, u8_w, u32_w]; rfl; done)
           refine pure_ (i := 3) (N := some 75) (v := ?_) (a' := ?_) #[false, true, true, true, false, false, false, false, false, false] rfl rfl (any_of HT_.out (by kernel_rfl)) (fun _ _ _ h => h) (Or.inl ⟨by rfl, ?_⟩) ?_ ?_
           rotate_left; focus (intro w'; go_simp; with_reducible rfl; done)
           rotate_left; focus (simp only [Act.put, List.setIfInBounds_toArray, List.set_cons_zero, List.set_cons_succ, i64_w, i32_w, u8_w, u32_w]; rfl; done)
           refine take_ (i := 0) (N := some 72) (v := ?_) (a' := ?_) #[true, true, true, true, false, false, false, false, false, false] rfl rfl (take_ofW HT_.out HW_.out (by kernel_rfl)) (fun _ _ _ h => h) (Or.inl ⟨by rfl, ?_⟩) hHeld ?_ ?_
           rotate_left; focus (rintro w' ⟨s0, s1, s2⟩; go_simp; with_reducible rfl; done)
           rotate_left; focus (simp only [Act.put, List.setIfInBounds_toArray, List.set_cons_zero, List.set_cons_succ, i64_w, i32_w, u8_w, u32_w]; rfl; done)
           refine take_ (i := 4) (N := some 76) (v := ?_) (a' := ?_) #[true, true, true, true, true, false, false, false, false, false] rfl rfl (take_ofW HT_.out HW_.out (by kernel_rfl)) (fun _ _ _ h => h) (Or.inl ⟨by rfl, ?_⟩) hHeld ?_ ?_
           rotate_left; focus (rintro w' ⟨s0, s1, s2⟩; go_simp; with_reducible rfl; done)
           rotate_left; focus (simp only [Act.put, List.setIfInBounds_toArray, List.set_cons_zero, List.set_cons_succ, i64_w, i32_w, u8_w, u32_w]; rfl; done)
           refine one_ (i := 5) (N := some 77) #[true, true, true, true, true, true, false, false, false, false] rfl rfl (one_of HT_.out (by kernel_rfl)) (by decide) (fun K hK => ?_)
           refine goes_ Tryd.func21 (by kernel_rfl) rfl #[.agg #[.int .i64 (wrap64 ((wrap64 (bt a0 0)) - 1)), .int .i64 (wrap64 (Go.bits .xor .u64 x7_2 9223372036854775808)), .string (⟨#[]⟩ : ByteArray)]] (by rfl) rfl rfl (by (try simp only [List.map_toArray, List.map_cons, List.map_nil]); first | done | rfl | (simp only [List.length_drop, List.length_take]; rfl)) ?_
           with_reducible refine (value_Right.calls (wrap64 ((wrap64 (bt a0 0)) - 1)) (wrap64 (Go.bits .xor .u64 x7_2 9223372036854775808)) (⟨#[]⟩ : ByteArray) t132 _ A37.out).mono ?_
           rintro e w42 ⟨rfl, hb⟩
           refine ⟨_, rfl, ?_⟩
           have n0_ := Aside0.mk (blk_below (g := gb129) (o := .cells #[.int .i64 0, .int .i64 0, .string (⟨#[]⟩ : ByteArray)] 25 (0, 0)) (by (with_reducible repeat (first | refine blk_drewN ?_ _ | refine blk_drew ?_ | refine blk_alloc ?_ _)); exact BK129.out) hb)
           have n1_ := Aside0.mk (blk_below (g := gb130) (o := .cells #[.int .i64 (wrap64 ((wrap64 (bt a0 0)) - 1)), .int .i64 (wrap64 (Go.bits .xor .u64 x7_2 9223372036854775808)), .string (⟨#[]⟩ : ByteArray)] 25 (0, 0)) (by (with_reducible repeat (first | refine blk_drewN ?_ _ | refine blk_drew ?_ | refine blk_alloc ?_ _)); exact BK130.out) hb)
           have n2_ := Aside0.mk (below_step (by repeat (first | (with_reducible first | exact HB.out | apply below_alloc | apply pw_below_drewN | apply below_drew1 | refine below_set ?_ GE129.out | refine below_set ?_ GE130.out) | exact HB.out)) hb)
           clear BK129
           clear BK130
           clear HB
           have BK129 := n0_
           have BK130 := n1_
           have HB := n2_
           clear n0_ n1_ n2_
           (try clear hb)
           (try clear hb2)
           (try clear hk)
           (try clear hi)
           refine hK.out _ _ ⟨(blk_cell BK130.out 0).trans rfl, (blk_cell BK130.out 1).trans rfl, (blk_cell BK130.out 2).trans rfl⟩ (fun hHeld => ?_)
           clear hK K
           refine norm_ (a' := ?_) ?_ ?_
           rotate_left; focus (show Act.put _ (some 77) _ = _; simp only [Act.put, List.setIfInBounds_toArray, List.set_cons_zero, List.set_cons_succ, i64_w, i32_w, u8_w, u32_w]; rfl; done)
           refine pure_ (i := 6) (N := some 78) (v := ?_) (a' := ?_) #[true, true, true, true, true, true, true, false, false, false] rfl rfl (any_of HT_.out (by kernel_rfl)) (fun _ _ _ h => h) (Or.inl ⟨by rfl, ?_⟩) ?_ ?_
           rotate_left; focus (intro w'; go_simp; with_reducible rfl; done)
           rotate_left; focus (simp only [Act.put, List.setIfInBounds_toArray, List.set_cons_zero, List.set_cons_succ, i64_w, i32_w, u8_w, u32_w]; rfl; done)
           refine one_ (i := 7) (N := none) #[true, true, true, true, true, true, true, true, false, false] rfl rfl (one_of HT_.out (by kernel_rfl)) (by decide) (fun K hK => ?_)
           have hs43 : w42.cell? ⟨gb129, 0, none⟩ = some (.int .i64 0) := (blk_cell BK129.out 0).trans rfl
           have hfs43 := blk_frozen BK129.out 0
           have hns43_1 := NB130_129.out
           have hms43_1 := NB129_130.out
           have hs44 : w42.cell? ⟨gb129, 1, none⟩ = some (.int .i64 0) := (blk_cell BK129.out 1).trans rfl
           have hfs44 := blk_frozen BK129.out 1
           have hns44_1 := NB130_129.out
           have hms44_1 := NB129_130.out
           have hs45 : w42.cell? ⟨gb129, 2, none⟩ = some (.string (⟨#[]⟩ : ByteArray)) := (blk_cell BK129.out 2).trans rfl
           have hfs45 := blk_frozen BK129.out 2
           have hns45_1 := NB130_129.out
           have hms45_1 := NB129_130.out
           refine skip_ (w1 := ?_) (by rfl) rfl ?_ ?_
           rotate_left; focus (go_simp; rfl; done)
           refine hK.out _ _ ⟨((cell_far (p := ⟨gb129, _, none⟩) NB130_129.out _).trans (((cell_far (p := ⟨gb129, _, none⟩) NB130_129.out _).trans (((cell_far (p := ⟨gb129, _, none⟩) NB130_129.out _).trans (hHeld.1)))))), ((cell_far (p := ⟨gb129, _, none⟩) NB130_129.out _).trans (((cell_far (p := ⟨gb129, _, none⟩) NB130_129.out _).trans (((cell_far (p := ⟨gb129, _, none⟩) NB130_129.out _).trans (hHeld.2.1)))))), ((cell_far (p := ⟨gb129, _, none⟩) NB130_129.out _).trans (((cell_far (p := ⟨gb129, _, none⟩) NB130_129.out _).trans (((cell_far (p := ⟨gb129, _, none⟩) NB130_129.out _).trans (hHeld.2.2))))))⟩ (fun hHeld => ?_)
           clear hK K
           refine pure_ (i := 8) (N := some 3) (v := ?_) (a' := ?_) #[true, true, true, true, true, true, true, true, true, false] rfl rfl (any_of HT_.out (by kernel_rfl)) (fun _ _ _ h => h) (Or.inl ⟨by rfl, ?_⟩) ?_ ?_
           rotate_left; focus (intro w'; go_simp; with_reducible rfl; done)
           rotate_left; focus (simp only [Act.put, List.setIfInBounds_toArray, List.set_cons_zero, List.set_cons_succ, i64_w, i32_w, u8_w, u32_w]; rfl; done)
           refine pure_ (i := 9) (N := some 4) (v := ?_) (a' := ?_) #[true, true, true, true, true, true, true, true, true, true] rfl rfl (any_of HT_.out (by kernel_rfl)) (fun _ _ _ h => h) (Or.inl ⟨by rfl, ?_⟩) ?_ ?_
           rotate_left; focus (intro w'; go_simp; with_reducible rfl; done)
           rotate_left; focus (simp only [Act.put, List.setIfInBounds_toArray, List.set_cons_zero, List.set_cons_succ, i64_w, i32_w, u8_w, u32_w]; rfl; done)
           refine done_ (done_of HT_.out (by kernel_rfl)) ?_
           have n0_ : Aside0 ((((w42.setCell ⟨gb129, 0, none⟩ (.int .i64 (wrap64 ((wrap64 (bt a0 0)) - 1)))).setCell ⟨gb129, 1, none⟩ (.int .i64 (wrap64 (Go.bits .xor .u64 x7_2 9223372036854775808)))).setCell ⟨gb129, 2, none⟩ (.string (⟨#[]⟩ : ByteArray))).heap[gb129]? = some (.cells #[.int .i64 (wrap64 ((wrap64 (bt a0 0)) - 1)), .int .i64 (wrap64 (Go.bits .xor .u64 x7_2 9223372036854775808)), .string (⟨#[]⟩ : ByteArray)] 25 (0, 0))) := ⟨by (with_reducible repeat (first | refine blk_drewN ?_ _ | refine blk_drew ?_ | refine blk_alloc ?_ _)); refine blk_put (cs := #[.int .i64 (wrap64 ((wrap64 (bt a0 0)) - 1)), .int .i64 (wrap64 (Go.bits .xor .u64 x7_2 9223372036854775808)), .string (⟨#[]⟩ : ByteArray)]) ?_ 2 _ rfl; (with_reducible repeat (first | refine blk_drewN ?_ _ | refine blk_drew ?_ | refine blk_alloc ?_ _)); refine blk_put (cs := #[.int .i64 (wrap64 ((wrap64 (bt a0 0)) - 1)), .int .i64 0, .string (⟨#[]⟩ : ByteArray)]) ?_ 1 _ rfl; (with_reducible repeat (first | refine blk_drewN ?_ _ | refine blk_drew ?_ | refine blk_alloc ?_ _)); refine blk_put (cs := #[.int .i64 0, .int .i64 0, .string (⟨#[]⟩ : ByteArray)]) ?_ 0 _ rfl; (with_reducible repeat (first | refine blk_drewN ?_ _ | refine blk_drew ?_ | refine blk_alloc ?_ _)); exact BK129.out⟩
           have n1_ : Aside0 ((((w42.setCell ⟨gb129, 0, none⟩ (.int .i64 (wrap64 ((wrap64 (bt a0 0)) - 1)))).setCell ⟨gb129, 1, none⟩ (.int .i64 (wrap64 (Go.bits .xor .u64 x7_2 9223372036854775808)))).setCell ⟨gb129, 2, none⟩ (.string (⟨#[]⟩ : ByteArray))).heap[gb130]? = some (.cells #[.int .i64 (wrap64 ((wrap64 (bt a0 0)) - 1)), .int .i64 (wrap64 (Go.bits .xor .u64 x7_2 9223372036854775808)), .string (⟨#[]⟩ : ByteArray)] 25 (0, 0))) := ⟨by (with_reducible repeat (first | refine blk_drewN ?_ _ | refine blk_drew ?_ | refine blk_alloc ?_ _)); refine blk_far ?_ NB130_129.out _; (with_reducible repeat (first | refine blk_drewN ?_ _ | refine blk_drew ?_ | refine blk_alloc ?_ _)); refine blk_far ?_ NB130_129.out _; (with_reducible repeat (first | refine blk_drewN ?_ _ | refine blk_drew ?_ | refine blk_alloc ?_ _)); refine blk_far ?_ NB130_129.out _; (with_reducible repeat (first | refine blk_drewN ?_ _ | refine blk_drew ?_ | refine blk_alloc ?_ _)); exact BK130.out⟩
           have n2_ : Aside0 (Below w.heap.size w (((w42.setCell ⟨gb129, 0, none⟩ (.int .i64 (wrap64 ((wrap64 (bt a0 0)) - 1)))).setCell ⟨gb129, 1, none⟩ (.int .i64 (wrap64 (Go.bits .xor .u64 x7_2 9223372036854775808)))).setCell ⟨gb129, 2, none⟩ (.string (⟨#[]⟩ : ByteArray)))) := ⟨by repeat (first | (with_reducible first | exact HB.out | apply below_alloc | apply pw_below_drewN | apply below_drew1 | refine below_set ?_ GE129.out | refine below_set ?_ GE130.out) | exact HB.out)⟩
           (try clear BK129)
           (try clear BK130)
           (try clear HB)
           generalize (((w42.setCell ⟨gb129, 0, none⟩ (.int .i64 (wrap64 ((wrap64 (bt a0 0)) - 1)))).setCell ⟨gb129, 1, none⟩ (.int .i64 (wrap64 (Go.bits .xor .u64 x7_2 9223372036854775808)))).setCell ⟨gb129, 2, none⟩ (.string (⟨#[]⟩ : ByteArray))) = w46 at n0_ n1_ n2_ ⊢
           have BK129 := n0_
           have BK130 := n1_
           have HB := n2_
           clear n0_ n1_ n2_
           try go_wp2
           refine bodyPost_ret (results_ctt rfl _ _ gb129 25 #[.int .i64 (wrap64 ((wrap64 (bt a0 0)) - 1)), .int .i64 (wrap64 (Go.bits .xor .u64 x7_2 9223372036854775808)), .string (⟨#[]⟩ : ByteArray)] (0, 0) _ rfl (by (with_reducible repeat (first | refine blk_drewN ?_ _ | refine blk_drew ?_ | refine blk_alloc ?_ _)); exact BK129.out) Tryd.underlying25 rfl (by kernel_rfl)) rfl ?_
           exact ⟨by first | (simp only [ByteArray.size_extract, Nat.min_self]; rfl) | rfl | (simp [errW_none, errW_some] <;> rfl) | (simp [*, errW_none, errW_some] <;> rfl), by repeat (first | (with_reducible first | exact HB.out | apply below_alloc | apply pw_below_drewN | apply below_drew1 | refine below_set ?_ GE129.out | refine below_set ?_ GE130.out) | exact HB.out)⟩
          ·
           rw [if_neg c36] at H
           exact absurd H (by simp)
      ·
       replace c31 := Bool.eq_false_iff.mpr c31
       subst c31
       have H1 : (if (wrap64 ((wrap64 (bt a0 0)) - 1)) = 2 then (key_first.j2 kj18 (a0.extract 1 a0.size) true (decide (((a0.extract 1 a0.size).size : Int) ≥ 1)) (wrap64 ((wrap64 (bt a0 0)) - 1)) 0 (⟨#[]⟩ : ByteArray)) else (key_first.j2 kj18 (a0.extract 1 a0.size) true false (wrap64 ((wrap64 (bt a0 0)) - 1)) 0 (⟨#[]⟩ : ByteArray))) = some (r1, r2, r3, r4, r5) := by rw [if_neg (show ¬ (false = true) by decide)] at H; exact H
       clear H
       have H := H1
       clear H1
       have HC47 := Aside0.mk H
       clear H
       go_upto_region 15 with (fail)
       go_cut [46] (fun v46 wc => ∃ (kq : Nat) (x46_46 : Bool), v46 = .bool x46_46 ∧ Aside0 (key_first.j2 kq (a0.extract 1 a0.size) true x46_46 (wrap64 ((wrap64 (bt a0 0)) - 1)) 0 (⟨#[]⟩ : ByteArray) = some (r1, r2, r3, r4, r5)) ∧ Aside0 (kq ≤ kj18) ∧ Aside0 (wc.heap[gb129]? = some (.cells #[.int .i64 0, .int .i64 0, .string (⟨#[]⟩ : ByteArray)] 25 (0, 0))) ∧ Aside0 (wc.heap[gb130]? = some (.cells #[.int .i64 (wrap64 ((wrap64 (bt a0 0)) - 1)), .int .i64 0, .string (⟨#[]⟩ : ByteArray)] 25 (0, 0))) ∧ Aside0 (Below w.heap.size w wc))
       case first =>
        have H := HC47.out
        clear HC47
        by_cases c48 : (wrap64 ((wrap64 (bt a0 0)) - 1)) = 2
        ·
         rw [if_pos c48] at H
         have c48b0 : ((wrap64 ((wrap64 (bt a0 0)) - 1)) == 2) = true := beq_iff_eq.mpr c48
         have c48b1 : ((wrap64 ((wrap64 (bt a0 0)) - 1)) != 2) = false := bne_eq_false_iff_eq.mpr c48
         clear c48
         (first | rw [c48b0] | (simp only [i64_w, i32_w, u8_w, u32_w]; rw [c48b0]) | rw [c48b1] | skip)
         have H' := Aside0.mk H
         clear H
         have hnb49 := NB130_129.out
         have hnc49 := NB129_130.out
         have hcz50_0 : wc.cell? ⟨gb130, 0, none⟩ = some (.int .i64 (wrap64 ((wrap64 (bt a0 0)) - 1))) := (blk_cell BK130.out 0).trans rfl
         have hcz50_1 : wc.cell? ⟨gb130, 1, none⟩ = some (.int .i64 0) := (blk_cell BK130.out 1).trans rfl
         have hcz50_2 : wc.cell? ⟨gb130, 2, none⟩ = some (.string (⟨#[]⟩ : ByteArray)) := (blk_cell BK130.out 2).trans rfl
         have hfz50_0 := blk_frozen BK130.out 0
         have hfz50_1 := blk_frozen BK130.out 1
         have hfz50_2 := blk_frozen BK130.out 2
         go_wp2
         go_meet
         case rel => exact ⟨_, (decide (((a0.extract 1 a0.size).size : Int) ≥ 1)), (by first | rfl | (simp; done) | (simp [*]; done)), H', ⟨by have := HJ18.out; first | omega | exact Nat.le_refl _⟩, ⟨by (with_reducible repeat (first | refine blk_drewN ?_ _ | refine blk_drew ?_ | refine blk_alloc ?_ _)); exact BK129.out⟩, ⟨by (with_reducible repeat (first | refine blk_drewN ?_ _ | refine blk_drew ?_ | refine blk_alloc ?_ _)); exact BK130.out⟩, ⟨by repeat (first | (with_reducible first | exact HB.out | apply below_alloc | apply pw_below_drewN | apply below_drew1 | refine below_set ?_ GE129.out | refine below_set ?_ GE130.out) | exact HB.out)⟩⟩
        ·
         rw [if_neg c48] at H
         have c48b0 : ((wrap64 ((wrap64 (bt a0 0)) - 1)) == 2) = false := beq_eq_false_iff_ne.mpr c48
         have c48b1 : ((wrap64 ((wrap64 (bt a0 0)) - 1)) != 2) = true := bne_iff_ne.mpr c48
         (first | rw [c48b0] | (simp only [i64_w, i32_w, u8_w, u32_w]; rw [c48b0]) | rw [c48b1] | skip)
         have H' := Aside0.mk H
         clear H
         have hnb51 := NB130_129.out
         have hnc51 := NB129_130.out
         have hcz52_0 : wc.cell? ⟨gb130, 0, none⟩ = some (.int .i64 (wrap64 ((wrap64 (bt a0 0)) - 1))) := (blk_cell BK130.out 0).trans rfl
         have hcz52_1 : wc.cell? ⟨gb130, 1, none⟩ = some (.int .i64 0) := (blk_cell BK130.out 1).trans rfl
         have hcz52_2 : wc.cell? ⟨gb130, 2, none⟩ = some (.string (⟨#[]⟩ : ByteArray)) := (blk_cell BK130.out 2).trans rfl
         have hfz52_0 := blk_frozen BK130.out 0
         have hfz52_1 := blk_frozen BK130.out 1
         have hfz52_2 := blk_frozen BK130.out 2
         go_wp2
         go_meet
         case rel => exact ⟨_, (false), (by first | rfl | (simp; done) | (simp [*]; done)), H', ⟨by have := HJ18.out; first | omega | exact Nat.le_refl _⟩, ⟨by (with_reducible repeat (first | refine blk_drewN ?_ _ | refine blk_drew ?_ | refine blk_alloc ?_ _)); exact BK129.out⟩, ⟨by (with_reducible repeat (first | refine blk_drewN ?_ _ | refine blk_drew ?_ | refine blk_alloc ?_ _)); exact BK130.out⟩, ⟨by repeat (first | (with_reducible first | exact HB.out | apply below_alloc | apply pw_below_drewN | apply below_drew1 | refine below_set ?_ GE129.out | refine below_set ?_ GE130.out) | exact HB.out)⟩⟩
       case rest =>
        clear HC47
        try clear c2
        try clear c2b0
        try clear c2b1
        try clear p2
        try clear c3
        try clear p3
        try clear q3
        try clear hx3
        try clear qi3
        try clear c4
        try clear c4b0
        try clear c4b1
        try clear c5
        try clear c5b0
        try clear c5b1
        try clear p6
        try clear c9
        try clear c21
        try clear c22
        try clear c25
        try clear c26
        try clear c26b0
        try clear c26b1
        try clear c27
        try clear c29
        try clear c31
        try clear c32
        try clear c32b0
        try clear c33
        try clear c33b0
        try clear c34
        try clear c34b0
        try clear p35
        try clear q35
        try clear hx35
        try clear c36
        try clear c36b0
        try clear c36b1
        try clear c38
        try clear c48
        try clear c48b0
        try clear c48b1
        try clear c49
        try clear c51
        try clear hcz10_0
        try clear hcz10_1
        try clear hcz10_2
        try clear hcz12_0
        try clear hcz12_1
        try clear hcz12_2
        try clear hcz23_0
        try clear hcz23_1
        try clear hcz23_2
        try clear hcz25_0
        try clear hcz25_1
        try clear hcz25_2
        try clear hcz28_0
        try clear hcz28_1
        try clear hcz28_2
        try clear hcz30_0
        try clear hcz30_1
        try clear hcz30_2
        try clear hcz39_0
        try clear hcz39_1
        try clear hcz39_2
        try clear hcz50_0
        try clear hcz50_1
        try clear hcz50_2
        try clear hcz52_0
        try clear hcz52_1
        try clear hcz52_2
        try clear hfz10_0
        try clear hfz10_1
        try clear hfz10_2
        try clear hfz12_0
        try clear hfz12_1
        try clear hfz12_2
        try clear hfz23_0
        try clear hfz23_1
        try clear hfz23_2
        try clear hfz25_0
        try clear hfz25_1
        try clear hfz25_2
        try clear hfz28_0
        try clear hfz28_1
        try clear hfz28_2
        try clear hfz30_0
        try clear hfz30_1
        try clear hfz30_2
        try clear hfz39_0
        try clear hfz39_1
        try clear hfz39_2
        try clear hfz50_0
        try clear hfz50_1
        try clear hfz50_2
        try clear hfz52_0
        try clear hfz52_1
        try clear hfz52_2
        try clear p2
        try clear p3
        try clear p35
        try clear p6
        try clear q3
        try clear q35
        obtain ⟨kq, x46_46, rfl, HA, HJ46, BK129, BK130, HB⟩ := hcut
        cases kq with
        | zero => exact absurd HA.out (by simp [key_first.j2])
        | succ kj46 =>
         have H := HA.out
         clear HA
         simp only [key_first.j2] at H
         by_cases c53 : x46_46 = true
         ·
          subst c53
          have H1 : (if 0 < ((a0.extract 1 a0.size).size : Int) then (if 1 ≤ ((a0.extract 1 a0.size).size : Int) then (if true = true then ((value_Right.f (wrap64 ((wrap64 (bt a0 0)) - 1)) (wrap64 (bt (a0.extract 1 a0.size) 0)) (⟨#[]⟩ : ByteArray)).bind fun t133 => (some ((wrap64 ((wrap64 (bt a0 0)) - 1)), wrap64 (bt (a0.extract 1 a0.size) 0), (⟨#[]⟩ : ByteArray), (a0.extract 1 a0.size).extract 1 (a0.extract 1 a0.size).size, t133))) else (some ((wrap64 ((wrap64 (bt a0 0)) - 1)), wrap64 (bt (a0.extract 1 a0.size) 0), (⟨#[]⟩ : ByteArray), (a0.extract 1 a0.size).extract 1 (a0.extract 1 a0.size).size, false))) else (none)) else (none)) = some (r1, r2, r3, r4, r5) := by (first | rw [if_pos rfl] at H | rw [if_pos True.intro] at H | skip); exact H
          clear H
          have H := H1
          clear H1
          by_cases c54 : 0 < ((a0.extract 1 a0.size).size : Int)
          ·
           rw [if_pos c54] at H
           have c54b0 : decide (0 < ((a0.extract 1 a0.size).size : Int)) = true := decide_eq_true c54
           have c54b1 : decide (0 < (a0.extract 1 a0.size).size) = true := decide_eq_true (by omega)
           try (have c54bs := c54b0; simp only [ByteArray.size_extract, Nat.min_self] at c54bs)
           clear c54
           by_cases c56 : 1 ≤ ((a0.extract 1 a0.size).size : Int)
           ·
            rw [if_pos c56] at H
            have c56b0 := eq_true c56
            try (have c56bs := c56b0; simp only [ByteArray.size_extract, Nat.min_self] at c56bs)
            have c56b1 : decide (1 ≤ ((a0.extract 1 a0.size).size : Int)) = true := decide_eq_true c56
            clear c56
            have H1 : ((value_Right.f (wrap64 ((wrap64 (bt a0 0)) - 1)) (wrap64 (bt (a0.extract 1 a0.size) 0)) (⟨#[]⟩ : ByteArray)).bind fun t133 => (some ((wrap64 ((wrap64 (bt a0 0)) - 1)), wrap64 (bt (a0.extract 1 a0.size) 0), (⟨#[]⟩ : ByteArray), (a0.extract 1 a0.size).extract 1 (a0.extract 1 a0.size).size, t133))) = some (r1, r2, r3, r4, r5) := by (first | rw [if_pos rfl] at H | rw [if_pos True.intro] at H | skip); exact H
            clear H
            have H := H1
            clear H1
            replace H := Option.bind_eq_some_iff.mp H
            obtain ⟨t133, A570, H⟩ := H
            replace H : (some ((wrap64 ((wrap64 (bt a0 0)) - 1)), wrap64 (bt (a0.extract 1 a0.size) 0), (⟨#[]⟩ : ByteArray), (a0.extract 1 a0.size).extract 1 (a0.extract 1 a0.size).size, t133)) = some (r1, r2, r3, r4, r5) := H
            have A57 := Aside0.mk A570
            clear A570
            simp only [Option.some.injEq, Prod.mk.injEq] at H
            obtain ⟨rfl, rfl, rfl, rfl, rfl⟩ := H
            have p55 : 0 ≤ (0 : Int) := (by omega)
            have q55 : 0 < (a0.extract 1 a0.size).size := (by have : (0 : Int) < ((a0.extract 1 a0.size).size : Int) := of_decide_eq_true (by first | (with_reducible assumption) | assumption); omega)
            have hx55 : ∀ h : 0 < (a0.extract 1 a0.size).size, (((a0.extract 1 a0.size)[0]'h).toNat : Int) = bt (a0.extract 1 a0.size) 0 := bt_at (a0.extract 1 a0.size) 0
            clear p55
            have qi55 : (0 < ((a0.extract 1 a0.size).size : Int)) = True := eq_true (of_decide_eq_true (by first | (with_reducible assumption) | assumption))
            replace q55 := eq_true q55
            try (have q55s := q55; simp only [ByteArray.size_extract, Nat.min_self] at q55s)
            have hnb58 := NB130_129.out
            have hnc58 := NB129_130.out
            have hcz59_0 : wc.cell? ⟨gb130, 0, none⟩ = some (.int .i64 (wrap64 ((wrap64 (bt a0 0)) - 1))) := (blk_cell BK130.out 0).trans rfl
            have hcz59_1 : wc.cell? ⟨gb130, 1, none⟩ = some (.int .i64 0) := (blk_cell BK130.out 1).trans rfl
            have hcz59_2 : wc.cell? ⟨gb130, 2, none⟩ = some (.string (⟨#[]⟩ : ByteArray)) := (blk_cell BK130.out 2).trans rfl
            have hfz59_0 := blk_frozen BK130.out 0
            have hfz59_1 := blk_frozen BK130.out 1
            have hfz59_2 := blk_frozen BK130.out 2
            try go_wp2
            have n0_ : Aside0 ((wc.setCell ⟨gb130, 1, none⟩ (.int .i64 (wrap64 (bt (a0.extract 1 a0.size) 0)))).heap[gb129]? = some (.cells #[.int .i64 0, .int .i64 0, .string (⟨#[]⟩ : ByteArray)] 25 (0, 0))) := ⟨by (with_reducible repeat (first | refine blk_drewN ?_ _ | refine blk_drew ?_ | refine blk_alloc ?_ _)); refine blk_far ?_ NB129_130.out _; (with_reducible repeat (first | refine blk_drewN ?_ _ | refine blk_drew ?_ | refine blk_alloc ?_ _)); exact BK129.out⟩
            have n1_ : Aside0 ((wc.setCell ⟨gb130, 1, none⟩ (.int .i64 (wrap64 (bt (a0.extract 1 a0.size) 0)))).heap[gb130]? = some (.cells #[.int .i64 (wrap64 ((wrap64 (bt a0 0)) - 1)), .int .i64 (wrap64 (bt (a0.extract 1 a0.size) 0)), .string (⟨#[]⟩ : ByteArray)] 25 (0, 0))) := ⟨by (with_reducible repeat (first | refine blk_drewN ?_ _ | refine blk_drew ?_ | refine blk_alloc ?_ _)); refine blk_put (cs := #[.int .i64 (wrap64 ((wrap64 (bt a0 0)) - 1)), .int .i64 0, .string (⟨#[]⟩ : ByteArray)]) ?_ 1 _ rfl; (with_reducible repeat (first | refine blk_drewN ?_ _ | refine blk_drew ?_ | refine blk_alloc ?_ _)); exact BK130.out⟩
            have n2_ : Aside0 (Below w.heap.size w (wc.setCell ⟨gb130, 1, none⟩ (.int .i64 (wrap64 (bt (a0.extract 1 a0.size) 0))))) := ⟨by repeat (first | (with_reducible first | exact HB.out | apply below_alloc | apply pw_below_drewN | apply below_drew1 | refine below_set ?_ GE129.out | refine below_set ?_ GE130.out) | exact HB.out)⟩
            (try clear BK129)
            (try clear BK130)
            (try clear HB)
            generalize (wc.setCell ⟨gb130, 1, none⟩ (.int .i64 (wrap64 (bt (a0.extract 1 a0.size) 0)))) = w60 at n0_ n1_ n2_ ⊢
            have BK129 := n0_
            have BK130 := n1_
            have HB := n2_
            clear n0_ n1_ n2_
            have n0_ := Aside0.mk (blk_drew BK129.out)
            have n1_ := Aside0.mk (blk_drew BK130.out)
            have n2_ := Aside0.mk (below_drew1 HB.out)
            clear BK129
            clear BK130
            clear HB
            have BK129 := n0_
            have BK130 := n1_
            have HB := n2_
            clear n0_ n1_ n2_
            refine start_ (n := 10) (S := fun w' => w'.cell? ⟨gb130, 0, none⟩ = some (.int .i64 (wrap64 ((wrap64 (bt a0 0)) - 1))) ∧ w'.cell? ⟨gb130, 1, none⟩ = some (.int .i64 (wrap64 (bt (a0.extract 1 a0.size) 0))) ∧ w'.cell? ⟨gb130, 2, none⟩ = some (.string (⟨#[]⟩ : ByteArray))) (ds := []) #[false, false, false, false, false, false, false, false, false, false] (by kernel_rfl) rfl rfl ⟨(blk_cell BK130.out 0).trans rfl, (blk_cell BK130.out 1).trans rfl, (blk_cell BK130.out 2).trans rfl⟩ (fun hHeld => ?_); refine with_tabW key_first.tab20 key_first.bits20 (fun HT_ HW_ => ?_)
            generalize w60.drew = w61 at BK129 BK130 HB hHeld ⊢
            refine pure_ (i := 1) (N := some 73) (v := ?_) (a' := ?_) #[false, true, false, false, false, false, false, false, false, false] rfl rfl (any_of HT_.out (by kernel_rfl)) (fun _ _ _ h => h) (Or.inl ⟨by rfl, ?_⟩) ?_ ?_
            rotate_left; focus (intro w'; go_simp; with_reducible rfl; done)
            rotate_left; focus (simp only [Act.put, List.setIfInBounds_toArray, List.set_cons_zero, List.set_cons_succ, i64_w, i32_w, u8_w, u32_w]; rfl; done)
            refine pure_ (i := 2) (N := some 74) (v := ?_) (a' := ?_) #[false, true, true, false, false, false, false, false, false, false] rfl rfl (any_of HT_.out (by kernel_rfl)) (fun _ _ _ h => h) (Or.inl ⟨by rfl, ?_⟩) ?_ ?_
            rotate_left; focus (intro w'; go_simp; with_reducible rfl; done)
            rotate_left; focus (simp only [Act.put, List.setIfInBounds_toArray, List.set_cons_zero, List.set_cons_succ, i64_w, i32_w, u8_w, u32_w]; rfl; done)
            refine pure_ (i := 3) (N := some 75) (v := ?_) (a' := ?_) #[false, true, true, true, false, false, false, false, false, false] rfl rfl (any_of HT_.out (by kernel_rfl)) (fun _ _ _ h => h) (Or.inl ⟨by rfl, ?_⟩) ?_ ?_
            rotate_left; focus (intro w'; go_simp; with_reducible rfl; done)
            rotate_left; focus (simp only [Act.put, List.setIfInBounds_toArray, List.set_cons_zero, List.set_cons_succ, i64_w, i32_w, u8_w, u32_w]; rfl; done)
            refine take_ (i := 0) (N := some 72) (v := ?_) (a' := ?_) #[true, true, true, true, false, false, false, false, false, false] rfl rfl (take_ofW HT_.out HW_.out (by kernel_rfl)) (fun _ _ _ h => h) (Or.inl ⟨by rfl, ?_⟩) hHeld ?_ ?_
            rotate_left; focus (rintro w' ⟨s0, s1, s2⟩; go_simp; with_reducible rfl; done)
            rotate_left; focus (simp only [Act.put, List.setIfInBounds_toArray, List.set_cons_zero, List.set_cons_succ, i64_w, i32_w, u8_w, u32_w]; rfl; done)
            refine take_ (i := 4) (N := some 76) (v := ?_) (a' := ?_) #[true, true, true, true, true, false, false, false, false, false] rfl rfl (take_ofW HT_.out HW_.out (by kernel_rfl)) (fun _ _ _ h => h) (Or.inl ⟨by rfl, ?_⟩) hHeld ?_ ?_
            rotate_left; focus (rintro w' ⟨s0, s1, s2⟩; go_simp; with_reducible rfl; done)
            rotate_left; focus (simp only [Act.put, List.setIfInBounds_toArray, List.set_cons_zero, List.set_cons_succ, i64_w, i32_w, u8_w, u32_w]; rfl; done)
            refine one_ (i := 5) (N := some 77) #[true, true, true, true, true, true, false, false, false, false] rfl rfl (one_of HT_.out (by kernel_rfl)) (by decide) (fun K hK => ?_)
            refine goes_ Tryd.func21 (by kernel_rfl) rfl #[.agg #[.int .i64 (wrap64 ((wrap64 (bt a0 0)) - 1)), .int .i64 (wrap64 (bt (a0.extract 1 a0.size) 0)), .string (⟨#[]⟩ : ByteArray)]] (by rfl) rfl rfl (by (try simp only [List.map_toArray, List.map_cons, List.map_nil]); first | done | rfl | (simp only [List.length_drop, List.length_take]; rfl)) ?_
            with_reducible refine (value_Right.calls (wrap64 ((wrap64 (bt a0 0)) - 1)) (wrap64 (bt (a0.extract 1 a0.size) 0)) (⟨#[]⟩ : ByteArray) t133 _ A57.out).mono ?_
            rintro e w62 ⟨rfl, hb⟩
            refine ⟨_, rfl, ?_⟩
            have n0_ := Aside0.mk (blk_below (g := gb129) (o := .cells #[.int .i64 0, .int .i64 0, .string (⟨#[]⟩ : ByteArray)] 25 (0, 0)) (by (with_reducible repeat (first | refine blk_drewN ?_ _ | refine blk_drew ?_ | refine blk_alloc ?_ _)); exact BK129.out) hb)
            have n1_ := Aside0.mk (blk_below (g := gb130) (o := .cells #[.int .i64 (wrap64 ((wrap64 (bt a0 0)) - 1)), .int .i64 (wrap64 (bt (a0.extract 1 a0.size) 0)), .string (⟨#[]⟩ : ByteArray)] 25 (0, 0)) (by (with_reducible repeat (first | refine blk_drewN ?_ _ | refine blk_drew ?_ | refine blk_alloc ?_ _)); exact BK130.out) hb)
            have n2_ := Aside0.mk (below_step (by repeat (first | (with_reducible first | exact HB.out | apply below_alloc | apply pw_below_drewN | apply below_drew1 | refine below_set ?_ GE129.out | refine below_set ?_ GE130.out) | exact HB.out)) hb)
            clear BK129
            clear BK130
            clear HB
            have BK129 := n0_
            have BK130 := n1_
            have HB := n2_
            clear n0_ n1_ n2_
            (try clear hb)
            (try clear hb2)
            (try clear hk)
            (try clear hi)
            refine hK.out _ _ ⟨(blk_cell BK130.out 0).trans rfl, (blk_cell BK130.out 1).trans rfl, (blk_cell BK130.out 2).trans rfl⟩ (fun hHeld => ?_)
            clear hK K
            refine norm_ (a' := ?_) ?_ ?_
            rotate_left; focus (show Act.put _ (some 77) _ = _; simp only [Act.put, List.setIfInBounds_toArray, List.set_cons_zero, List.set_cons_succ, i64_w, i32_w, u8_w, u32_w]; rfl; done)
            refine pure_ (i := 6) (N := some 78) (v := ?_) (a' := ?_) #[true, true, true, true, true, true, true, false, false, false] rfl rfl (any_of HT_.out (by kernel_rfl)) (fun _ _ _ h => h) (Or.inl ⟨by rfl, ?_⟩) ?_ ?_
            rotate_left; focus (intro w'; go_simp; with_reducible rfl; done)
            rotate_left; focus (simp only [Act.put, List.setIfInBounds_toArray, List.set_cons_zero, List.set_cons_succ, i64_w, i32_w, u8_w, u32_w]; rfl; done)
            refine one_ (i := 7) (N := none) #[true, true, true, true, true, true, true, true, false, false] rfl rfl (one_of HT_.out (by kernel_rfl)) (by decide) (fun K hK => ?_)
            have hs63 : w62.cell? ⟨gb129, 0, none⟩ = some (.int .i64 0) := (blk_cell BK129.out 0).trans rfl
            have hfs63 := blk_frozen BK129.out 0
            have hns63_1 := NB130_129.out
            have hms63_1 := NB129_130.out
            have hs64 : w62.cell? ⟨gb129, 1, none⟩ = some (.int .i64 0) := (blk_cell BK129.out 1).trans rfl
            have hfs64 := blk_frozen BK129.out 1
            have hns64_1 := NB130_129.out
            have hms64_1 := NB129_130.out
            have hs65 : w62.cell? ⟨gb129, 2, none⟩ = some (.string (⟨#[]⟩ : ByteArray)) := (blk_cell BK129.out 2).trans rfl
            have hfs65 := blk_frozen BK129.out 2
            have hns65_1 := NB130_129.out
            have hms65_1 := NB129_130.out
            refine skip_ (w1 := ?_) (by rfl) rfl ?_ ?_
            rotate_left; focus (go_simp; rfl; done)
            refine hK.out _ _ ⟨((cell_far (p := ⟨gb129, _, none⟩) NB130_129.out _).trans (((cell_far (p := ⟨gb129, _, none⟩) NB130_129.out _).trans (((cell_far (p := ⟨gb129, _, none⟩) NB130_129.out _).trans (hHeld.1)))))), ((cell_far (p := ⟨gb129, _, none⟩) NB130_129.out _).trans (((cell_far (p := ⟨gb129, _, none⟩) NB130_129.out _).trans (((cell_far (p := ⟨gb129, _, none⟩) NB130_129.out _).trans (hHeld.2.1)))))), ((cell_far (p := ⟨gb129, _, none⟩) NB130_129.out _).trans (((cell_far (p := ⟨gb129, _, none⟩) NB130_129.out _).trans (((cell_far (p := ⟨gb129, _, none⟩) NB130_129.out _).trans (hHeld.2.2))))))⟩ (fun hHeld => ?_)
            clear hK K
            refine pure_ (i := 8) (N := some 3) (v := ?_) (a' := ?_) #[true, true, true, true, true, true, true, true, true, false] rfl rfl (any_of HT_.out (by kernel_rfl)) (fun _ _ _ h => h) (Or.inl ⟨by rfl, ?_⟩) ?_ ?_
            rotate_left; focus (intro w'; go_simp; with_reducible rfl; done)
            rotate_left; focus (simp only [Act.put, List.setIfInBounds_toArray, List.set_cons_zero, List.set_cons_succ, i64_w, i32_w, u8_w, u32_w]; rfl; done)
            refine pure_ (i := 9) (N := some 4) (v := ?_) (a' := ?_) #[true, true, true, true, true, true, true, true, true, true] rfl rfl (any_of HT_.out (by kernel_rfl)) (fun _ _ _ h => h) (Or.inl ⟨by rfl, ?_⟩) ?_ ?_
            rotate_left; focus (intro w'; go_simp; with_reducible rfl; done)
            rotate_left; focus (simp only [Act.put, List.setIfInBounds_toArray, List.set_cons_zero, List.set_cons_succ, i64_w, i32_w, u8_w, u32_w]; rfl; done)
            refine done_ (done_of HT_.out (by kernel_rfl)) ?_
            have n0_ : Aside0 ((((w62.setCell ⟨gb129, 0, none⟩ (.int .i64 (wrap64 ((wrap64 (bt a0 0)) - 1)))).setCell ⟨gb129, 1, none⟩ (.int .i64 (wrap64 (bt (a0.extract 1 a0.size) 0)))).setCell ⟨gb129, 2, none⟩ (.string (⟨#[]⟩ : ByteArray))).heap[gb129]? = some (.cells #[.int .i64 (wrap64 ((wrap64 (bt a0 0)) - 1)), .int .i64 (wrap64 (bt (a0.extract 1 a0.size) 0)), .string (⟨#[]⟩ : ByteArray)] 25 (0, 0))) := ⟨by (with_reducible repeat (first | refine blk_drewN ?_ _ | refine blk_drew ?_ | refine blk_alloc ?_ _)); refine blk_put (cs := #[.int .i64 (wrap64 ((wrap64 (bt a0 0)) - 1)), .int .i64 (wrap64 (bt (a0.extract 1 a0.size) 0)), .string (⟨#[]⟩ : ByteArray)]) ?_ 2 _ rfl; (with_reducible repeat (first | refine blk_drewN ?_ _ | refine blk_drew ?_ | refine blk_alloc ?_ _)); refine blk_put (cs := #[.int .i64 (wrap64 ((wrap64 (bt a0 0)) - 1)), .int .i64 0, .string (⟨#[]⟩ : ByteArray)]) ?_ 1 _ rfl; (with_reducible repeat (first | refine blk_drewN ?_ _ | refine blk_drew ?_ | refine blk_alloc ?_ _)); refine blk_put (cs := #[.int .i64 0, .int .i64 0, .string (⟨#[]⟩ : ByteArray)]) ?_ 0 _ rfl; (with_reducible repeat (first | refine blk_drewN ?_ _ | refine blk_drew ?_ | refine blk_alloc ?_ _)); exact BK129.out⟩
            have n1_ : Aside0 ((((w62.setCell ⟨gb129, 0, none⟩ (.int .i64 (wrap64 ((wrap64 (bt a0 0)) - 1)))).setCell ⟨gb129, 1, none⟩ (.int .i64 (wrap64 (bt (a0.extract 1 a0.size) 0)))).setCell ⟨gb129, 2, none⟩ (.string (⟨#[]⟩ : ByteArray))).heap[gb130]? = some (.cells #[.int .i64 (wrap64 ((wrap64 (bt a0 0)) - 1)), .int .i64 (wrap64 (bt (a0.extract 1 a0.size) 0)), .string (⟨#[]⟩ : ByteArray)] 25 (0, 0))) := ⟨by (with_reducible repeat (first | refine blk_drewN ?_ _ | refine blk_drew ?_ | refine blk_alloc ?_ _)); refine blk_far ?_ NB130_129.out _; (with_reducible repeat (first | refine blk_drewN ?_ _ | refine blk_drew ?_ | refine blk_alloc ?_ _)); refine blk_far ?_ NB130_129.out _; (with_reducible repeat (first | refine blk_drewN ?_ _ | refine blk_drew ?_ | refine blk_alloc ?_ _)); refine blk_far ?_ NB130_129.out _; (with_reducible repeat (first | refine blk_drewN ?_ _ | refine blk_drew ?_ | refine blk_alloc ?_ _)); exact BK130.out⟩
            have n2_ : Aside0 (Below w.heap.size w (((w62.setCell ⟨gb129, 0, none⟩ (.int .i64 (wrap64 ((wrap64 (bt a0 0)) - 1)))).setCell ⟨gb129, 1, none⟩ (.int .i64 (wrap64 (bt (a0.extract 1 a0.size) 0)))).setCell ⟨gb129, 2, none⟩ (.string (⟨#[]⟩ : ByteArray)))) := ⟨by repeat (first | (with_reducible first | exact HB.out | apply below_alloc | apply pw_below_drewN | apply below_drew1 | refine below_set ?_ GE129.out | refine below_set ?_ GE130.out) | exact HB.out)⟩
            (try clear BK129)
            (try clear BK130)
            (try clear HB)
            generalize (((w62.setCell ⟨gb129, 0, none⟩ (.int .i64 (wrap64 ((wrap64 (bt a0 0)) - 1)))).setCell ⟨gb129, 1, none⟩ (.int .i64 (wrap64 (bt (a0.extract 1 a0.size) 0)))).setCell ⟨gb129, 2, none⟩ (.string (⟨#[]⟩ : ByteArray))) = w66 at n0_ n1_ n2_ ⊢
            have BK129 := n0_
            have BK130 := n1_
            have HB := n2_
            clear n0_ n1_ n2_
            try go_wp2
            refine bodyPost_ret (results_ctt rfl _ _ gb129 25 #[.int .i64 (wrap64 ((wrap64 (bt a0 0)) - 1)), .int .i64 (wrap64 (bt (a0.extract 1 a0.size) 0)), .string (⟨#[]⟩ : ByteArray)] (0, 0) _ rfl (by (with_reducible repeat (first | refine blk_drewN ?_ _ | refine blk_drew ?_ | refine blk_alloc ?_ _)); exact BK129.out) Tryd.underlying25 rfl (by kernel_rfl)) rfl ?_
            exact ⟨by first | (simp only [ByteArray.size_extract, Nat.min_self]; rfl) | rfl | (simp [errW_none, errW_some] <;> rfl) | (simp [*, errW_none, errW_some] <;> rfl), by repeat (first | (with_reducible first | exact HB.out | apply below_alloc | apply pw_below_drewN | apply below_drew1 | refine below_set ?_ GE129.out | refine below_set ?_ GE130.out) | exact HB.out)⟩
           ·
            rw [if_neg c56] at H
            exact absurd H (by simp)
          ·
           rw [if_neg c54] at H
           exact absurd H (by simp)
         ·
          replace c53 := Bool.eq_false_iff.mpr c53
          subst c53
          have H1 : (if (wrap64 ((wrap64 (bt a0 0)) - 1)) = 3 then ((key_text.f (a0.extract 1 a0.size)).bind fun bt134 => (if bt134.2.2 = true then ((value_Right.f (wrap64 ((wrap64 (bt a0 0)) - 1)) 0 bt134.1).bind fun t137 => (some ((wrap64 ((wrap64 (bt a0 0)) - 1)), 0, bt134.1, bt134.2.1, t137))) else (some ((wrap64 ((wrap64 (bt a0 0)) - 1)), 0, bt134.1, bt134.2.1, false)))) else (some ((wrap64 ((wrap64 (bt a0 0)) - 1)), 0, (⟨#[]⟩ : ByteArray), (a0.extract 1 a0.size), false))) = some (r1, r2, r3, r4, r5) := by rw [if_neg (show ¬ (false = true) by decide)] at H; exact H
          clear H
          have H := H1
          clear H1
          by_cases c67 : (wrap64 ((wrap64 (bt a0 0)) - 1)) = 3
          ·
           rw [if_pos c67] at H
           have c67b0 : ((wrap64 ((wrap64 (bt a0 0)) - 1)) == 3) = true := beq_iff_eq.mpr c67
           have c67b1 : ((wrap64 ((wrap64 (bt a0 0)) - 1)) != 3) = false := bne_eq_false_iff_eq.mpr c67
           clear c67
           replace H := Option.bind_eq_some_iff.mp H
           obtain ⟨⟨t134, t135, t136⟩, A680, H⟩ := H
           replace H : (if t136 = true then ((value_Right.f (wrap64 ((wrap64 (bt a0 0)) - 1)) 0 t134).bind fun t137 => (some ((wrap64 ((wrap64 (bt a0 0)) - 1)), 0, t134, t135, t137))) else (some ((wrap64 ((wrap64 (bt a0 0)) - 1)), 0, t134, t135, false))) = some (r1, r2, r3, r4, r5) := H
           have A68 := Aside0.mk A680
           clear A680
           by_cases c69 : t136 = true
           ·
            subst c69
            have H1 : ((value_Right.f (wrap64 ((wrap64 (bt a0 0)) - 1)) 0 t134).bind fun t137 => (some ((wrap64 ((wrap64 (bt a0 0)) - 1)), 0, t134, t135, t137))) = some (r1, r2, r3, r4, r5) := by (first | rw [if_pos rfl] at H | rw [if_pos True.intro] at H | skip); exact H
            clear H
            have H := H1
            clear H1
            replace H := Option.bind_eq_some_iff.mp H
            obtain ⟨t137, A700, H⟩ := H
            replace H : (some ((wrap64 ((wrap64 (bt a0 0)) - 1)), 0, t134, t135, t137)) = some (r1, r2, r3, r4, r5) := H
            have A70 := Aside0.mk A700
            clear A700
            simp only [Option.some.injEq, Prod.mk.injEq] at H
            obtain ⟨rfl, rfl, rfl, rfl, rfl⟩ := H
            have hnb71 := NB130_129.out
            have hnc71 := NB129_130.out
            have hcz72_0 : wc.cell? ⟨gb130, 0, none⟩ = some (.int .i64 (wrap64 ((wrap64 (bt a0 0)) - 1))) := (blk_cell BK130.out 0).trans rfl
            have hcz72_1 : wc.cell? ⟨gb130, 1, none⟩ = some (.int .i64 0) := (blk_cell BK130.out 1).trans rfl
            have hcz72_2 : wc.cell? ⟨gb130, 2, none⟩ = some (.string (⟨#[]⟩ : ByteArray)) := (blk_cell BK130.out 2).trans rfl
            have hfz72_0 := blk_frozen BK130.out 0
            have hfz72_1 := blk_frozen BK130.out 1
            have hfz72_2 := blk_frozen BK130.out 2
            try go_wp2_with (first | ((with_reducible refine gate_callee (f := 31) rfl ?_); refine goesL_ (some 67) rfl rfl Tryd.func31 (by kernel_rfl) rfl #[.string (a0.extract 1 a0.size)] rfl (by (try simp only [List.map_toArray, List.map_cons, List.map_nil]); first | done | rfl | (simp only [List.length_drop, List.length_take]; rfl)) ?_; (with_reducible refine (key_text.calls (a0.extract 1 a0.size) t134 t135 true _ A68.out).mono ?_); rintro e w73 ⟨rfl, hb⟩; refine ⟨_, rfl, ?_⟩; have n0_ := Aside0.mk (blk_below (g := gb129) (o := .cells #[.int .i64 0, .int .i64 0, .string (⟨#[]⟩ : ByteArray)] 25 (0, 0)) (by (with_reducible repeat (first | refine blk_drewN ?_ _ | refine blk_drew ?_ | refine blk_alloc ?_ _)); exact BK129.out) hb); have n1_ := Aside0.mk (blk_below (g := gb130) (o := .cells #[.int .i64 (wrap64 ((wrap64 (bt a0 0)) - 1)), .int .i64 0, .string (⟨#[]⟩ : ByteArray)] 25 (0, 0)) (by (with_reducible repeat (first | refine blk_drewN ?_ _ | refine blk_drew ?_ | refine blk_alloc ?_ _)); exact BK130.out) hb); have n2_ := Aside0.mk (below_step (by repeat (first | (with_reducible first | exact HB.out | apply below_alloc | apply pw_below_drewN | apply below_drew1 | refine below_set ?_ GE129.out | refine below_set ?_ GE130.out) | exact HB.out)) hb); clear BK129; clear BK130; clear HB; have BK129 := n0_; have BK130 := n1_; have HB := n2_; clear n0_ n1_ n2_; (try clear hb); (try clear hb2); (try clear hk); (try clear hi); have hcz74_0 : w73.cell? ⟨gb130, 0, none⟩ = some (.int .i64 (wrap64 ((wrap64 (bt a0 0)) - 1))) := (blk_cell BK130.out 0).trans rfl; have hcz74_1 : w73.cell? ⟨gb130, 1, none⟩ = some (.int .i64 0) := (blk_cell BK130.out 1).trans rfl; have hcz74_2 : w73.cell? ⟨gb130, 2, none⟩ = some (.string (⟨#[]⟩ : ByteArray)) := (blk_cell BK130.out 2).trans rfl; have hfz74_0 := blk_frozen BK130.out 0; have hfz74_1 := blk_frozen BK130.out 1; have hfz74_2 := blk_frozen BK130.out 2))
            have n0_ : Aside0 ((w73.setCell ⟨gb130, 2, none⟩ (.string t134)).heap[gb129]? = some (.cells #[.int .i64 0, .int .i64 0, .string (⟨#[]⟩ : ByteArray)] 25 (0, 0))) := ⟨by (with_reducible repeat (first | refine blk_drewN ?_ _ | refine blk_drew ?_ | refine blk_alloc ?_ _)); refine blk_far ?_ NB129_130.out _; (with_reducible repeat (first | refine blk_drewN ?_ _ | refine blk_drew ?_ | refine blk_alloc ?_ _)); exact BK129.out⟩
            have n1_ : Aside0 ((w73.setCell ⟨gb130, 2, none⟩ (.string t134)).heap[gb130]? = some (.cells #[.int .i64 (wrap64 ((wrap64 (bt a0 0)) - 1)), .int .i64 0, .string t134] 25 (0, 0))) := ⟨by (with_reducible repeat (first | refine blk_drewN ?_ _ | refine blk_drew ?_ | refine blk_alloc ?_ _)); refine blk_put (cs := #[.int .i64 (wrap64 ((wrap64 (bt a0 0)) - 1)), .int .i64 0, .string (⟨#[]⟩ : ByteArray)]) ?_ 2 _ rfl; (with_reducible repeat (first | refine blk_drewN ?_ _ | refine blk_drew ?_ | refine blk_alloc ?_ _)); exact BK130.out⟩
            have n2_ : Aside0 (Below w.heap.size w (w73.setCell ⟨gb130, 2, none⟩ (.string t134))) := ⟨by repeat (first | (with_reducible first | exact HB.out | apply below_alloc | apply pw_below_drewN | apply below_drew1 | refine below_set ?_ GE129.out | refine below_set ?_ GE130.out) | exact HB.out)⟩
            (try clear BK129)
            (try clear BK130)
            (try clear HB)
            generalize (w73.setCell ⟨gb130, 2, none⟩ (.string t134)) = w75 at n0_ n1_ n2_ ⊢
            have BK129 := n0_
            have BK130 := n1_
            have HB := n2_
            clear n0_ n1_ n2_
            have n0_ := Aside0.mk (blk_drew BK129.out)
            have n1_ := Aside0.mk (blk_drew BK130.out)
            have n2_ := Aside0.mk (below_drew1 HB.out)
            clear BK129
            clear BK130
            clear HB
            have BK129 := n0_
            have BK130 := n1_
            have HB := n2_
            clear n0_ n1_ n2_
            refine start_ (n := 10) (S := fun w' => w'.cell? ⟨gb130, 0, none⟩ = some (.int .i64 (wrap64 ((wrap64 (bt a0 0)) - 1))) ∧ w'.cell? ⟨gb130, 1, none⟩ = some (.int .i64 0) ∧ w'.cell? ⟨gb130, 2, none⟩ = some (.string t134)) (ds := []) #[false, false, false, false, false, false, false, false, false, false] (by kernel_rfl) rfl rfl ⟨(blk_cell BK130.out 0).trans rfl, (blk_cell BK130.out 1).trans rfl, (blk_cell BK130.out 2).trans rfl⟩ (fun hHeld => ?_); refine with_tabW key_first.tab20 key_first.bits20 (fun HT_ HW_ => ?_)
            generalize w75.drew = w76 at BK129 BK130 HB hHeld ⊢
            refine pure_ (i := 1) (N := some 73) (v := ?_) (a' := ?_) #[false, true, false, false, false, false, false, false, false, false] rfl rfl (any_of HT_.out (by kernel_rfl)) (fun _ _ _ h => h) (Or.inl ⟨by rfl, ?_⟩) ?_ ?_
            rotate_left; focus (intro w'; go_simp; with_reducible rfl; done)
            rotate_left; focus (simp only [Act.put, List.setIfInBounds_toArray, List.set_cons_zero, List.set_cons_succ, i64_w, i32_w, u8_w, u32_w]; rfl; done)
            refine pure_ (i := 2) (N := some 74) (v := ?_) (a' := ?_) #[false, true, true, false, false, false, false, false, false, false] rfl rfl (any_of HT_.out (by kernel_rfl)) (fun _ _ _ h => h) (Or.inl ⟨by rfl, ?_⟩) ?_ ?_
            rotate_left; focus (intro w'; go_simp; with_reducible rfl; done)
            rotate_left; focus (simp only [Act.put, List.setIfInBounds_toArray, List.set_cons_zero, List.set_cons_succ, i64_w, i32_w, u8_w, u32_w]; rfl; done)
            refine pure_ (i := 3) (N := some 75) (v := ?_) (a' := ?_) #[false, true, true, true, false, false, false, false, false, false] rfl rfl (any_of HT_.out (by kernel_rfl)) (fun _ _ _ h => h) (Or.inl ⟨by rfl, ?_⟩) ?_ ?_
            rotate_left; focus (intro w'; go_simp; with_reducible rfl; done)
            rotate_left; focus (simp only [Act.put, List.setIfInBounds_toArray, List.set_cons_zero, List.set_cons_succ, i64_w, i32_w, u8_w, u32_w]; rfl; done)
            refine take_ (i := 0) (N := some 72) (v := ?_) (a' := ?_) #[true, true, true, true, false, false, false, false, false, false] rfl rfl (take_ofW HT_.out HW_.out (by kernel_rfl)) (fun _ _ _ h => h) (Or.inl ⟨by rfl, ?_⟩) hHeld ?_ ?_
            rotate_left; focus (rintro w' ⟨s0, s1, s2⟩; go_simp; with_reducible rfl; done)
            rotate_left; focus (simp only [Act.put, List.setIfInBounds_toArray, List.set_cons_zero, List.set_cons_succ, i64_w, i32_w, u8_w, u32_w]; rfl; done)
            refine take_ (i := 4) (N := some 76) (v := ?_) (a' := ?_) #[true, true, true, true, true, false, false, false, false, false] rfl rfl (take_ofW HT_.out HW_.out (by kernel_rfl)) (fun _ _ _ h => h) (Or.inl ⟨by rfl, ?_⟩) hHeld ?_ ?_
            rotate_left; focus (rintro w' ⟨s0, s1, s2⟩; go_simp; with_reducible rfl; done)
            rotate_left; focus (simp only [Act.put, List.setIfInBounds_toArray, List.set_cons_zero, List.set_cons_succ, i64_w, i32_w, u8_w, u32_w]; rfl; done)
            refine one_ (i := 5) (N := some 77) #[true, true, true, true, true, true, false, false, false, false] rfl rfl (one_of HT_.out (by kernel_rfl)) (by decide) (fun K hK => ?_)
            refine goes_ Tryd.func21 (by kernel_rfl) rfl #[.agg #[.int .i64 (wrap64 ((wrap64 (bt a0 0)) - 1)), .int .i64 0, .string t134]] (by rfl) rfl rfl (by (try simp only [List.map_toArray, List.map_cons, List.map_nil]); first | done | rfl | (simp only [List.length_drop, List.length_take]; rfl)) ?_
            with_reducible refine (value_Right.calls (wrap64 ((wrap64 (bt a0 0)) - 1)) 0 t134 t137 _ A70.out).mono ?_
            rintro e w77 ⟨rfl, hb⟩
            refine ⟨_, rfl, ?_⟩
            have n0_ := Aside0.mk (blk_below (g := gb129) (o := .cells #[.int .i64 0, .int .i64 0, .string (⟨#[]⟩ : ByteArray)] 25 (0, 0)) (by (with_reducible repeat (first | refine blk_drewN ?_ _ | refine blk_drew ?_ | refine blk_alloc ?_ _)); exact BK129.out) hb)
            have n1_ := Aside0.mk (blk_below (g := gb130) (o := .cells #[.int .i64 (wrap64 ((wrap64 (bt a0 0)) - 1)), .int .i64 0, .string t134] 25 (0, 0)) (by (with_reducible repeat (first | refine blk_drewN ?_ _ | refine blk_drew ?_ | refine blk_alloc ?_ _)); exact BK130.out) hb)
            have n2_ := Aside0.mk (below_step (by repeat (first | (with_reducible first | exact HB.out | apply below_alloc | apply pw_below_drewN | apply below_drew1 | refine below_set ?_ GE129.out | refine below_set ?_ GE130.out) | exact HB.out)) hb)
            clear BK129
            clear BK130
            clear HB
            have BK129 := n0_
            have BK130 := n1_
            have HB := n2_
            clear n0_ n1_ n2_
            (try clear hb)
            (try clear hb2)
            (try clear hk)
            (try clear hi)
            refine hK.out _ _ ⟨(blk_cell BK130.out 0).trans rfl, (blk_cell BK130.out 1).trans rfl, (blk_cell BK130.out 2).trans rfl⟩ (fun hHeld => ?_)
            clear hK K
            refine norm_ (a' := ?_) ?_ ?_
            rotate_left; focus (show Act.put _ (some 77) _ = _; simp only [Act.put, List.setIfInBounds_toArray, List.set_cons_zero, List.set_cons_succ, i64_w, i32_w, u8_w, u32_w]; rfl; done)
            refine pure_ (i := 6) (N := some 78) (v := ?_) (a' := ?_) #[true, true, true, true, true, true, true, false, false, false] rfl rfl (any_of HT_.out (by kernel_rfl)) (fun _ _ _ h => h) (Or.inl ⟨by rfl, ?_⟩) ?_ ?_
            rotate_left; focus (intro w'; go_simp; with_reducible rfl; done)
            rotate_left; focus (simp only [Act.put, List.setIfInBounds_toArray, List.set_cons_zero, List.set_cons_succ, i64_w, i32_w, u8_w, u32_w]; rfl; done)
            refine one_ (i := 7) (N := none) #[true, true, true, true, true, true, true, true, false, false] rfl rfl (one_of HT_.out (by kernel_rfl)) (by decide) (fun K hK => ?_)
            have hs78 : w77.cell? ⟨gb129, 0, none⟩ = some (.int .i64 0) := (blk_cell BK129.out 0).trans rfl
            have hfs78 := blk_frozen BK129.out 0
            have hns78_1 := NB130_129.out
            have hms78_1 := NB129_130.out
            have hs79 : w77.cell? ⟨gb129, 1, none⟩ = some (.int .i64 0) := (blk_cell BK129.out 1).trans rfl
            have hfs79 := blk_frozen BK129.out 1
            have hns79_1 := NB130_129.out
            have hms79_1 := NB129_130.out
            have hs80 : w77.cell? ⟨gb129, 2, none⟩ = some (.string (⟨#[]⟩ : ByteArray)) := (blk_cell BK129.out 2).trans rfl
            have hfs80 := blk_frozen BK129.out 2
            have hns80_1 := NB130_129.out
            have hms80_1 := NB129_130.out
            refine skip_ (w1 := ?_) (by rfl) rfl ?_ ?_
            rotate_left; focus (go_simp; rfl; done)
            refine hK.out _ _ ⟨((cell_far (p := ⟨gb129, _, none⟩) NB130_129.out _).trans (((cell_far (p := ⟨gb129, _, none⟩) NB130_129.out _).trans (((cell_far (p := ⟨gb129, _, none⟩) NB130_129.out _).trans (hHeld.1)))))), ((cell_far (p := ⟨gb129, _, none⟩) NB130_129.out _).trans (((cell_far (p := ⟨gb129, _, none⟩) NB130_129.out _).trans (((cell_far (p := ⟨gb129, _, none⟩) NB130_129.out _).trans (hHeld.2.1)))))), ((cell_far (p := ⟨gb129, _, none⟩) NB130_129.out _).trans (((cell_far (p := ⟨gb129, _, none⟩) NB130_129.out _).trans (((cell_far (p := ⟨gb129, _, none⟩) NB130_129.out _).trans (hHeld.2.2))))))⟩ (fun hHeld => ?_)
            clear hK K
            refine pure_ (i := 8) (N := some 3) (v := ?_) (a' := ?_) #[true, true, true, true, true, true, true, true, true, false] rfl rfl (any_of HT_.out (by kernel_rfl)) (fun _ _ _ h => h) (Or.inl ⟨by rfl, ?_⟩) ?_ ?_
            rotate_left; focus (intro w'; go_simp; with_reducible rfl; done)
            rotate_left; focus (simp only [Act.put, List.setIfInBounds_toArray, List.set_cons_zero, List.set_cons_succ, i64_w, i32_w, u8_w, u32_w]; rfl; done)
            refine pure_ (i := 9) (N := some 4) (v := ?_) (a' := ?_) #[true, true, true, true, true, true, true, true, true, true] rfl rfl (any_of HT_.out (by kernel_rfl)) (fun _ _ _ h => h) (Or.inl ⟨by rfl, ?_⟩) ?_ ?_
            rotate_left; focus (intro w'; go_simp; with_reducible rfl; done)
            rotate_left; focus (simp only [Act.put, List.setIfInBounds_toArray, List.set_cons_zero, List.set_cons_succ, i64_w, i32_w, u8_w, u32_w]; rfl; done)
            refine done_ (done_of HT_.out (by kernel_rfl)) ?_
            have n0_ : Aside0 ((((w77.setCell ⟨gb129, 0, none⟩ (.int .i64 (wrap64 ((wrap64 (bt a0 0)) - 1)))).setCell ⟨gb129, 1, none⟩ (.int .i64 0)).setCell ⟨gb129, 2, none⟩ (.string t134)).heap[gb129]? = some (.cells #[.int .i64 (wrap64 ((wrap64 (bt a0 0)) - 1)), .int .i64 0, .string t134] 25 (0, 0))) := ⟨by (with_reducible repeat (first | refine blk_drewN ?_ _ | refine blk_drew ?_ | refine blk_alloc ?_ _)); refine blk_put (cs := #[.int .i64 (wrap64 ((wrap64 (bt a0 0)) - 1)), .int .i64 0, .string (⟨#[]⟩ : ByteArray)]) ?_ 2 _ rfl; (with_reducible repeat (first | refine blk_drewN ?_ _ | refine blk_drew ?_ | refine blk_alloc ?_ _)); refine blk_put (cs := #[.int .i64 (wrap64 ((wrap64 (bt a0 0)) - 1)), .int .i64 0, .string (⟨#[]⟩ : ByteArray)]) ?_ 1 _ rfl; (with_reducible repeat (first | refine blk_drewN ?_ _ | refine blk_drew ?_ | refine blk_alloc ?_ _)); refine blk_put (cs := #[.int .i64 0, .int .i64 0, .string (⟨#[]⟩ : ByteArray)]) ?_ 0 _ rfl; (with_reducible repeat (first | refine blk_drewN ?_ _ | refine blk_drew ?_ | refine blk_alloc ?_ _)); exact BK129.out⟩
            have n1_ : Aside0 ((((w77.setCell ⟨gb129, 0, none⟩ (.int .i64 (wrap64 ((wrap64 (bt a0 0)) - 1)))).setCell ⟨gb129, 1, none⟩ (.int .i64 0)).setCell ⟨gb129, 2, none⟩ (.string t134)).heap[gb130]? = some (.cells #[.int .i64 (wrap64 ((wrap64 (bt a0 0)) - 1)), .int .i64 0, .string t134] 25 (0, 0))) := ⟨by (with_reducible repeat (first | refine blk_drewN ?_ _ | refine blk_drew ?_ | refine blk_alloc ?_ _)); refine blk_far ?_ NB130_129.out _; (with_reducible repeat (first | refine blk_drewN ?_ _ | refine blk_drew ?_ | refine blk_alloc ?_ _)); refine blk_far ?_ NB130_129.out _; (with_reducible repeat (first | refine blk_drewN ?_ _ | refine blk_drew ?_ | refine blk_alloc ?_ _)); refine blk_far ?_ NB130_129.out _; (with_reducible repeat (first | refine blk_drewN ?_ _ | refine blk_drew ?_ | refine blk_alloc ?_ _)); exact BK130.out⟩
            have n2_ : Aside0 (Below w.heap.size w (((w77.setCell ⟨gb129, 0, none⟩ (.int .i64 (wrap64 ((wrap64 (bt a0 0)) - 1)))).setCell ⟨gb129, 1, none⟩ (.int .i64 0)).setCell ⟨gb129, 2, none⟩ (.string t134))) := ⟨by repeat (first | (with_reducible first | exact HB.out | apply below_alloc | apply pw_below_drewN | apply below_drew1 | refine below_set ?_ GE129.out | refine below_set ?_ GE130.out) | exact HB.out)⟩
            (try clear BK129)
            (try clear BK130)
            (try clear HB)
            generalize (((w77.setCell ⟨gb129, 0, none⟩ (.int .i64 (wrap64 ((wrap64 (bt a0 0)) - 1)))).setCell ⟨gb129, 1, none⟩ (.int .i64 0)).setCell ⟨gb129, 2, none⟩ (.string t134)) = w81 at n0_ n1_ n2_ ⊢
            have BK129 := n0_
            have BK130 := n1_
            have HB := n2_
            clear n0_ n1_ n2_
            try go_wp2
            refine bodyPost_ret (results_ctt rfl _ _ gb129 25 #[.int .i64 (wrap64 ((wrap64 (bt a0 0)) - 1)), .int .i64 0, .string t134] (0, 0) _ rfl (by (with_reducible repeat (first | refine blk_drewN ?_ _ | refine blk_drew ?_ | refine blk_alloc ?_ _)); exact BK129.out) Tryd.underlying25 rfl (by kernel_rfl)) rfl ?_
            exact ⟨by first | (simp only [ByteArray.size_extract, Nat.min_self]; rfl) | rfl | (simp [errW_none, errW_some] <;> rfl) | (simp [*, errW_none, errW_some] <;> rfl), by repeat (first | (with_reducible first | exact HB.out | apply below_alloc | apply pw_below_drewN | apply below_drew1 | refine below_set ?_ GE129.out | refine below_set ?_ GE130.out) | exact HB.out)⟩
           ·
            replace c69 := Bool.eq_false_iff.mpr c69
            subst c69
            have H1 : (some ((wrap64 ((wrap64 (bt a0 0)) - 1)), 0, t134, t135, false)) = some (r1, r2, r3, r4, r5) := by rw [if_neg (show ¬ (false = true) by decide)] at H; exact H
            clear H
            have H := H1
            clear H1
            simp only [Option.some.injEq, Prod.mk.injEq] at H
            obtain ⟨rfl, rfl, rfl, rfl, rfl⟩ := H
            have hnb82 := NB130_129.out
            have hnc82 := NB129_130.out
            have hcz83_0 : wc.cell? ⟨gb130, 0, none⟩ = some (.int .i64 (wrap64 ((wrap64 (bt a0 0)) - 1))) := (blk_cell BK130.out 0).trans rfl
            have hcz83_1 : wc.cell? ⟨gb130, 1, none⟩ = some (.int .i64 0) := (blk_cell BK130.out 1).trans rfl
            have hcz83_2 : wc.cell? ⟨gb130, 2, none⟩ = some (.string (⟨#[]⟩ : ByteArray)) := (blk_cell BK130.out 2).trans rfl
            have hfz83_0 := blk_frozen BK130.out 0
            have hfz83_1 := blk_frozen BK130.out 1
            have hfz83_2 := blk_frozen BK130.out 2
            try go_wp2_with (first | ((with_reducible refine gate_callee (f := 31) rfl ?_); refine goesL_ (some 67) rfl rfl Tryd.func31 (by kernel_rfl) rfl #[.string (a0.extract 1 a0.size)] rfl (by (try simp only [List.map_toArray, List.map_cons, List.map_nil]); first | done | rfl | (simp only [List.length_drop, List.length_take]; rfl)) ?_; (with_reducible refine (key_text.calls (a0.extract 1 a0.size) t134 t135 false _ A68.out).mono ?_); rintro e w84 ⟨rfl, hb⟩; refine ⟨_, rfl, ?_⟩; have n0_ := Aside0.mk (blk_below (g := gb129) (o := .cells #[.int .i64 0, .int .i64 0, .string (⟨#[]⟩ : ByteArray)] 25 (0, 0)) (by (with_reducible repeat (first | refine blk_drewN ?_ _ | refine blk_drew ?_ | refine blk_alloc ?_ _)); exact BK129.out) hb); have n1_ := Aside0.mk (blk_below (g := gb130) (o := .cells #[.int .i64 (wrap64 ((wrap64 (bt a0 0)) - 1)), .int .i64 0, .string (⟨#[]⟩ : ByteArray)] 25 (0, 0)) (by (with_reducible repeat (first | refine blk_drewN ?_ _ | refine blk_drew ?_ | refine blk_alloc ?_ _)); exact BK130.out) hb); have n2_ := Aside0.mk (below_step (by repeat (first | (with_reducible first | exact HB.out | apply below_alloc | apply pw_below_drewN | apply below_drew1 | refine below_set ?_ GE129.out | refine below_set ?_ GE130.out) | exact HB.out)) hb); clear BK129; clear BK130; clear HB; have BK129 := n0_; have BK130 := n1_; have HB := n2_; clear n0_ n1_ n2_; (try clear hb); (try clear hb2); (try clear hk); (try clear hi); have hcz85_0 : w84.cell? ⟨gb130, 0, none⟩ = some (.int .i64 (wrap64 ((wrap64 (bt a0 0)) - 1))) := (blk_cell BK130.out 0).trans rfl; have hcz85_1 : w84.cell? ⟨gb130, 1, none⟩ = some (.int .i64 0) := (blk_cell BK130.out 1).trans rfl; have hcz85_2 : w84.cell? ⟨gb130, 2, none⟩ = some (.string (⟨#[]⟩ : ByteArray)) := (blk_cell BK130.out 2).trans rfl; have hfz85_0 := blk_frozen BK130.out 0; have hfz85_1 := blk_frozen BK130.out 1; have hfz85_2 := blk_frozen BK130.out 2))
            have n0_ : Aside0 ((w84.setCell ⟨gb130, 2, none⟩ (.string t134)).heap[gb129]? = some (.cells #[.int .i64 0, .int .i64 0, .string (⟨#[]⟩ : ByteArray)] 25 (0, 0))) := ⟨by (with_reducible repeat (first | refine blk_drewN ?_ _ | refine blk_drew ?_ | refine blk_alloc ?_ _)); refine blk_far ?_ NB129_130.out _; (with_reducible repeat (first | refine blk_drewN ?_ _ | refine blk_drew ?_ | refine blk_alloc ?_ _)); exact BK129.out⟩
            have n1_ : Aside0 ((w84.setCell ⟨gb130, 2, none⟩ (.string t134)).heap[gb130]? = some (.cells #[.int .i64 (wrap64 ((wrap64 (bt a0 0)) - 1)), .int .i64 0, .string t134] 25 (0, 0))) := ⟨by (with_reducible repeat (first | refine blk_drewN ?_ _ | refine blk_drew ?_ | refine blk_alloc ?_ _)); refine blk_put (cs := #[.int .i64 (wrap64 ((wrap64 (bt a0 0)) - 1)), .int .i64 0, .string (⟨#[]⟩ : ByteArray)]) ?_ 2 _ rfl; (with_reducible repeat (first | refine blk_drewN ?_ _ | refine blk_drew ?_ | refine blk_alloc ?_ _)); exact BK130.out⟩
            have n2_ : Aside0 (Below w.heap.size w (w84.setCell ⟨gb130, 2, none⟩ (.string t134))) := ⟨by repeat (first | (with_reducible first | exact HB.out | apply below_alloc | apply pw_below_drewN | apply below_drew1 | refine below_set ?_ GE129.out | refine below_set ?_ GE130.out) | exact HB.out)⟩
            (try clear BK129)
            (try clear BK130)
            (try clear HB)
            generalize (w84.setCell ⟨gb130, 2, none⟩ (.string t134)) = w86 at n0_ n1_ n2_ ⊢
            have BK129 := n0_
            have BK130 := n1_
            have HB := n2_
            clear n0_ n1_ n2_
            have n0_ := Aside0.mk (blk_drew BK129.out)
            have n1_ := Aside0.mk (blk_drew BK130.out)
            have n2_ := Aside0.mk (below_drew1 HB.out)
            clear BK129
            clear BK130
            clear HB
            have BK129 := n0_
            have BK130 := n1_
            have HB := n2_
            clear n0_ n1_ n2_
            refine start_ (n := 10) (S := fun w' => w'.cell? ⟨gb130, 0, none⟩ = some (.int .i64 (wrap64 ((wrap64 (bt a0 0)) - 1))) ∧ w'.cell? ⟨gb130, 1, none⟩ = some (.int .i64 0) ∧ w'.cell? ⟨gb130, 2, none⟩ = some (.string t134)) (ds := []) #[false, false, false, false, false, false, false, false, false, false] (by kernel_rfl) rfl rfl ⟨(blk_cell BK130.out 0).trans rfl, (blk_cell BK130.out 1).trans rfl, (blk_cell BK130.out 2).trans rfl⟩ (fun hHeld => ?_); refine with_tabW key_first.tab20 key_first.bits20 (fun HT_ HW_ => ?_)
            generalize w86.drew = w87 at BK129 BK130 HB hHeld ⊢
            refine pure_ (i := 1) (N := some 73) (v := ?_) (a' := ?_) #[false, true, false, false, false, false, false, false, false, false] rfl rfl (any_of HT_.out (by kernel_rfl)) (fun _ _ _ h => h) (Or.inl ⟨by rfl, ?_⟩) ?_ ?_
            rotate_left; focus (intro w'; go_simp; with_reducible rfl; done)
            rotate_left; focus (simp only [Act.put, List.setIfInBounds_toArray, List.set_cons_zero, List.set_cons_succ, i64_w, i32_w, u8_w, u32_w]; rfl; done)
            refine pure_ (i := 2) (N := some 74) (v := ?_) (a' := ?_) #[false, true, true, false, false, false, false, false, false, false] rfl rfl (any_of HT_.out (by kernel_rfl)) (fun _ _ _ h => h) (Or.inl ⟨by rfl, ?_⟩) ?_ ?_
            rotate_left; focus (intro w'; go_simp; with_reducible rfl; done)
            rotate_left; focus (simp only [Act.put, List.setIfInBounds_toArray, List.set_cons_zero, List.set_cons_succ, i64_w, i32_w, u8_w, u32_w]; rfl; done)
            refine pure_ (i := 3) (N := some 75) (v := ?_) (a' := ?_) #[false, true, true, true, false, false, false, false, false, false] rfl rfl (any_of HT_.out (by kernel_rfl)) (fun _ _ _ h => h) (Or.inl ⟨by rfl, ?_⟩) ?_ ?_
            rotate_left; focus (intro w'; go_simp; with_reducible rfl; done)
            rotate_left; focus (simp only [Act.put, List.setIfInBounds_toArray, List.set_cons_zero, List.set_cons_succ, i64_w, i32_w, u8_w, u32_w]; rfl; done)
            refine pure_ (i := 4) (N := some 76) (v := undef) (a' := ?_) #[false, true, true, true, true, false, false, false, false, false] rfl rfl (any_of HT_.out (by kernel_rfl)) (fun _ _ _ h => h) (Or.inr ⟨by rfl, rfl⟩) ?_ ?_
            rotate_left; focus (simp only [Act.put, List.setIfInBounds_toArray, List.set_cons_zero, List.set_cons_succ, i64_w, i32_w, u8_w, u32_w]; rfl; done)
            refine pure_ (i := 5) (N := some 77) (v := undef) (a' := ?_) #[false, true, true, true, true, true, false, false, false, false] rfl rfl (any_of HT_.out (by kernel_rfl)) (fun _ _ _ h => h) (Or.inr ⟨by rfl, rfl⟩) ?_ ?_
            rotate_left; focus (simp only [Act.put, List.setIfInBounds_toArray, List.set_cons_zero, List.set_cons_succ, i64_w, i32_w, u8_w, u32_w]; rfl; done)
            refine pure_ (i := 6) (N := some 78) (v := ?_) (a' := ?_) #[false, true, true, true, true, true, true, false, false, false] rfl rfl (any_of HT_.out (by kernel_rfl)) (fun _ _ _ h => h) (Or.inl ⟨by rfl, ?_⟩) ?_ ?_
            rotate_left; focus (intro w'; go_simp; with_reducible rfl; done)
            rotate_left; focus (simp only [Act.put, List.setIfInBounds_toArray, List.set_cons_zero, List.set_cons_succ, i64_w, i32_w, u8_w, u32_w]; rfl; done)
            refine take_ (i := 0) (N := some 72) (v := ?_) (a' := ?_) #[true, true, true, true, true, true, true, false, false, false] rfl rfl (take_ofW HT_.out HW_.out (by kernel_rfl)) (fun _ _ _ h => h) (Or.inl ⟨by rfl, ?_⟩) hHeld ?_ ?_
            rotate_left; focus (rintro w' ⟨s0, s1, s2⟩; go_simp; with_reducible rfl; done)
            rotate_left; focus (simp only [Act.put, List.setIfInBounds_toArray, List.set_cons_zero, List.set_cons_succ, i64_w, i32_w, u8_w, u32_w]; rfl; done)
            refine one_ (i := 7) (N := none) #[true, true, true, true, true, true, true, true, false, false] rfl rfl (one_of HT_.out (by kernel_rfl)) (by decide) (fun K hK => ?_)
            have hs88 : w87.cell? ⟨gb129, 0, none⟩ = some (.int .i64 0) := (blk_cell BK129.out 0).trans rfl
            have hfs88 := blk_frozen BK129.out 0
            have hns88_1 := NB130_129.out
            have hms88_1 := NB129_130.out
            have hs89 : w87.cell? ⟨gb129, 1, none⟩ = some (.int .i64 0) := (blk_cell BK129.out 1).trans rfl
            have hfs89 := blk_frozen BK129.out 1
            have hns89_1 := NB130_129.out
            have hms89_1 := NB129_130.out
            have hs90 : w87.cell? ⟨gb129, 2, none⟩ = some (.string (⟨#[]⟩ : ByteArray)) := (blk_cell BK129.out 2).trans rfl
            have hfs90 := blk_frozen BK129.out 2
            have hns90_1 := NB130_129.out
            have hms90_1 := NB129_130.out
            refine skip_ (w1 := ?_) (by rfl) rfl ?_ ?_
            rotate_left; focus (go_simp; rfl; done)
            refine hK.out _ _ ⟨((cell_far (p := ⟨gb129, _, none⟩) NB130_129.out _).trans (((cell_far (p := ⟨gb129, _, none⟩) NB130_129.out _).trans (((cell_far (p := ⟨gb129, _, none⟩) NB130_129.out _).trans (hHeld.1)))))), ((cell_far (p := ⟨gb129, _, none⟩) NB130_129.out _).trans (((cell_far (p := ⟨gb129, _, none⟩) NB130_129.out _).trans (((cell_far (p := ⟨gb129, _, none⟩) NB130_129.out _).trans (hHeld.2.1)))))), ((cell_far (p := ⟨gb129, _, none⟩) NB130_129.out _).trans (((cell_far (p := ⟨gb129, _, none⟩) NB130_129.out _).trans (((cell_far (p := ⟨gb129, _, none⟩) NB130_129.out _).trans (hHeld.2.2))))))⟩ (fun hHeld => ?_)
            clear hK K
            refine pure_ (i := 8) (N := some 3) (v := ?_) (a' := ?_) #[true, true, true, true, true, true, true, true, true, false] rfl rfl (any_of HT_.out (by kernel_rfl)) (fun _ _ _ h => h) (Or.inl ⟨by rfl, ?_⟩) ?_ ?_
            rotate_left; focus (intro w'; go_simp; with_reducible rfl; done)
            rotate_left; focus (simp only [Act.put, List.setIfInBounds_toArray, List.set_cons_zero, List.set_cons_succ, i64_w, i32_w, u8_w, u32_w]; rfl; done)
            refine pure_ (i := 9) (N := some 4) (v := ?_) (a' := ?_) #[true, true, true, true, true, true, true, true, true, true] rfl rfl (any_of HT_.out (by kernel_rfl)) (fun _ _ _ h => h) (Or.inl ⟨by rfl, ?_⟩) ?_ ?_
            rotate_left; focus (intro w'; go_simp; with_reducible rfl; done)
            rotate_left; focus (simp only [Act.put, List.setIfInBounds_toArray, List.set_cons_zero, List.set_cons_succ, i64_w, i32_w, u8_w, u32_w]; rfl; done)
            refine done_ (done_of HT_.out (by kernel_rfl)) ?_
            have n0_ : Aside0 ((((w87.setCell ⟨gb129, 0, none⟩ (.int .i64 (wrap64 ((wrap64 (bt a0 0)) - 1)))).setCell ⟨gb129, 1, none⟩ (.int .i64 0)).setCell ⟨gb129, 2, none⟩ (.string t134)).heap[gb129]? = some (.cells #[.int .i64 (wrap64 ((wrap64 (bt a0 0)) - 1)), .int .i64 0, .string t134] 25 (0, 0))) := ⟨by (with_reducible repeat (first | refine blk_drewN ?_ _ | refine blk_drew ?_ | refine blk_alloc ?_ _)); refine blk_put (cs := #[.int .i64 (wrap64 ((wrap64 (bt a0 0)) - 1)), .int .i64 0, .string (⟨#[]⟩ : ByteArray)]) ?_ 2 _ rfl; (with_reducible repeat (first | refine blk_drewN ?_ _ | refine blk_drew ?_ | refine blk_alloc ?_ _)); refine blk_put (cs := #[.int .i64 (wrap64 ((wrap64 (bt a0 0)) - 1)), .int .i64 0, .string (⟨#[]⟩ : ByteArray)]) ?_ 1 _ rfl; (with_reducible repeat (first | refine blk_drewN ?_ _ | refine blk_drew ?_ | refine blk_alloc ?_ _)); refine blk_put (cs := #[.int .i64 0, .int .i64 0, .string (⟨#[]⟩ : ByteArray)]) ?_ 0 _ rfl; (with_reducible repeat (first | refine blk_drewN ?_ _ | refine blk_drew ?_ | refine blk_alloc ?_ _)); exact BK129.out⟩
            have n1_ : Aside0 ((((w87.setCell ⟨gb129, 0, none⟩ (.int .i64 (wrap64 ((wrap64 (bt a0 0)) - 1)))).setCell ⟨gb129, 1, none⟩ (.int .i64 0)).setCell ⟨gb129, 2, none⟩ (.string t134)).heap[gb130]? = some (.cells #[.int .i64 (wrap64 ((wrap64 (bt a0 0)) - 1)), .int .i64 0, .string t134] 25 (0, 0))) := ⟨by (with_reducible repeat (first | refine blk_drewN ?_ _ | refine blk_drew ?_ | refine blk_alloc ?_ _)); refine blk_far ?_ NB130_129.out _; (with_reducible repeat (first | refine blk_drewN ?_ _ | refine blk_drew ?_ | refine blk_alloc ?_ _)); refine blk_far ?_ NB130_129.out _; (with_reducible repeat (first | refine blk_drewN ?_ _ | refine blk_drew ?_ | refine blk_alloc ?_ _)); refine blk_far ?_ NB130_129.out _; (with_reducible repeat (first | refine blk_drewN ?_ _ | refine blk_drew ?_ | refine blk_alloc ?_ _)); exact BK130.out⟩
            have n2_ : Aside0 (Below w.heap.size w (((w87.setCell ⟨gb129, 0, none⟩ (.int .i64 (wrap64 ((wrap64 (bt a0 0)) - 1)))).setCell ⟨gb129, 1, none⟩ (.int .i64 0)).setCell ⟨gb129, 2, none⟩ (.string t134))) := ⟨by repeat (first | (with_reducible first | exact HB.out | apply below_alloc | apply pw_below_drewN | apply below_drew1 | refine below_set ?_ GE129.out | refine below_set ?_ GE130.out) | exact HB.out)⟩
            (try clear BK129)
            (try clear BK130)
            (try clear HB)
            generalize (((w87.setCell ⟨gb129, 0, none⟩ (.int .i64 (wrap64 ((wrap64 (bt a0 0)) - 1)))).setCell ⟨gb129, 1, none⟩ (.int .i64 0)).setCell ⟨gb129, 2, none⟩ (.string t134)) = w91 at n0_ n1_ n2_ ⊢
            have BK129 := n0_
            have BK130 := n1_
            have HB := n2_
            clear n0_ n1_ n2_
            try go_wp2
            refine bodyPost_ret (results_ctt rfl _ _ gb129 25 #[.int .i64 (wrap64 ((wrap64 (bt a0 0)) - 1)), .int .i64 0, .string t134] (0, 0) _ rfl (by (with_reducible repeat (first | refine blk_drewN ?_ _ | refine blk_drew ?_ | refine blk_alloc ?_ _)); exact BK129.out) Tryd.underlying25 rfl (by kernel_rfl)) rfl ?_
            exact ⟨by first | (simp only [ByteArray.size_extract, Nat.min_self]; rfl) | rfl | (simp [errW_none, errW_some] <;> rfl) | (simp [*, errW_none, errW_some] <;> rfl), by repeat (first | (with_reducible first | exact HB.out | apply below_alloc | apply pw_below_drewN | apply below_drew1 | refine below_set ?_ GE129.out | refine below_set ?_ GE130.out) | exact HB.out)⟩
          ·
           rw [if_neg c67] at H
           have c67b0 : ((wrap64 ((wrap64 (bt a0 0)) - 1)) == 3) = false := beq_eq_false_iff_ne.mpr c67
           have c67b1 : ((wrap64 ((wrap64 (bt a0 0)) - 1)) != 3) = true := bne_iff_ne.mpr c67
           simp only [Option.some.injEq, Prod.mk.injEq] at H
           obtain ⟨rfl, rfl, rfl, rfl, rfl⟩ := H
           have hnb92 := NB130_129.out
           have hnc92 := NB129_130.out
           have hcz93_0 : wc.cell? ⟨gb130, 0, none⟩ = some (.int .i64 (wrap64 ((wrap64 (bt a0 0)) - 1))) := (blk_cell BK130.out 0).trans rfl
           have hcz93_1 : wc.cell? ⟨gb130, 1, none⟩ = some (.int .i64 0) := (blk_cell BK130.out 1).trans rfl
           have hcz93_2 : wc.cell? ⟨gb130, 2, none⟩ = some (.string (⟨#[]⟩ : ByteArray)) := (blk_cell BK130.out 2).trans rfl
           have hfz93_0 := blk_frozen BK130.out 0
           have hfz93_1 := blk_frozen BK130.out 1
           have hfz93_2 := blk_frozen BK130.out 2
           try go_wp2
           have n0_ := Aside0.mk (blk_drew BK129.out)
           have n1_ := Aside0.mk (blk_drew BK130.out)
           have n2_ := Aside0.mk (below_drew1 HB.out)
           clear BK129
           clear BK130
           clear HB
           have BK129 := n0_
           have BK130 := n1_
           have HB := n2_
           clear n0_ n1_ n2_
           refine start_ (n := 10) (S := fun w' => w'.cell? ⟨gb130, 0, none⟩ = some (.int .i64 (wrap64 ((wrap64 (bt a0 0)) - 1))) ∧ w'.cell? ⟨gb130, 1, none⟩ = some (.int .i64 0) ∧ w'.cell? ⟨gb130, 2, none⟩ = some (.string (⟨#[]⟩ : ByteArray))) (ds := []) #[false, false, false, false, false, false, false, false, false, false] (by kernel_rfl) rfl rfl ⟨(blk_cell BK130.out 0).trans rfl, (blk_cell BK130.out 1).trans rfl, (blk_cell BK130.out 2).trans rfl⟩ (fun hHeld => ?_); refine with_tabW key_first.tab20 key_first.bits20 (fun HT_ HW_ => ?_)
           generalize wc.drew = w94 at BK129 BK130 HB hHeld ⊢
           refine pure_ (i := 1) (N := some 73) (v := ?_) (a' := ?_) #[false, true, false, false, false, false, false, false, false, false] rfl rfl (any_of HT_.out (by kernel_rfl)) (fun _ _ _ h => h) (Or.inl ⟨by rfl, ?_⟩) ?_ ?_
           rotate_left; focus (intro w'; go_simp; with_reducible rfl; done)
           rotate_left; focus (simp only [Act.put, List.setIfInBounds_toArray, List.set_cons_zero, List.set_cons_succ, i64_w, i32_w, u8_w, u32_w]; rfl; done)
           refine pure_ (i := 2) (N := some 74) (v := ?_) (a' := ?_) #[false, true, true, false, false, false, false, false, false, false] rfl rfl (any_of HT_.out (by kernel_rfl)) (fun _ _ _ h => h) (Or.inl ⟨by rfl, ?_⟩) ?_ ?_
           rotate_left; focus (intro w'; go_simp; with_reducible rfl; done)
           rotate_left; focus (simp only [Act.put, List.setIfInBounds_toArray, List.set_cons_zero, List.set_cons_succ, i64_w, i32_w, u8_w, u32_w]; rfl; done)
           refine pure_ (i := 3) (N := some 75) (v := ?_) (a' := ?_) #[false, true, true, true, false, false, false, false, false, false] rfl rfl (any_of HT_.out (by kernel_rfl)) (fun _ _ _ h => h) (Or.inl ⟨by rfl, ?_⟩) ?_ ?_
           rotate_left; focus (intro w'; go_simp; with_reducible rfl; done)
           rotate_left; focus (simp only [Act.put, List.setIfInBounds_toArray, List.set_cons_zero, List.set_cons_succ, i64_w, i32_w, u8_w, u32_w]; rfl; done)
           refine pure_ (i := 4) (N := some 76) (v := undef) (a' := ?_) #[false, true, true, true, true, false, false, false, false, false] rfl rfl (any_of HT_.out (by kernel_rfl)) (fun _ _ _ h => h) (Or.inr ⟨by rfl, rfl⟩) ?_ ?_
           rotate_left; focus (simp only [Act.put, List.setIfInBounds_toArray, List.set_cons_zero, List.set_cons_succ, i64_w, i32_w, u8_w, u32_w]; rfl; done)
           refine pure_ (i := 5) (N := some 77) (v := undef) (a' := ?_) #[false, true, true, true, true, true, false, false, false, false] rfl rfl (any_of HT_.out (by kernel_rfl)) (fun _ _ _ h => h) (Or.inr ⟨by rfl, rfl⟩) ?_ ?_
           rotate_left; focus (simp only [Act.put, List.setIfInBounds_toArray, List.set_cons_zero, List.set_cons_succ, i64_w, i32_w, u8_w, u32_w]; rfl; done)
           refine pure_ (i := 6) (N := some 78) (v := ?_) (a' := ?_) #[false, true, true, true, true, true, true, false, false, false] rfl rfl (any_of HT_.out (by kernel_rfl)) (fun _ _ _ h => h) (Or.inl ⟨by rfl, ?_⟩) ?_ ?_
           rotate_left; focus (intro w'; go_simp; with_reducible rfl; done)
           rotate_left; focus (simp only [Act.put, List.setIfInBounds_toArray, List.set_cons_zero, List.set_cons_succ, i64_w, i32_w, u8_w, u32_w]; rfl; done)
           refine take_ (i := 0) (N := some 72) (v := ?_) (a' := ?_) #[true, true, true, true, true, true, true, false, false, false] rfl rfl (take_ofW HT_.out HW_.out (by kernel_rfl)) (fun _ _ _ h => h) (Or.inl ⟨by rfl, ?_⟩) hHeld ?_ ?_
           rotate_left; focus (rintro w' ⟨s0, s1, s2⟩; go_simp; with_reducible rfl; done)
           rotate_left; focus (simp only [Act.put, List.setIfInBounds_toArray, List.set_cons_zero, List.set_cons_succ, i64_w, i32_w, u8_w, u32_w]; rfl; done)
           refine one_ (i := 7) (N := none) #[true, true, true, true, true, true, true, true, false, false] rfl rfl (one_of HT_.out (by kernel_rfl)) (by decide) (fun K hK => ?_)
           have hs95 : w94.cell? ⟨gb129, 0, none⟩ = some (.int .i64 0) := (blk_cell BK129.out 0).trans rfl
           have hfs95 := blk_frozen BK129.out 0
           have hns95_1 := NB130_129.out
           have hms95_1 := NB129_130.out
           have hs96 : w94.cell? ⟨gb129, 1, none⟩ = some (.int .i64 0) := (blk_cell BK129.out 1).trans rfl
           have hfs96 := blk_frozen BK129.out 1
           have hns96_1 := NB130_129.out
           have hms96_1 := NB129_130.out
           have hs97 : w94.cell? ⟨gb129, 2, none⟩ = some (.string (⟨#[]⟩ : ByteArray)) := (blk_cell BK129.out 2).trans rfl
           have hfs97 := blk_frozen BK129.out 2
           have hns97_1 := NB130_129.out
           have hms97_1 := NB129_130.out
           refine skip_ (w1 := ?_) (by rfl) rfl ?_ ?_
           rotate_left; focus (go_simp; rfl; done)
           refine hK.out _ _ ⟨((cell_far (p := ⟨gb129, _, none⟩) NB130_129.out _).trans (((cell_far (p := ⟨gb129, _, none⟩) NB130_129.out _).trans (((cell_far (p := ⟨gb129, _, none⟩) NB130_129.out _).trans (hHeld.1)))))), ((cell_far (p := ⟨gb129, _, none⟩) NB130_129.out _).trans (((cell_far (p := ⟨gb129, _, none⟩) NB130_129.out _).trans (((cell_far (p := ⟨gb129, _, none⟩) NB130_129.out _).trans (hHeld.2.1)))))), ((cell_far (p := ⟨gb129, _, none⟩) NB130_129.out _).trans (((cell_far (p := ⟨gb129, _, none⟩) NB130_129.out _).trans (((cell_far (p := ⟨gb129, _, none⟩) NB130_129.out _).trans (hHeld.2.2))))))⟩ (fun hHeld => ?_)
           clear hK K
           refine pure_ (i := 8) (N := some 3) (v := ?_) (a' := ?_) #[true, true, true, true, true, true, true, true, true, false] rfl rfl (any_of HT_.out (by kernel_rfl)) (fun _ _ _ h => h) (Or.inl ⟨by rfl, ?_⟩) ?_ ?_
           rotate_left; focus (intro w'; go_simp; with_reducible rfl; done)
           rotate_left; focus (simp only [Act.put, List.setIfInBounds_toArray, List.set_cons_zero, List.set_cons_succ, i64_w, i32_w, u8_w, u32_w]; rfl; done)
           refine pure_ (i := 9) (N := some 4) (v := ?_) (a' := ?_) #[true, true, true, true, true, true, true, true, true, true] rfl rfl (any_of HT_.out (by kernel_rfl)) (fun _ _ _ h => h) (Or.inl ⟨by rfl, ?_⟩) ?_ ?_
           rotate_left; focus (intro w'; go_simp; with_reducible rfl; done)
           rotate_left; focus (simp only [Act.put, List.setIfInBounds_toArray, List.set_cons_zero, List.set_cons_succ, i64_w, i32_w, u8_w, u32_w]; rfl; done)
           refine done_ (done_of HT_.out (by kernel_rfl)) ?_
           have n0_ : Aside0 ((((w94.setCell ⟨gb129, 0, none⟩ (.int .i64 (wrap64 ((wrap64 (bt a0 0)) - 1)))).setCell ⟨gb129, 1, none⟩ (.int .i64 0)).setCell ⟨gb129, 2, none⟩ (.string (⟨#[]⟩ : ByteArray))).heap[gb129]? = some (.cells #[.int .i64 (wrap64 ((wrap64 (bt a0 0)) - 1)), .int .i64 0, .string (⟨#[]⟩ : ByteArray)] 25 (0, 0))) := ⟨by (with_reducible repeat (first | refine blk_drewN ?_ _ | refine blk_drew ?_ | refine blk_alloc ?_ _)); refine blk_put (cs := #[.int .i64 (wrap64 ((wrap64 (bt a0 0)) - 1)), .int .i64 0, .string (⟨#[]⟩ : ByteArray)]) ?_ 2 _ rfl; (with_reducible repeat (first | refine blk_drewN ?_ _ | refine blk_drew ?_ | refine blk_alloc ?_ _)); refine blk_put (cs := #[.int .i64 (wrap64 ((wrap64 (bt a0 0)) - 1)), .int .i64 0, .string (⟨#[]⟩ : ByteArray)]) ?_ 1 _ rfl; (with_reducible repeat (first | refine blk_drewN ?_ _ | refine blk_drew ?_ | refine blk_alloc ?_ _)); refine blk_put (cs := #[.int .i64 0, .int .i64 0, .string (⟨#[]⟩ : ByteArray)]) ?_ 0 _ rfl; (with_reducible repeat (first | refine blk_drewN ?_ _ | refine blk_drew ?_ | refine blk_alloc ?_ _)); exact BK129.out⟩
           have n1_ : Aside0 ((((w94.setCell ⟨gb129, 0, none⟩ (.int .i64 (wrap64 ((wrap64 (bt a0 0)) - 1)))).setCell ⟨gb129, 1, none⟩ (.int .i64 0)).setCell ⟨gb129, 2, none⟩ (.string (⟨#[]⟩ : ByteArray))).heap[gb130]? = some (.cells #[.int .i64 (wrap64 ((wrap64 (bt a0 0)) - 1)), .int .i64 0, .string (⟨#[]⟩ : ByteArray)] 25 (0, 0))) := ⟨by (with_reducible repeat (first | refine blk_drewN ?_ _ | refine blk_drew ?_ | refine blk_alloc ?_ _)); refine blk_far ?_ NB130_129.out _; (with_reducible repeat (first | refine blk_drewN ?_ _ | refine blk_drew ?_ | refine blk_alloc ?_ _)); refine blk_far ?_ NB130_129.out _; (with_reducible repeat (first | refine blk_drewN ?_ _ | refine blk_drew ?_ | refine blk_alloc ?_ _)); refine blk_far ?_ NB130_129.out _; (with_reducible repeat (first | refine blk_drewN ?_ _ | refine blk_drew ?_ | refine blk_alloc ?_ _)); exact BK130.out⟩
           have n2_ : Aside0 (Below w.heap.size w (((w94.setCell ⟨gb129, 0, none⟩ (.int .i64 (wrap64 ((wrap64 (bt a0 0)) - 1)))).setCell ⟨gb129, 1, none⟩ (.int .i64 0)).setCell ⟨gb129, 2, none⟩ (.string (⟨#[]⟩ : ByteArray)))) := ⟨by repeat (first | (with_reducible first | exact HB.out | apply below_alloc | apply pw_below_drewN | apply below_drew1 | refine below_set ?_ GE129.out | refine below_set ?_ GE130.out) | exact HB.out)⟩
           (try clear BK129)
           (try clear BK130)
           (try clear HB)
           generalize (((w94.setCell ⟨gb129, 0, none⟩ (.int .i64 (wrap64 ((wrap64 (bt a0 0)) - 1)))).setCell ⟨gb129, 1, none⟩ (.int .i64 0)).setCell ⟨gb129, 2, none⟩ (.string (⟨#[]⟩ : ByteArray))) = w98 at n0_ n1_ n2_ ⊢
           have BK129 := n0_
           have BK130 := n1_
           have HB := n2_
           clear n0_ n1_ n2_
           try go_wp2
           refine bodyPost_ret (results_ctt rfl _ _ gb129 25 #[.int .i64 (wrap64 ((wrap64 (bt a0 0)) - 1)), .int .i64 0, .string (⟨#[]⟩ : ByteArray)] (0, 0) _ rfl (by (with_reducible repeat (first | refine blk_drewN ?_ _ | refine blk_drew ?_ | refine blk_alloc ?_ _)); exact BK129.out) Tryd.underlying25 rfl (by kernel_rfl)) rfl ?_
           exact ⟨by first | (simp only [ByteArray.size_extract, Nat.min_self]; rfl) | rfl | (simp [errW_none, errW_some] <;> rfl) | (simp [*, errW_none, errW_some] <;> rfl), by repeat (first | (with_reducible first | exact HB.out | apply below_alloc | apply pw_below_drewN | apply below_drew1 | refine below_set ?_ GE129.out | refine below_set ?_ GE130.out) | exact HB.out)⟩
  ·
   rw [if_neg c4] at H
   exact absurd H (by simp)
 ·
  rw [if_neg c2] at H
  exact absurd H (by simp)

end Go.Proofs.YtohknmlcleifpaaDoor.PA
