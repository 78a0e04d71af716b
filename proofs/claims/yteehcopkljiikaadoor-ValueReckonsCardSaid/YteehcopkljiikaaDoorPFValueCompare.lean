-- Laid by a program of ours (wip/gen/xprint.py). Not trusted: Lean checks it.
import Derived.Test.YteehcopkljiikaaDoorPAx0
import Derived.Test.YteehcopkljiikaaDoorMA
namespace Go.Proofs.YteehcopkljiikaaDoor.PA
open Go.RowKit Go.Proofs.YteehcopkljiikaaDoorW.PrintWords Go.Proofs.YteehcopkljiikaaDoorW.PrintLast Go.Proofs.YteehcopkljiikaaDoorW.PrintMore Go.Proofs.YteehcopkljiikaaDoorX
attribute [local go_sem] max2_int min2_int max_two min_two max_three min_three max_four min_four   -- for this text's walks alone
set_option linter.unusedVariables false
set_option linter.unusedSimpArgs false

/-! ### value_Compare: function 17 -/
mutual
def value_Compare.j0 : Nat → Int → Bool → Int → Int → ByteArray → Int → Int → ByteArray → Option (Int × Int × ByteArray × Int)
 | 0, _, _, _, _, _, _, _, _ => none
 | k + 1, x0, x9, x117000, x117001, x117002, x118000, x118001, x118002 => if x9 = true then (some (0, 0, (⟨#[]⟩ : ByteArray), 1)) else ((value_Right.f x117000 x117001 x117002).bind fun t119 => (if t119 = true then ((value_Right.f x118000 x118001 x118002).bind fun t120 => (value_Compare.j1 k x0 (!t120) x117000 x117001 x117002 x118000 x118001 x118002)) else (value_Compare.j1 k x0 true x117000 x117001 x117002 x118000 x118001 x118002)))
def value_Compare.j1 : Nat → Int → Bool → Int → Int → ByteArray → Int → Int → ByteArray → Option (Int × Int × ByteArray × Int)
 | 0, _, _, _, _, _, _, _, _ => none
 | k + 1, x0, x17, x117000, x117001, x117002, x118000, x118001, x118002 => if x17 = true then (some (0, 0, (⟨#[]⟩ : ByteArray), 10)) else (if x117000 = 0 then (value_Compare.j2 k x0 true x117000 x117001 x117002 x118000 x118001 x118002) else (value_Compare.j2 k x0 (x118000 == 0) x117000 x117001 x117002 x118000 x118001 x118002))
def value_Compare.j2 : Nat → Int → Bool → Int → Int → ByteArray → Int → Int → ByteArray → Option (Int × Int × ByteArray × Int)
 | 0, _, _, _, _, _, _, _, _ => none
 | k + 1, x0, x27, x117000, x117001, x117002, x118000, x118001, x118002 => if x27 = true then (some (0, 0, (⟨#[]⟩ : ByteArray), 0)) else (if x117000 = x118000 then ((value_Order.f k x117000 x117001 x117002 x118000 x118001 x118002).bind fun t121 => (if x0 = 1 then ((value_truth.f (t121 == 0)).bind fun bt122 => (some (bt122.1, bt122.2.1, bt122.2.2, 0))) else (if x0 = 2 then ((value_truth.f (t121 != 0)).bind fun bt125 => (some (bt125.1, bt125.2.1, bt125.2.2, 0))) else (if x0 = 3 then ((value_truth.f (decide (t121 < 0))).bind fun bt128 => (some (bt128.1, bt128.2.1, bt128.2.2, 0))) else (if x0 = 4 then ((value_truth.f (decide (t121 ≤ 0))).bind fun bt131 => (some (bt131.1, bt131.2.1, bt131.2.2, 0))) else (if x0 = 5 then ((value_truth.f (decide (t121 > 0))).bind fun bt134 => (some (bt134.1, bt134.2.1, bt134.2.2, 0))) else ((value_truth.f (decide (t121 ≥ 0))).bind fun bt137 => (some (bt137.1, bt137.2.1, bt137.2.2, 0))))))))) else (some (0, 0, (⟨#[]⟩ : ByteArray), 11)))
end
def value_Compare.f (k : Nat) (a0 : Int) (a1_0 : Int) (a1_1 : Int) (a1_2 : ByteArray) (a2_0 : Int) (a2_1 : Int) (a2_2 : ByteArray) : Option (Int × Int × ByteArray × Int) := if a0 < 1 then (value_Compare.j0 k a0 true a1_0 a1_1 a1_2 a2_0 a2_1 a2_2) else (value_Compare.j0 k a0 (decide (a0 > 6)) a1_0 a1_1 a1_2 a2_0 a2_1 a2_2)
theorem value_Compare.mono_l : ∀ k, (∀ y0 y1 y2 y3 y4 y5 y6 y7, LeO (value_Compare.j0 k y0 y1 y2 y3 y4 y5 y6 y7) (value_Compare.j0 (k + 1) y0 y1 y2 y3 y4 y5 y6 y7)) ∧ (∀ y0 y1 y2 y3 y4 y5 y6 y7, LeO (value_Compare.j1 k y0 y1 y2 y3 y4 y5 y6 y7) (value_Compare.j1 (k + 1) y0 y1 y2 y3 y4 y5 y6 y7)) ∧ (∀ y0 y1 y2 y3 y4 y5 y6 y7, LeO (value_Compare.j2 k y0 y1 y2 y3 y4 y5 y6 y7) (value_Compare.j2 (k + 1) y0 y1 y2 y3 y4 y5 y6 y7))
 | 0 => ⟨fun _ _ _ _ _ _ _ _ r h => by simp [value_Compare.j0] at h, fun _ _ _ _ _ _ _ _ r h => by simp [value_Compare.j1] at h, fun _ _ _ _ _ _ _ _ r h => by simp [value_Compare.j2] at h⟩
 | k + 1 => by
  obtain ⟨ih0, ih1, ih2⟩ := value_Compare.mono_l k
  refine ⟨?_, ?_, ?_⟩
  ·
   intro y0 y1 y2 y3 y4 y5 y6 y7
   unfold value_Compare.j0
   repeat' first
   | (with_reducible exact ih0 _ _ _ _ _ _ _ _)
   | (with_reducible exact ih1 _ _ _ _ _ _ _ _)
   | (with_reducible exact ih2 _ _ _ _ _ _ _ _)
   | (with_reducible exact value_Order.mono _ _ _ _ _ _ _)
   | (with_reducible exact LeO.refl _)
   | (with_reducible exact LeO.none _)
   | (with_reducible refine LeO.ite ?_ ?_)
   | (with_reducible refine LeO.bind ?_ (fun _ => ?_))
   | exact ih0 _ _ _ _ _ _ _ _
   | exact ih1 _ _ _ _ _ _ _ _
   | exact ih2 _ _ _ _ _ _ _ _
   | exact value_Order.mono _ _ _ _ _ _ _
   | exact LeO.none _
   | refine LeO.ite ?_ ?_
   | refine LeO.bind ?_ (fun _ => ?_)
  ·
   intro y0 y1 y2 y3 y4 y5 y6 y7
   unfold value_Compare.j1
   repeat' first
   | (with_reducible exact ih0 _ _ _ _ _ _ _ _)
   | (with_reducible exact ih1 _ _ _ _ _ _ _ _)
   | (with_reducible exact ih2 _ _ _ _ _ _ _ _)
   | (with_reducible exact value_Order.mono _ _ _ _ _ _ _)
   | (with_reducible exact LeO.refl _)
   | (with_reducible exact LeO.none _)
   | (with_reducible refine LeO.ite ?_ ?_)
   | (with_reducible refine LeO.bind ?_ (fun _ => ?_))
   | exact ih0 _ _ _ _ _ _ _ _
   | exact ih1 _ _ _ _ _ _ _ _
   | exact ih2 _ _ _ _ _ _ _ _
   | exact value_Order.mono _ _ _ _ _ _ _
   | exact LeO.none _
   | refine LeO.ite ?_ ?_
   | refine LeO.bind ?_ (fun _ => ?_)
  ·
   intro y0 y1 y2 y3 y4 y5 y6 y7
   unfold value_Compare.j2
   repeat' first
   | (with_reducible exact ih0 _ _ _ _ _ _ _ _)
   | (with_reducible exact ih1 _ _ _ _ _ _ _ _)
   | (with_reducible exact ih2 _ _ _ _ _ _ _ _)
   | (with_reducible exact value_Order.mono _ _ _ _ _ _ _)
   | (with_reducible exact LeO.refl _)
   | (with_reducible exact LeO.none _)
   | (with_reducible refine LeO.ite ?_ ?_)
   | (with_reducible refine LeO.bind ?_ (fun _ => ?_))
   | exact ih0 _ _ _ _ _ _ _ _
   | exact ih1 _ _ _ _ _ _ _ _
   | exact ih2 _ _ _ _ _ _ _ _
   | exact value_Order.mono _ _ _ _ _ _ _
   | exact LeO.none _
   | refine LeO.ite ?_ ?_
   | refine LeO.bind ?_ (fun _ => ?_)
theorem value_Compare.mono : ∀ a0 a1 a2 a3 a4 a5 a6 k, LeO (value_Compare.f k a0 a1 a2 a3 a4 a5 a6) (value_Compare.f (k + 1) a0 a1 a2 a3 a4 a5 a6) := by
 intro a0 a1 a2 a3 a4 a5 a6 k
 obtain ⟨ih0, ih1, ih2⟩ := value_Compare.mono_l k
 unfold value_Compare.f
 repeat' first
   | (with_reducible exact ih0 _ _ _ _ _ _ _ _)
   | (with_reducible exact ih1 _ _ _ _ _ _ _ _)
   | (with_reducible exact ih2 _ _ _ _ _ _ _ _)
   | (with_reducible exact value_Order.mono _ _ _ _ _ _ _)
   | (with_reducible exact LeO.refl _)
   | (with_reducible exact LeO.none _)
   | (with_reducible refine LeO.ite ?_ ?_)
   | (with_reducible refine LeO.bind ?_ (fun _ => ?_))
   | exact ih0 _ _ _ _ _ _ _ _
   | exact ih1 _ _ _ _ _ _ _ _
   | exact ih2 _ _ _ _ _ _ _ _
   | exact value_Order.mono _ _ _ _ _ _ _
   | exact LeO.none _
   | refine LeO.ite ?_ ?_
   | refine LeO.bind ?_ (fun _ => ?_)
set_option maxHeartbeats 8000000 in
set_option maxRecDepth 100000 in
theorem value_Compare.calls (k : Nat) (a0 : Int) (a1_0 : Int) (a1_1 : Int) (a1_2 : ByteArray) (a2_0 : Int) (a2_1 : Int) (a2_2 : ByteArray) (r1 : Int) (r2 : Int) (r3 : ByteArray) (r4 : Int) (w : World) (h : value_Compare.f k a0 a1_0 a1_1 a1_2 a2_0 a2_1 a2_2 = some (r1, r2, r3, r4)) :
  Calls Tryd.prog 17 #[.int .i64 a0, .agg #[.int .i64 a1_0, .int .i64 a1_1, .string a1_2], .agg #[.int .i64 a2_0, .int .i64 a2_1, .string a2_2]] w fun e w' => e = .returned (.tuple #[.agg #[.int .i64 r1, .int .i64 r2, .string r3], .int .i64 r4]) ∧ Below w.heap.size w w' := by
 have hu23 := Tryd.underlying23; have HB := Aside0.mk (Below.refl w.heap.size w); have H : (if a0 < 1 then (value_Compare.j0 k a0 true a1_0 a1_1 a1_2 a2_0 a2_1 a2_2) else (value_Compare.j0 k a0 (decide (a0 > 6)) a1_0 a1_1 a1_2 a2_0 a2_1 a2_2)) = some (r1, r2, r3, r4) := h; clear h; have HC4 := Aside0.mk H; clear H
 go_enter Tryd.func17, Tryd.ntmps17
 go_upto_region 1 with (first | ((with_reducible refine gate_dst (N := 4) rfl ?_); refine box_event ?hg (N := 4) ?hd (cs := #[.int .i64 a1_0, .int .i64 a1_1, .string a1_2]) (t := 23) ?hr ?_; (case hd => rfl); (case hg => rfl); (case hr => first | (go_simp; done) | (go_simp; rfl)); intro gb116 hg w5 hbox hb; have BK116 := Aside0.mk (hbox); have GW116 := Aside0.mk ((by rw [hg]; exact (below_size (by exact HB.out)) : w.heap.size ≤ gb116)); have GE116 := Aside0.mk ((by rw [hg]; exact (below_size (by exact HB.out)) : w.heap.size ≤ gb116)); replace HB := Aside0.mk (below_step (by exact HB.out) hb); clear hb hbox hg) | ((with_reducible refine gate_dst (N := 5) rfl ?_); refine box_event ?hg (N := 5) ?hd (cs := #[.int .i64 a2_0, .int .i64 a2_1, .string a2_2]) (t := 23) ?hr ?_; (case hd => rfl); (case hg => rfl); (case hr => first | (go_simp; done) | (go_simp; rfl)); intro gb117 hg w6 hbox hb; have BK117 := Aside0.mk (hbox); have GW117 := Aside0.mk ((by rw [hg]; exact (below_size (by exact HB.out)) : w.heap.size ≤ gb117)); have GE117 := Aside0.mk ((by rw [hg]; exact (below_size (by exact HB.out)) : w.heap.size ≤ gb117)); have NB116_117 := bl BK116 hg; have NB117_116 := bg BK116 hg; replace BK116 := bb BK116 hb; replace HB := Aside0.mk (below_step (by exact HB.out) hb); clear hb hbox hg) | ((with_reducible refine gate_dst (N := 6) rfl ?_); refine box_event ?hg (N := 6) ?hd (cs := #[.int .i64 0, .int .i64 0, .string (⟨#[]⟩ : ByteArray)]) (t := 23) ?hr ?_; (case hd => rfl); (case hg => rfl); (case hr => first | (go_simp; done) | (go_simp; rfl)); intro gb118 hg w7 hbox hb; have BK118 := Aside0.mk (hbox); have GW118 := Aside0.mk ((by rw [hg]; exact (below_size (by exact HB.out)) : w.heap.size ≤ gb118)); have GE118 := Aside0.mk ((by rw [hg]; exact (below_size (by exact HB.out)) : w.heap.size ≤ gb118)); have NB116_118 := bl BK116 hg; have NB118_116 := bg BK116 hg; have NB117_118 := bl BK117 hg; have NB118_117 := bg BK117 hg; replace BK116 := bb BK116 hb; replace BK117 := bb BK117 hb; replace HB := Aside0.mk (below_step (by exact HB.out) hb); clear hb hbox hg))
 (try simp only [Act.put, List.setIfInBounds_toArray, List.set_cons_zero, List.set_cons_succ])
 go_cut [9] (fun v9 wc => ∃ (kq : Nat) (x9_3 : Bool), v9 = .bool x9_3 ∧ Aside0 (value_Compare.j0 kq a0 x9_3 a1_0 a1_1 a1_2 a2_0 a2_1 a2_2 = some (r1, r2, r3, r4)) ∧ Aside0 (kq ≤ k) ∧ Aside0 (wc.heap[gb116]? = some (.cells #[.int .i64 a1_0, .int .i64 a1_1, .string a1_2] 23 (0, 0))) ∧ Aside0 (wc.heap[gb117]? = some (.cells #[.int .i64 a2_0, .int .i64 a2_1, .string a2_2] 23 (0, 0))) ∧ Aside0 (wc.heap[gb118]? = some (.cells #[.int .i64 0, .int .i64 0, .string (⟨#[]⟩ : ByteArray)] 23 (0, 0))) ∧ Aside0 (Below w.heap.size w wc))
 case first =>
  have H := HC4.out; clear HC4
  by_cases c8 : a0 < 1
  ·
   rw [if_pos c8] at H
   have c8b0 : decide (a0 < 1) = true := decide_eq_true c8; clear c8
   (first | rw [c8b0] | (simp only [i64_w, i32_w, u8_w, u32_w]; rw [c8b0]) | rw [c8b1] | skip)
   have H' := Aside0.mk H
   clear H
   go_wp2
   go_meet
   case rel => exact ⟨_, (true), (by first | rfl | (simp; done) | (simp [*]; done)), H', ⟨by first | omega | exact Nat.le_refl _⟩, ⟨by exact BK116.out⟩, ⟨by exact BK117.out⟩, ⟨by exact BK118.out⟩, ⟨by exact HB.out⟩⟩
  ·
   rw [if_neg c8] at H
   have c8b0 : decide (a0 < 1) = false := decide_eq_false c8; clear c8
   (first | rw [c8b0] | (simp only [i64_w, i32_w, u8_w, u32_w]; rw [c8b0]) | rw [c8b1] | skip)
   have H' := Aside0.mk H
   clear H
   go_wp2
   go_meet
   case rel => exact ⟨_, (decide (a0 > 6)), (by first | rfl | (simp; done) | (simp [*]; done)), H', ⟨by first | omega | exact Nat.le_refl _⟩, ⟨by exact BK116.out⟩, ⟨by exact BK117.out⟩, ⟨by exact BK118.out⟩, ⟨by exact HB.out⟩⟩
 case rest =>
  clear HC4; (try clear c1); (try clear p2); (try clear c8); (try clear c8b0); (try clear c8b1)
  obtain ⟨kq, x9_3, rfl, HA, HJ3, BK116, BK117, BK118, HB⟩ := hcut
  cases kq with
  | zero => exact absurd HA.out (by simp [value_Compare.j0])
  | succ kj3 =>
   have H := HA.out; clear HA
   simp only [value_Compare.j0] at H
   by_cases c9 : x9_3 = true
   ·
    subst c9
    have H1 : (some (0, 0, (⟨#[]⟩ : ByteArray), 1)) = some (r1, r2, r3, r4) := by (first | rw [if_pos rfl] at H | rw [if_pos True.intro] at H | skip); exact H
    clear H; have H := H1; clear H1
    simp only [Option.some.injEq, Prod.mk.injEq] at H
    obtain ⟨rfl, rfl, rfl, rfl⟩ := H
    have hnb10 := NB118_116.out; have hnc10 := NB116_118.out; have hnb11 := NB118_117.out; have hnc11 := NB117_118.out; have hcz12_0 : wc.cell? ⟨gb118, 0, none⟩ = some (.int .i64 0) := (blk_cell BK118.out 0).trans rfl; have hcz12_1 : wc.cell? ⟨gb118, 1, none⟩ = some (.int .i64 0) := (blk_cell BK118.out 1).trans rfl; have hcz12_2 : wc.cell? ⟨gb118, 2, none⟩ = some (.string (⟨#[]⟩ : ByteArray)) := (blk_cell BK118.out 2).trans rfl; have hfz12_0 := blk_frozen BK118.out 0; have hfz12_1 := blk_frozen BK118.out 1; have hfz12_2 := blk_frozen BK118.out 2
    go_wp2_with (first | ((with_reducible refine gate_store (t := 23) (p := 6) rfl ?_); refine store_event (t := 23) (p := 6) (v := ?vo_w13) (w1 := (((wc.setCell ⟨gb118, 0, none⟩ (.int .i64 0)).setCell ⟨gb118, 1, none⟩ (.int .i64 0)).setCell ⟨gb118, 2, none⟩ (.string (⟨#[]⟩ : ByteArray)))) ?hg ?ho ?hn ?hr ?_; (case ho => rfl); (case hg => rfl); (case hn => rfl); (case hr => first | (go_simp; done) | (go_simp; rfl)); intro w13 hw; replace BK116 := bw BK116 hw; replace BK117 := bw BK117 hw; replace BK118 : Aside0 (w13.heap[gb118]? = some (.cells #[.int .i64 0, .int .i64 0, .string (⟨#[]⟩ : ByteArray)] 23 (0, 0))) := bp BK118 hw; replace HB := bv hw; clear hw))
    refine bodyPost_ret (results_ct rfl _ _ gb118 23 #[.int .i64 0, .int .i64 0, .string (⟨#[]⟩ : ByteArray)] (0, 0) _ rfl (by (with_reducible repeat first | apply bN | apply bD | apply bA); exact BK118.out) Tryd.underlying23 rfl (by kernel_rfl)) rfl ?_
    exact ⟨by first | (simp only [ByteArray.size_extract, Nat.min_self]; rfl) | rfl | (simp [errW_none, errW_some] <;> rfl) | (simp [*, errW_none, errW_some] <;> rfl), by repeat (first | (with_reducible first | exact HB.out | apply pA | apply pN | apply pD | refine pS ?_ GE116.out | refine pS ?_ GE117.out | refine pS ?_ GE118.out) | exact HB.out)⟩
   ·
    replace c9 := Bool.eq_false_iff.mpr c9
    subst c9
    have H1 : ((value_Right.f a1_0 a1_1 a1_2).bind fun t119 => (if t119 = true then ((value_Right.f a2_0 a2_1 a2_2).bind fun t120 => (value_Compare.j1 kj3 a0 (!t120) a1_0 a1_1 a1_2 a2_0 a2_1 a2_2)) else (value_Compare.j1 kj3 a0 true a1_0 a1_1 a1_2 a2_0 a2_1 a2_2))) = some (r1, r2, r3, r4) := by rw [if_neg (show ¬ (false = true) by decide)] at H; exact H
    clear H; have H := H1; clear H1; have HC14 := Aside0.mk H; clear H
    go_upto_region 3 with (fail)
    go_cut [17] (fun v17 wc => ∃ (kq : Nat) (x17_13 : Bool), v17 = .bool x17_13 ∧ Aside0 (value_Compare.j1 kq a0 x17_13 a1_0 a1_1 a1_2 a2_0 a2_1 a2_2 = some (r1, r2, r3, r4)) ∧ Aside0 (kq ≤ kj3) ∧ Aside0 (wc.heap[gb116]? = some (.cells #[.int .i64 a1_0, .int .i64 a1_1, .string a1_2] 23 (0, 0))) ∧ Aside0 (wc.heap[gb117]? = some (.cells #[.int .i64 a2_0, .int .i64 a2_1, .string a2_2] 23 (0, 0))) ∧ Aside0 (wc.heap[gb118]? = some (.cells #[.int .i64 0, .int .i64 0, .string (⟨#[]⟩ : ByteArray)] 23 (0, 0))) ∧ Aside0 (Below w.heap.size w wc))
    case first =>
     have H := HC14.out; clear HC14; replace H := Option.bind_eq_some_iff.mp H
     obtain ⟨t119, A150, H⟩ := H
     replace H : (if t119 = true then ((value_Right.f a2_0 a2_1 a2_2).bind fun t120 => (value_Compare.j1 kj3 a0 (!t120) a1_0 a1_1 a1_2 a2_0 a2_1 a2_2)) else (value_Compare.j1 kj3 a0 true a1_0 a1_1 a1_2 a2_0 a2_1 a2_2)) = some (r1, r2, r3, r4) := H; have A15 := Aside0.mk A150; clear A150
     by_cases c16 : t119 = true
     ·
      subst c16
      have H1 : ((value_Right.f a2_0 a2_1 a2_2).bind fun t120 => (value_Compare.j1 kj3 a0 (!t120) a1_0 a1_1 a1_2 a2_0 a2_1 a2_2)) = some (r1, r2, r3, r4) := by (first | rw [if_pos rfl] at H | rw [if_pos True.intro] at H | skip); exact H
      clear H; have H := H1; clear H1; replace H := Option.bind_eq_some_iff.mp H
      obtain ⟨t120, A170, H⟩ := H
      replace H : (value_Compare.j1 kj3 a0 (!t120) a1_0 a1_1 a1_2 a2_0 a2_1 a2_2) = some (r1, r2, r3, r4) := H; have A17 := Aside0.mk A170; clear A170
      have H' := Aside0.mk H
      clear H; have hnb18 := NB116_117.out; have hnc18 := NB117_116.out; have hnb19 := NB116_118.out; have hnc19 := NB118_116.out; have hcz20_0 : wc.cell? ⟨gb116, 0, none⟩ = some (.int .i64 a1_0) := (blk_cell BK116.out 0).trans rfl; have hcz20_1 : wc.cell? ⟨gb116, 1, none⟩ = some (.int .i64 a1_1) := (blk_cell BK116.out 1).trans rfl; have hcz20_2 : wc.cell? ⟨gb116, 2, none⟩ = some (.string a1_2) := (blk_cell BK116.out 2).trans rfl; have hfz20_0 := blk_frozen BK116.out 0; have hfz20_1 := blk_frozen BK116.out 1; have hfz20_2 := blk_frozen BK116.out 2
      go_wp2_with (first | ((with_reducible refine gate_callee (f := 13) rfl ?_); refine gL (some 19) Tryd.func13 #[.agg #[.int .i64 a1_0, .int .i64 a1_1, .string a1_2]] ?_; (with_reducible refine (value_Right.calls a1_0 a1_1 a1_2 true _ A15.out).mono ?_); rintro e w21 ⟨rfl, hb⟩; refine ⟨_, rfl, ?_⟩; replace BK116 := bb BK116 hb; replace BK117 := bb BK117 hb; replace BK118 := bb BK118 hb; replace HB := Aside0.mk (below_step (by exact HB.out) hb); (try clear hb); (try clear hb2); (try clear hk); (try clear hi); have hnb22 := NB117_118.out; have hnc22 := NB118_117.out; have hcz23_0 : w21.cell? ⟨gb117, 0, none⟩ = some (.int .i64 a2_0) := (blk_cell BK117.out 0).trans rfl; have hcz23_1 : w21.cell? ⟨gb117, 1, none⟩ = some (.int .i64 a2_1) := (blk_cell BK117.out 1).trans rfl; have hcz23_2 : w21.cell? ⟨gb117, 2, none⟩ = some (.string a2_2) := (blk_cell BK117.out 2).trans rfl; have hfz23_0 := blk_frozen BK117.out 0; have hfz23_1 := blk_frozen BK117.out 1; have hfz23_2 := blk_frozen BK117.out 2) | (go_at_call 13; (with_reducible refine (value_Right.calls a2_0 a2_1 a2_2 t120 _ A17.out).mono ?_); rintro e w24 ⟨rfl, hb⟩; replace BK116 := bb BK116 hb; replace BK117 := bb BK117 hb; replace BK118 := bb BK118 hb; replace HB := Aside0.mk (below_step (by exact HB.out) hb); (try clear hb); (try clear hb2); (try clear hk); (try clear hi)))
      go_meet
      case rel => exact ⟨_, (!t120), (by first | rfl | (simp; done) | (simp [*]; done)), H', ⟨by have := HJ3.out; first | omega | exact Nat.le_refl _⟩, ⟨by exact BK116.out⟩, ⟨by exact BK117.out⟩, ⟨by exact BK118.out⟩, ⟨by exact HB.out⟩⟩
     ·
      replace c16 := Bool.eq_false_iff.mpr c16
      subst c16
      have H1 : (value_Compare.j1 kj3 a0 true a1_0 a1_1 a1_2 a2_0 a2_1 a2_2) = some (r1, r2, r3, r4) := by rw [if_neg (show ¬ (false = true) by decide)] at H; exact H
      clear H; have H := H1; clear H1
      have H' := Aside0.mk H
      clear H; have hnb25 := NB116_117.out; have hnc25 := NB117_116.out; have hnb26 := NB116_118.out; have hnc26 := NB118_116.out; have hcz27_0 : wc.cell? ⟨gb116, 0, none⟩ = some (.int .i64 a1_0) := (blk_cell BK116.out 0).trans rfl; have hcz27_1 : wc.cell? ⟨gb116, 1, none⟩ = some (.int .i64 a1_1) := (blk_cell BK116.out 1).trans rfl; have hcz27_2 : wc.cell? ⟨gb116, 2, none⟩ = some (.string a1_2) := (blk_cell BK116.out 2).trans rfl; have hfz27_0 := blk_frozen BK116.out 0; have hfz27_1 := blk_frozen BK116.out 1; have hfz27_2 := blk_frozen BK116.out 2
      go_wp2_with (first | ((with_reducible refine gate_callee (f := 13) rfl ?_); refine gL (some 19) Tryd.func13 #[.agg #[.int .i64 a1_0, .int .i64 a1_1, .string a1_2]] ?_; (with_reducible refine (value_Right.calls a1_0 a1_1 a1_2 false _ A15.out).mono ?_); rintro e w28 ⟨rfl, hb⟩; refine ⟨_, rfl, ?_⟩; replace BK116 := bb BK116 hb; replace BK117 := bb BK117 hb; replace BK118 := bb BK118 hb; replace HB := Aside0.mk (below_step (by exact HB.out) hb); (try clear hb); (try clear hb2); (try clear hk); (try clear hi)))
      go_meet
      case rel => exact ⟨_, (true), (by first | rfl | (simp; done) | (simp [*]; done)), H', ⟨by have := HJ3.out; first | omega | exact Nat.le_refl _⟩, ⟨by exact BK116.out⟩, ⟨by exact BK117.out⟩, ⟨by exact BK118.out⟩, ⟨by exact HB.out⟩⟩
    case rest =>
     clear HC14; (try clear c1); (try clear c2); (try clear p2); (try clear c8); (try clear c8b0); (try clear c8b1); (try clear c9); (try clear c10); (try clear c11); (try clear c13); (try clear c16); (try clear c17); (try clear c18); (try clear c19); (try clear c22); (try clear c25); (try clear c26); (try clear hcz12_0); (try clear hcz12_1); (try clear hcz12_2); (try clear hcz20_0); (try clear hcz20_1); (try clear hcz20_2); (try clear hcz23_0); (try clear hcz23_1); (try clear hcz23_2); (try clear hcz27_0); (try clear hcz27_1); (try clear hcz27_2); (try clear hfz12_0); (try clear hfz12_1); (try clear hfz12_2); (try clear hfz20_0); (try clear hfz20_1); (try clear hfz20_2); (try clear hfz23_0); (try clear hfz23_1); (try clear hfz23_2); (try clear hfz27_0); (try clear hfz27_1); (try clear hfz27_2); (try clear p2)
     obtain ⟨kq, x17_13, rfl, HA, HJ13, BK116, BK117, BK118, HB⟩ := hcut
     cases kq with
     | zero => exact absurd HA.out (by simp [value_Compare.j1])
     | succ kj13 =>
      have H := HA.out; clear HA
      simp only [value_Compare.j1] at H
      by_cases c29 : x17_13 = true
      ·
       subst c29
       have H1 : (some (0, 0, (⟨#[]⟩ : ByteArray), 10)) = some (r1, r2, r3, r4) := by (first | rw [if_pos rfl] at H | rw [if_pos True.intro] at H | skip); exact H
       clear H; have H := H1; clear H1
       simp only [Option.some.injEq, Prod.mk.injEq] at H
       obtain ⟨rfl, rfl, rfl, rfl⟩ := H
       have hnb30 := NB118_116.out; have hnc30 := NB116_118.out; have hnb31 := NB118_117.out; have hnc31 := NB117_118.out; have hcz32_0 : wc.cell? ⟨gb118, 0, none⟩ = some (.int .i64 0) := (blk_cell BK118.out 0).trans rfl; have hcz32_1 : wc.cell? ⟨gb118, 1, none⟩ = some (.int .i64 0) := (blk_cell BK118.out 1).trans rfl; have hcz32_2 : wc.cell? ⟨gb118, 2, none⟩ = some (.string (⟨#[]⟩ : ByteArray)) := (blk_cell BK118.out 2).trans rfl; have hfz32_0 := blk_frozen BK118.out 0; have hfz32_1 := blk_frozen BK118.out 1; have hfz32_2 := blk_frozen BK118.out 2
       go_wp2_with (first | ((with_reducible refine gate_store (t := 23) (p := 6) rfl ?_); refine store_event (t := 23) (p := 6) (v := ?vo_w33) (w1 := (((wc.setCell ⟨gb118, 0, none⟩ (.int .i64 0)).setCell ⟨gb118, 1, none⟩ (.int .i64 0)).setCell ⟨gb118, 2, none⟩ (.string (⟨#[]⟩ : ByteArray)))) ?hg ?ho ?hn ?hr ?_; (case ho => rfl); (case hg => rfl); (case hn => rfl); (case hr => first | (go_simp; done) | (go_simp; rfl)); intro w33 hw; replace BK116 := bw BK116 hw; replace BK117 := bw BK117 hw; replace BK118 : Aside0 (w33.heap[gb118]? = some (.cells #[.int .i64 0, .int .i64 0, .string (⟨#[]⟩ : ByteArray)] 23 (0, 0))) := bp BK118 hw; replace HB := bv hw; clear hw))
       refine bodyPost_ret (results_ct rfl _ _ gb118 23 #[.int .i64 0, .int .i64 0, .string (⟨#[]⟩ : ByteArray)] (0, 0) _ rfl (by (with_reducible repeat first | apply bN | apply bD | apply bA); exact BK118.out) Tryd.underlying23 rfl (by kernel_rfl)) rfl ?_
       exact ⟨by first | (simp only [ByteArray.size_extract, Nat.min_self]; rfl) | rfl | (simp [errW_none, errW_some] <;> rfl) | (simp [*, errW_none, errW_some] <;> rfl), by repeat (first | (with_reducible first | exact HB.out | apply pA | apply pN | apply pD | refine pS ?_ GE116.out | refine pS ?_ GE117.out | refine pS ?_ GE118.out) | exact HB.out)⟩
      ·
       replace c29 := Bool.eq_false_iff.mpr c29
       subst c29
       have H1 : (if a1_0 = 0 then (value_Compare.j2 kj13 a0 true a1_0 a1_1 a1_2 a2_0 a2_1 a2_2) else (value_Compare.j2 kj13 a0 (a2_0 == 0) a1_0 a1_1 a1_2 a2_0 a2_1 a2_2)) = some (r1, r2, r3, r4) := by rw [if_neg (show ¬ (false = true) by decide)] at H; exact H
       clear H; have H := H1; clear H1; have HC34 := Aside0.mk H; clear H
       go_upto_region 5 with (fail)
       go_cut [27] (fun v27 wc => ∃ (kq : Nat) (x27_33 : Bool), v27 = .bool x27_33 ∧ Aside0 (value_Compare.j2 kq a0 x27_33 a1_0 a1_1 a1_2 a2_0 a2_1 a2_2 = some (r1, r2, r3, r4)) ∧ Aside0 (kq ≤ kj13) ∧ Aside0 (wc.heap[gb116]? = some (.cells #[.int .i64 a1_0, .int .i64 a1_1, .string a1_2] 23 (0, 0))) ∧ Aside0 (wc.heap[gb117]? = some (.cells #[.int .i64 a2_0, .int .i64 a2_1, .string a2_2] 23 (0, 0))) ∧ Aside0 (wc.heap[gb118]? = some (.cells #[.int .i64 0, .int .i64 0, .string (⟨#[]⟩ : ByteArray)] 23 (0, 0))) ∧ Aside0 (Below w.heap.size w wc))
       case first =>
        have H := HC34.out; clear HC34
        by_cases c35 : a1_0 = 0
        ·
         rw [if_pos c35] at H
         have c35b0 : (a1_0 == 0) = true := beq_iff_eq.mpr c35; have c35b1 : (a1_0 != 0) = false := bne_eq_false_iff_eq.mpr c35; clear c35
         (first | rw [c35b0] | (simp only [i64_w, i32_w, u8_w, u32_w]; rw [c35b0]) | rw [c35b1] | skip)
         have H' := Aside0.mk H
         clear H; have hnb36 := NB116_117.out; have hnc36 := NB117_116.out; have hnb37 := NB116_118.out; have hnc37 := NB118_116.out; have hcz38_0 : wc.cell? ⟨gb116, 0, none⟩ = some (.int .i64 a1_0) := (blk_cell BK116.out 0).trans rfl; have hcz38_1 : wc.cell? ⟨gb116, 1, none⟩ = some (.int .i64 a1_1) := (blk_cell BK116.out 1).trans rfl; have hcz38_2 : wc.cell? ⟨gb116, 2, none⟩ = some (.string a1_2) := (blk_cell BK116.out 2).trans rfl; have hfz38_0 := blk_frozen BK116.out 0; have hfz38_1 := blk_frozen BK116.out 1; have hfz38_2 := blk_frozen BK116.out 2
         go_wp2
         go_meet
         case rel => exact ⟨_, (true), (by first | rfl | (simp; done) | (simp [*]; done)), H', ⟨by have := HJ3.out; have := HJ13.out; first | omega | exact Nat.le_refl _⟩, ⟨by exact BK116.out⟩, ⟨by exact BK117.out⟩, ⟨by exact BK118.out⟩, ⟨by exact HB.out⟩⟩
        ·
         rw [if_neg c35] at H
         have c35b0 : (a1_0 == 0) = false := beq_eq_false_iff_ne.mpr c35; have c35b1 : (a1_0 != 0) = true := bne_iff_ne.mpr c35
         (first | rw [c35b0] | (simp only [i64_w, i32_w, u8_w, u32_w]; rw [c35b0]) | rw [c35b1] | skip)
         have H' := Aside0.mk H
         clear H; have hnb39 := NB116_117.out; have hnc39 := NB117_116.out; have hnb40 := NB116_118.out; have hnc40 := NB118_116.out; have hcz41_0 : wc.cell? ⟨gb116, 0, none⟩ = some (.int .i64 a1_0) := (blk_cell BK116.out 0).trans rfl; have hcz41_1 : wc.cell? ⟨gb116, 1, none⟩ = some (.int .i64 a1_1) := (blk_cell BK116.out 1).trans rfl; have hcz41_2 : wc.cell? ⟨gb116, 2, none⟩ = some (.string a1_2) := (blk_cell BK116.out 2).trans rfl; have hfz41_0 := blk_frozen BK116.out 0; have hfz41_1 := blk_frozen BK116.out 1; have hfz41_2 := blk_frozen BK116.out 2; have hnb42 := NB117_118.out; have hnc42 := NB118_117.out; have hcz43_0 : wc.cell? ⟨gb117, 0, none⟩ = some (.int .i64 a2_0) := (blk_cell BK117.out 0).trans rfl; have hcz43_1 : wc.cell? ⟨gb117, 1, none⟩ = some (.int .i64 a2_1) := (blk_cell BK117.out 1).trans rfl; have hcz43_2 : wc.cell? ⟨gb117, 2, none⟩ = some (.string a2_2) := (blk_cell BK117.out 2).trans rfl; have hfz43_0 := blk_frozen BK117.out 0; have hfz43_1 := blk_frozen BK117.out 1; have hfz43_2 := blk_frozen BK117.out 2
         go_wp2
         go_meet
         case rel => exact ⟨_, ((a2_0 == 0)), (by first | rfl | (simp; done) | (simp [*]; done)), H', ⟨by have := HJ3.out; have := HJ13.out; first | omega | exact Nat.le_refl _⟩, ⟨by exact BK116.out⟩, ⟨by exact BK117.out⟩, ⟨by exact BK118.out⟩, ⟨by exact HB.out⟩⟩
       case rest =>
        clear HC34; (try clear c1); (try clear c2); (try clear p2); (try clear c3); (try clear c4); (try clear c8); (try clear c8b0); (try clear c8b1); (try clear c9); (try clear c10); (try clear c11); (try clear c13); (try clear c16); (try clear c17); (try clear c18); (try clear c19); (try clear c22); (try clear c25); (try clear c26); (try clear c29); (try clear c30); (try clear c31); (try clear c35); (try clear c35b0); (try clear c35b1); (try clear c36); (try clear c37); (try clear c39); (try clear c40); (try clear c42); (try clear hcz12_0); (try clear hcz12_1); (try clear hcz12_2); (try clear hcz20_0); (try clear hcz20_1); (try clear hcz20_2); (try clear hcz23_0); (try clear hcz23_1); (try clear hcz23_2); (try clear hcz27_0); (try clear hcz27_1); (try clear hcz27_2); (try clear hcz32_0); (try clear hcz32_1); (try clear hcz32_2); (try clear hcz38_0); (try clear hcz38_1); (try clear hcz38_2); (try clear hcz41_0); (try clear hcz41_1); (try clear hcz41_2); (try clear hcz43_0); (try clear hcz43_1); (try clear hcz43_2); (try clear hfz12_0); (try clear hfz12_1); (try clear hfz12_2); (try clear hfz20_0); (try clear hfz20_1); (try clear hfz20_2); (try clear hfz23_0); (try clear hfz23_1); (try clear hfz23_2); (try clear hfz27_0); (try clear hfz27_1); (try clear hfz27_2); (try clear hfz32_0); (try clear hfz32_1); (try clear hfz32_2); (try clear hfz38_0); (try clear hfz38_1); (try clear hfz38_2); (try clear hfz41_0); (try clear hfz41_1); (try clear hfz41_2); (try clear hfz43_0); (try clear hfz43_1); (try clear hfz43_2); (try clear p2)
        obtain ⟨kq, x27_33, rfl, HA, HJ33, BK116, BK117, BK118, HB⟩ := hcut
        cases kq with
        | zero => exact absurd HA.out (by simp [value_Compare.j2])
        | succ kj33 =>
         have H := HA.out; clear HA
         simp only [value_Compare.j2] at H
         by_cases c44 : x27_33 = true
         ·
          subst c44
          have H1 : (some (0, 0, (⟨#[]⟩ : ByteArray), 0)) = some (r1, r2, r3, r4) := by (first | rw [if_pos rfl] at H | rw [if_pos True.intro] at H | skip); exact H
          clear H; have H := H1; clear H1
          simp only [Option.some.injEq, Prod.mk.injEq] at H
          obtain ⟨rfl, rfl, rfl, rfl⟩ := H
          have hnb45 := NB118_116.out; have hnc45 := NB116_118.out; have hnb46 := NB118_117.out; have hnc46 := NB117_118.out; have hcz47_0 : wc.cell? ⟨gb118, 0, none⟩ = some (.int .i64 0) := (blk_cell BK118.out 0).trans rfl; have hcz47_1 : wc.cell? ⟨gb118, 1, none⟩ = some (.int .i64 0) := (blk_cell BK118.out 1).trans rfl; have hcz47_2 : wc.cell? ⟨gb118, 2, none⟩ = some (.string (⟨#[]⟩ : ByteArray)) := (blk_cell BK118.out 2).trans rfl; have hfz47_0 := blk_frozen BK118.out 0; have hfz47_1 := blk_frozen BK118.out 1; have hfz47_2 := blk_frozen BK118.out 2
          go_wp2_with (first | ((with_reducible refine gate_store (t := 23) (p := 6) rfl ?_); refine store_event (t := 23) (p := 6) (v := ?vo_w48) (w1 := (((wc.setCell ⟨gb118, 0, none⟩ (.int .i64 0)).setCell ⟨gb118, 1, none⟩ (.int .i64 0)).setCell ⟨gb118, 2, none⟩ (.string (⟨#[]⟩ : ByteArray)))) ?hg ?ho ?hn ?hr ?_; (case ho => rfl); (case hg => rfl); (case hn => rfl); (case hr => first | (go_simp; done) | (go_simp; rfl)); intro w48 hw; replace BK116 := bw BK116 hw; replace BK117 := bw BK117 hw; replace BK118 : Aside0 (w48.heap[gb118]? = some (.cells #[.int .i64 0, .int .i64 0, .string (⟨#[]⟩ : ByteArray)] 23 (0, 0))) := bp BK118 hw; replace HB := bv hw; clear hw))
          refine bodyPost_ret (results_ct rfl _ _ gb118 23 #[.int .i64 0, .int .i64 0, .string (⟨#[]⟩ : ByteArray)] (0, 0) _ rfl (by (with_reducible repeat first | apply bN | apply bD | apply bA); exact BK118.out) Tryd.underlying23 rfl (by kernel_rfl)) rfl ?_
          exact ⟨by first | (simp only [ByteArray.size_extract, Nat.min_self]; rfl) | rfl | (simp [errW_none, errW_some] <;> rfl) | (simp [*, errW_none, errW_some] <;> rfl), by repeat (first | (with_reducible first | exact HB.out | apply pA | apply pN | apply pD | refine pS ?_ GE116.out | refine pS ?_ GE117.out | refine pS ?_ GE118.out) | exact HB.out)⟩
         ·
          replace c44 := Bool.eq_false_iff.mpr c44
          subst c44
          have H1 : (if a1_0 = a2_0 then ((value_Order.f kj33 a1_0 a1_1 a1_2 a2_0 a2_1 a2_2).bind fun t121 => (if a0 = 1 then ((value_truth.f (t121 == 0)).bind fun bt122 => (some (bt122.1, bt122.2.1, bt122.2.2, 0))) else (if a0 = 2 then ((value_truth.f (t121 != 0)).bind fun bt125 => (some (bt125.1, bt125.2.1, bt125.2.2, 0))) else (if a0 = 3 then ((value_truth.f (decide (t121 < 0))).bind fun bt128 => (some (bt128.1, bt128.2.1, bt128.2.2, 0))) else (if a0 = 4 then ((value_truth.f (decide (t121 ≤ 0))).bind fun bt131 => (some (bt131.1, bt131.2.1, bt131.2.2, 0))) else (if a0 = 5 then ((value_truth.f (decide (t121 > 0))).bind fun bt134 => (some (bt134.1, bt134.2.1, bt134.2.2, 0))) else ((value_truth.f (decide (t121 ≥ 0))).bind fun bt137 => (some (bt137.1, bt137.2.1, bt137.2.2, 0))))))))) else (some (0, 0, (⟨#[]⟩ : ByteArray), 11))) = some (r1, r2, r3, r4) := by rw [if_neg (show ¬ (false = true) by decide)] at H; exact H
          clear H; have H := H1; clear H1
          by_cases c49 : a1_0 = a2_0
          ·
           rw [if_pos c49] at H
           have c49b0 : (a1_0 == a2_0) = true := beq_iff_eq.mpr c49; have c49b1 : (a1_0 != a2_0) = false := bne_eq_false_iff_eq.mpr c49; clear c49; replace H := Option.bind_eq_some_iff.mp H
           obtain ⟨t121, A500, H⟩ := H
           replace H : (if a0 = 1 then ((value_truth.f (t121 == 0)).bind fun bt122 => (some (bt122.1, bt122.2.1, bt122.2.2, 0))) else (if a0 = 2 then ((value_truth.f (t121 != 0)).bind fun bt125 => (some (bt125.1, bt125.2.1, bt125.2.2, 0))) else (if a0 = 3 then ((value_truth.f (decide (t121 < 0))).bind fun bt128 => (some (bt128.1, bt128.2.1, bt128.2.2, 0))) else (if a0 = 4 then ((value_truth.f (decide (t121 ≤ 0))).bind fun bt131 => (some (bt131.1, bt131.2.1, bt131.2.2, 0))) else (if a0 = 5 then ((value_truth.f (decide (t121 > 0))).bind fun bt134 => (some (bt134.1, bt134.2.1, bt134.2.2, 0))) else ((value_truth.f (decide (t121 ≥ 0))).bind fun bt137 => (some (bt137.1, bt137.2.1, bt137.2.2, 0)))))))) = some (r1, r2, r3, r4) := H; have A50 := Aside0.mk A500; clear A500
           by_cases c51 : a0 = 1
           ·
            rw [if_pos c51] at H
            have c51b0 : (a0 == 1) = true := beq_iff_eq.mpr c51; have c51b1 : (a0 != 1) = false := bne_eq_false_iff_eq.mpr c51; clear c51; replace H := Option.bind_eq_some_iff.mp H
            obtain ⟨⟨t122, t123, t124⟩, A520, H⟩ := H
            replace H : (some (t122, t123, t124, 0)) = some (r1, r2, r3, r4) := H; have A52 := Aside0.mk A520; clear A520
            simp only [Option.some.injEq, Prod.mk.injEq] at H
            obtain ⟨rfl, rfl, rfl, rfl⟩ := H
            have hnb53 := NB116_117.out; have hnc53 := NB117_116.out; have hnb54 := NB116_118.out; have hnc54 := NB118_116.out; have hcz55_0 : wc.cell? ⟨gb116, 0, none⟩ = some (.int .i64 a1_0) := (blk_cell BK116.out 0).trans rfl; have hcz55_1 : wc.cell? ⟨gb116, 1, none⟩ = some (.int .i64 a1_1) := (blk_cell BK116.out 1).trans rfl; have hcz55_2 : wc.cell? ⟨gb116, 2, none⟩ = some (.string a1_2) := (blk_cell BK116.out 2).trans rfl; have hfz55_0 := blk_frozen BK116.out 0; have hfz55_1 := blk_frozen BK116.out 1; have hfz55_2 := blk_frozen BK116.out 2; have hnb56 := NB117_118.out; have hnc56 := NB118_117.out; have hcz57_0 : wc.cell? ⟨gb117, 0, none⟩ = some (.int .i64 a2_0) := (blk_cell BK117.out 0).trans rfl; have hcz57_1 : wc.cell? ⟨gb117, 1, none⟩ = some (.int .i64 a2_1) := (blk_cell BK117.out 1).trans rfl; have hcz57_2 : wc.cell? ⟨gb117, 2, none⟩ = some (.string a2_2) := (blk_cell BK117.out 2).trans rfl; have hfz57_0 := blk_frozen BK117.out 0; have hfz57_1 := blk_frozen BK117.out 1; have hfz57_2 := blk_frozen BK117.out 2
            go_wp2_with (first | ((with_reducible refine gate_callee (f := 15) rfl ?_); refine gL (some 46) Tryd.func15 #[.agg #[.int .i64 a1_0, .int .i64 a1_1, .string a1_2], .agg #[.int .i64 a2_0, .int .i64 a2_1, .string a2_2]] ?_; (with_reducible refine (value_Order.calls kj33 a1_0 a1_1 a1_2 a2_0 a2_1 a2_2 t121 _ A50.out).mono ?_); rintro e w58 ⟨rfl, hb⟩; refine ⟨_, rfl, ?_⟩; replace BK116 := bb BK116 hb; replace BK117 := bb BK117 hb; replace BK118 := bb BK118 hb; replace HB := bs hb; (try clear hb); (try clear hb2); (try clear hk); (try clear hi)) | ((with_reducible refine gate_callee (f := 42) rfl ?_); refine gL (some 52) Tryd.func42 #[.bool (t121 == 0)] ?_; (with_reducible refine (value_truth.calls (t121 == 0) t122 t123 t124 _ A52.out).mono ?_); rintro e w59 ⟨rfl, hb⟩; refine ⟨_, rfl, ?_⟩; replace BK116 := bb BK116 hb; replace BK117 := bb BK117 hb; replace BK118 := bb BK118 hb; replace HB := bs hb; (try clear hb); (try clear hb2); (try clear hk); (try clear hi); have hcz60_0 : w59.cell? ⟨gb118, 0, none⟩ = some (.int .i64 0) := (blk_cell BK118.out 0).trans rfl; have hcz60_1 : w59.cell? ⟨gb118, 1, none⟩ = some (.int .i64 0) := (blk_cell BK118.out 1).trans rfl; have hcz60_2 : w59.cell? ⟨gb118, 2, none⟩ = some (.string (⟨#[]⟩ : ByteArray)) := (blk_cell BK118.out 2).trans rfl; have hfz60_0 := blk_frozen BK118.out 0; have hfz60_1 := blk_frozen BK118.out 1; have hfz60_2 := blk_frozen BK118.out 2) | ((with_reducible refine gate_store (t := 23) (p := 6) rfl ?_); refine store_event (t := 23) (p := 6) (v := ?vo_w61) (w1 := (((w59.setCell ⟨gb118, 0, none⟩ (.int .i64 t122)).setCell ⟨gb118, 1, none⟩ (.int .i64 t123)).setCell ⟨gb118, 2, none⟩ (.string t124))) ?hg ?ho ?hn ?hr ?_; (case ho => rfl); (case hg => rfl); (case hn => rfl); (case hr => first | (go_simp; done) | (go_simp; rfl)); intro w61 hw; replace BK116 := bw BK116 hw; replace BK117 := bw BK117 hw; replace BK118 : Aside0 (w61.heap[gb118]? = some (.cells #[.int .i64 t122, .int .i64 t123, .string t124] 23 (0, 0))) := bp BK118 hw; replace HB := bv hw; clear hw))
            refine bodyPost_ret (results_ct rfl _ _ gb118 23 #[.int .i64 t122, .int .i64 t123, .string t124] (0, 0) _ rfl (by (with_reducible repeat first | apply bN | apply bD | apply bA); exact BK118.out) Tryd.underlying23 rfl (by kernel_rfl)) rfl ?_
            exact ⟨by first | (simp only [ByteArray.size_extract, Nat.min_self]; rfl) | rfl | (simp [errW_none, errW_some] <;> rfl) | (simp [*, errW_none, errW_some] <;> rfl), by repeat (first | (with_reducible first | exact HB.out | apply pA | apply pN | apply pD | refine pS ?_ GE116.out | refine pS ?_ GE117.out | refine pS ?_ GE118.out) | exact HB.out)⟩
           ·
            rw [if_neg c51] at H
            have c51b0 : (a0 == 1) = false := beq_eq_false_iff_ne.mpr c51; have c51b1 : (a0 != 1) = true := bne_iff_ne.mpr c51
            by_cases c62 : a0 = 2
            ·
             rw [if_pos c62] at H
             have c62b0 : (a0 == 2) = true := beq_iff_eq.mpr c62; have c62b1 : (a0 != 2) = false := bne_eq_false_iff_eq.mpr c62; clear c62; replace H := Option.bind_eq_some_iff.mp H
             obtain ⟨⟨t125, t126, t127⟩, A630, H⟩ := H
             replace H : (some (t125, t126, t127, 0)) = some (r1, r2, r3, r4) := H; have A63 := Aside0.mk A630; clear A630
             simp only [Option.some.injEq, Prod.mk.injEq] at H
             obtain ⟨rfl, rfl, rfl, rfl⟩ := H
             have hnb64 := NB116_117.out; have hnc64 := NB117_116.out; have hnb65 := NB116_118.out; have hnc65 := NB118_116.out; have hcz66_0 : wc.cell? ⟨gb116, 0, none⟩ = some (.int .i64 a1_0) := (blk_cell BK116.out 0).trans rfl; have hcz66_1 : wc.cell? ⟨gb116, 1, none⟩ = some (.int .i64 a1_1) := (blk_cell BK116.out 1).trans rfl; have hcz66_2 : wc.cell? ⟨gb116, 2, none⟩ = some (.string a1_2) := (blk_cell BK116.out 2).trans rfl; have hfz66_0 := blk_frozen BK116.out 0; have hfz66_1 := blk_frozen BK116.out 1; have hfz66_2 := blk_frozen BK116.out 2; have hnb67 := NB117_118.out; have hnc67 := NB118_117.out; have hcz68_0 : wc.cell? ⟨gb117, 0, none⟩ = some (.int .i64 a2_0) := (blk_cell BK117.out 0).trans rfl; have hcz68_1 : wc.cell? ⟨gb117, 1, none⟩ = some (.int .i64 a2_1) := (blk_cell BK117.out 1).trans rfl; have hcz68_2 : wc.cell? ⟨gb117, 2, none⟩ = some (.string a2_2) := (blk_cell BK117.out 2).trans rfl; have hfz68_0 := blk_frozen BK117.out 0; have hfz68_1 := blk_frozen BK117.out 1; have hfz68_2 := blk_frozen BK117.out 2
             go_wp2_with (first | ((with_reducible refine gate_callee (f := 15) rfl ?_); refine gL (some 46) Tryd.func15 #[.agg #[.int .i64 a1_0, .int .i64 a1_1, .string a1_2], .agg #[.int .i64 a2_0, .int .i64 a2_1, .string a2_2]] ?_; (with_reducible refine (value_Order.calls kj33 a1_0 a1_1 a1_2 a2_0 a2_1 a2_2 t121 _ A50.out).mono ?_); rintro e w69 ⟨rfl, hb⟩; refine ⟨_, rfl, ?_⟩; replace BK116 := bb BK116 hb; replace BK117 := bb BK117 hb; replace BK118 := bb BK118 hb; replace HB := bs hb; (try clear hb); (try clear hb2); (try clear hk); (try clear hi)) | ((with_reducible refine gate_callee (f := 42) rfl ?_); refine gL (some 57) Tryd.func42 #[.bool (t121 != 0)] ?_; (with_reducible refine (value_truth.calls (t121 != 0) t125 t126 t127 _ A63.out).mono ?_); rintro e w70 ⟨rfl, hb⟩; refine ⟨_, rfl, ?_⟩; replace BK116 := bb BK116 hb; replace BK117 := bb BK117 hb; replace BK118 := bb BK118 hb; replace HB := bs hb; (try clear hb); (try clear hb2); (try clear hk); (try clear hi); have hcz71_0 : w70.cell? ⟨gb118, 0, none⟩ = some (.int .i64 0) := (blk_cell BK118.out 0).trans rfl; have hcz71_1 : w70.cell? ⟨gb118, 1, none⟩ = some (.int .i64 0) := (blk_cell BK118.out 1).trans rfl; have hcz71_2 : w70.cell? ⟨gb118, 2, none⟩ = some (.string (⟨#[]⟩ : ByteArray)) := (blk_cell BK118.out 2).trans rfl; have hfz71_0 := blk_frozen BK118.out 0; have hfz71_1 := blk_frozen BK118.out 1; have hfz71_2 := blk_frozen BK118.out 2) | ((with_reducible refine gate_store (t := 23) (p := 6) rfl ?_); refine store_event (t := 23) (p := 6) (v := ?vo_w72) (w1 := (((w70.setCell ⟨gb118, 0, none⟩ (.int .i64 t125)).setCell ⟨gb118, 1, none⟩ (.int .i64 t126)).setCell ⟨gb118, 2, none⟩ (.string t127))) ?hg ?ho ?hn ?hr ?_; (case ho => rfl); (case hg => rfl); (case hn => rfl); (case hr => first | (go_simp; done) | (go_simp; rfl)); intro w72 hw; replace BK116 := bw BK116 hw; replace BK117 := bw BK117 hw; replace BK118 : Aside0 (w72.heap[gb118]? = some (.cells #[.int .i64 t125, .int .i64 t126, .string t127] 23 (0, 0))) := bp BK118 hw; replace HB := bv hw; clear hw))
             refine bodyPost_ret (results_ct rfl _ _ gb118 23 #[.int .i64 t125, .int .i64 t126, .string t127] (0, 0) _ rfl (by (with_reducible repeat first | apply bN | apply bD | apply bA); exact BK118.out) Tryd.underlying23 rfl (by kernel_rfl)) rfl ?_
             exact ⟨by first | (simp only [ByteArray.size_extract, Nat.min_self]; rfl) | rfl | (simp [errW_none, errW_some] <;> rfl) | (simp [*, errW_none, errW_some] <;> rfl), by repeat (first | (with_reducible first | exact HB.out | apply pA | apply pN | apply pD | refine pS ?_ GE116.out | refine pS ?_ GE117.out | refine pS ?_ GE118.out) | exact HB.out)⟩
            ·
             rw [if_neg c62] at H
             have c62b0 : (a0 == 2) = false := beq_eq_false_iff_ne.mpr c62; have c62b1 : (a0 != 2) = true := bne_iff_ne.mpr c62
             by_cases c73 : a0 = 3
             ·
              rw [if_pos c73] at H
              have c73b0 : (a0 == 3) = true := beq_iff_eq.mpr c73; have c73b1 : (a0 != 3) = false := bne_eq_false_iff_eq.mpr c73; clear c73; replace H := Option.bind_eq_some_iff.mp H
              obtain ⟨⟨t128, t129, t130⟩, A740, H⟩ := H
              replace H : (some (t128, t129, t130, 0)) = some (r1, r2, r3, r4) := H; have A74 := Aside0.mk A740; clear A740
              simp only [Option.some.injEq, Prod.mk.injEq] at H
              obtain ⟨rfl, rfl, rfl, rfl⟩ := H
              have hnb75 := NB116_117.out; have hnc75 := NB117_116.out; have hnb76 := NB116_118.out; have hnc76 := NB118_116.out; have hcz77_0 : wc.cell? ⟨gb116, 0, none⟩ = some (.int .i64 a1_0) := (blk_cell BK116.out 0).trans rfl; have hcz77_1 : wc.cell? ⟨gb116, 1, none⟩ = some (.int .i64 a1_1) := (blk_cell BK116.out 1).trans rfl; have hcz77_2 : wc.cell? ⟨gb116, 2, none⟩ = some (.string a1_2) := (blk_cell BK116.out 2).trans rfl; have hfz77_0 := blk_frozen BK116.out 0; have hfz77_1 := blk_frozen BK116.out 1; have hfz77_2 := blk_frozen BK116.out 2; have hnb78 := NB117_118.out; have hnc78 := NB118_117.out; have hcz79_0 : wc.cell? ⟨gb117, 0, none⟩ = some (.int .i64 a2_0) := (blk_cell BK117.out 0).trans rfl; have hcz79_1 : wc.cell? ⟨gb117, 1, none⟩ = some (.int .i64 a2_1) := (blk_cell BK117.out 1).trans rfl; have hcz79_2 : wc.cell? ⟨gb117, 2, none⟩ = some (.string a2_2) := (blk_cell BK117.out 2).trans rfl; have hfz79_0 := blk_frozen BK117.out 0; have hfz79_1 := blk_frozen BK117.out 1; have hfz79_2 := blk_frozen BK117.out 2
              go_wp2_with (first | ((with_reducible refine gate_callee (f := 15) rfl ?_); refine gL (some 46) Tryd.func15 #[.agg #[.int .i64 a1_0, .int .i64 a1_1, .string a1_2], .agg #[.int .i64 a2_0, .int .i64 a2_1, .string a2_2]] ?_; (with_reducible refine (value_Order.calls kj33 a1_0 a1_1 a1_2 a2_0 a2_1 a2_2 t121 _ A50.out).mono ?_); rintro e w80 ⟨rfl, hb⟩; refine ⟨_, rfl, ?_⟩; replace BK116 := bb BK116 hb; replace BK117 := bb BK117 hb; replace BK118 := bb BK118 hb; replace HB := bs hb; (try clear hb); (try clear hb2); (try clear hk); (try clear hi)) | ((with_reducible refine gate_callee (f := 42) rfl ?_); refine gL (some 62) Tryd.func42 #[.bool (decide (t121 < 0))] ?_; (with_reducible refine (value_truth.calls (decide (t121 < 0)) t128 t129 t130 _ A74.out).mono ?_); rintro e w81 ⟨rfl, hb⟩; refine ⟨_, rfl, ?_⟩; replace BK116 := bb BK116 hb; replace BK117 := bb BK117 hb; replace BK118 := bb BK118 hb; replace HB := bs hb; (try clear hb); (try clear hb2); (try clear hk); (try clear hi); have hcz82_0 : w81.cell? ⟨gb118, 0, none⟩ = some (.int .i64 0) := (blk_cell BK118.out 0).trans rfl; have hcz82_1 : w81.cell? ⟨gb118, 1, none⟩ = some (.int .i64 0) := (blk_cell BK118.out 1).trans rfl; have hcz82_2 : w81.cell? ⟨gb118, 2, none⟩ = some (.string (⟨#[]⟩ : ByteArray)) := (blk_cell BK118.out 2).trans rfl; have hfz82_0 := blk_frozen BK118.out 0; have hfz82_1 := blk_frozen BK118.out 1; have hfz82_2 := blk_frozen BK118.out 2) | ((with_reducible refine gate_store (t := 23) (p := 6) rfl ?_); refine store_event (t := 23) (p := 6) (v := ?vo_w83) (w1 := (((w81.setCell ⟨gb118, 0, none⟩ (.int .i64 t128)).setCell ⟨gb118, 1, none⟩ (.int .i64 t129)).setCell ⟨gb118, 2, none⟩ (.string t130))) ?hg ?ho ?hn ?hr ?_; (case ho => rfl); (case hg => rfl); (case hn => rfl); (case hr => first | (go_simp; done) | (go_simp; rfl)); intro w83 hw; replace BK116 := bw BK116 hw; replace BK117 := bw BK117 hw; replace BK118 : Aside0 (w83.heap[gb118]? = some (.cells #[.int .i64 t128, .int .i64 t129, .string t130] 23 (0, 0))) := bp BK118 hw; replace HB := bv hw; clear hw))
              refine bodyPost_ret (results_ct rfl _ _ gb118 23 #[.int .i64 t128, .int .i64 t129, .string t130] (0, 0) _ rfl (by (with_reducible repeat first | apply bN | apply bD | apply bA); exact BK118.out) Tryd.underlying23 rfl (by kernel_rfl)) rfl ?_
              exact ⟨by first | (simp only [ByteArray.size_extract, Nat.min_self]; rfl) | rfl | (simp [errW_none, errW_some] <;> rfl) | (simp [*, errW_none, errW_some] <;> rfl), by repeat (first | (with_reducible first | exact HB.out | apply pA | apply pN | apply pD | refine pS ?_ GE116.out | refine pS ?_ GE117.out | refine pS ?_ GE118.out) | exact HB.out)⟩
             ·
              rw [if_neg c73] at H
              have c73b0 : (a0 == 3) = false := beq_eq_false_iff_ne.mpr c73; have c73b1 : (a0 != 3) = true := bne_iff_ne.mpr c73
              by_cases c84 : a0 = 4
              ·
               rw [if_pos c84] at H
               have c84b0 : (a0 == 4) = true := beq_iff_eq.mpr c84; have c84b1 : (a0 != 4) = false := bne_eq_false_iff_eq.mpr c84; clear c84; replace H := Option.bind_eq_some_iff.mp H
               obtain ⟨⟨t131, t132, t133⟩, A850, H⟩ := H
               replace H : (some (t131, t132, t133, 0)) = some (r1, r2, r3, r4) := H; have A85 := Aside0.mk A850; clear A850
               simp only [Option.some.injEq, Prod.mk.injEq] at H
               obtain ⟨rfl, rfl, rfl, rfl⟩ := H
               have hnb86 := NB116_117.out; have hnc86 := NB117_116.out; have hnb87 := NB116_118.out; have hnc87 := NB118_116.out; have hcz88_0 : wc.cell? ⟨gb116, 0, none⟩ = some (.int .i64 a1_0) := (blk_cell BK116.out 0).trans rfl; have hcz88_1 : wc.cell? ⟨gb116, 1, none⟩ = some (.int .i64 a1_1) := (blk_cell BK116.out 1).trans rfl; have hcz88_2 : wc.cell? ⟨gb116, 2, none⟩ = some (.string a1_2) := (blk_cell BK116.out 2).trans rfl; have hfz88_0 := blk_frozen BK116.out 0; have hfz88_1 := blk_frozen BK116.out 1; have hfz88_2 := blk_frozen BK116.out 2; have hnb89 := NB117_118.out; have hnc89 := NB118_117.out; have hcz90_0 : wc.cell? ⟨gb117, 0, none⟩ = some (.int .i64 a2_0) := (blk_cell BK117.out 0).trans rfl; have hcz90_1 : wc.cell? ⟨gb117, 1, none⟩ = some (.int .i64 a2_1) := (blk_cell BK117.out 1).trans rfl; have hcz90_2 : wc.cell? ⟨gb117, 2, none⟩ = some (.string a2_2) := (blk_cell BK117.out 2).trans rfl; have hfz90_0 := blk_frozen BK117.out 0; have hfz90_1 := blk_frozen BK117.out 1; have hfz90_2 := blk_frozen BK117.out 2
               go_wp2_with (first | ((with_reducible refine gate_callee (f := 15) rfl ?_); refine gL (some 46) Tryd.func15 #[.agg #[.int .i64 a1_0, .int .i64 a1_1, .string a1_2], .agg #[.int .i64 a2_0, .int .i64 a2_1, .string a2_2]] ?_; (with_reducible refine (value_Order.calls kj33 a1_0 a1_1 a1_2 a2_0 a2_1 a2_2 t121 _ A50.out).mono ?_); rintro e w91 ⟨rfl, hb⟩; refine ⟨_, rfl, ?_⟩; replace BK116 := bb BK116 hb; replace BK117 := bb BK117 hb; replace BK118 := bb BK118 hb; replace HB := bs hb; (try clear hb); (try clear hb2); (try clear hk); (try clear hi)) | ((with_reducible refine gate_callee (f := 42) rfl ?_); refine gL (some 67) Tryd.func42 #[.bool (decide (t121 ≤ 0))] ?_; (with_reducible refine (value_truth.calls (decide (t121 ≤ 0)) t131 t132 t133 _ A85.out).mono ?_); rintro e w92 ⟨rfl, hb⟩; refine ⟨_, rfl, ?_⟩; replace BK116 := bb BK116 hb; replace BK117 := bb BK117 hb; replace BK118 := bb BK118 hb; replace HB := bs hb; (try clear hb); (try clear hb2); (try clear hk); (try clear hi); have hcz93_0 : w92.cell? ⟨gb118, 0, none⟩ = some (.int .i64 0) := (blk_cell BK118.out 0).trans rfl; have hcz93_1 : w92.cell? ⟨gb118, 1, none⟩ = some (.int .i64 0) := (blk_cell BK118.out 1).trans rfl; have hcz93_2 : w92.cell? ⟨gb118, 2, none⟩ = some (.string (⟨#[]⟩ : ByteArray)) := (blk_cell BK118.out 2).trans rfl; have hfz93_0 := blk_frozen BK118.out 0; have hfz93_1 := blk_frozen BK118.out 1; have hfz93_2 := blk_frozen BK118.out 2) | ((with_reducible refine gate_store (t := 23) (p := 6) rfl ?_); refine store_event (t := 23) (p := 6) (v := ?vo_w94) (w1 := (((w92.setCell ⟨gb118, 0, none⟩ (.int .i64 t131)).setCell ⟨gb118, 1, none⟩ (.int .i64 t132)).setCell ⟨gb118, 2, none⟩ (.string t133))) ?hg ?ho ?hn ?hr ?_; (case ho => rfl); (case hg => rfl); (case hn => rfl); (case hr => first | (go_simp; done) | (go_simp; rfl)); intro w94 hw; replace BK116 := bw BK116 hw; replace BK117 := bw BK117 hw; replace BK118 : Aside0 (w94.heap[gb118]? = some (.cells #[.int .i64 t131, .int .i64 t132, .string t133] 23 (0, 0))) := bp BK118 hw; replace HB := bv hw; clear hw))
               refine bodyPost_ret (results_ct rfl _ _ gb118 23 #[.int .i64 t131, .int .i64 t132, .string t133] (0, 0) _ rfl (by (with_reducible repeat first | apply bN | apply bD | apply bA); exact BK118.out) Tryd.underlying23 rfl (by kernel_rfl)) rfl ?_
               exact ⟨by first | (simp only [ByteArray.size_extract, Nat.min_self]; rfl) | rfl | (simp [errW_none, errW_some] <;> rfl) | (simp [*, errW_none, errW_some] <;> rfl), by repeat (first | (with_reducible first | exact HB.out | apply pA | apply pN | apply pD | refine pS ?_ GE116.out | refine pS ?_ GE117.out | refine pS ?_ GE118.out) | exact HB.out)⟩
              ·
               rw [if_neg c84] at H
               have c84b0 : (a0 == 4) = false := beq_eq_false_iff_ne.mpr c84; have c84b1 : (a0 != 4) = true := bne_iff_ne.mpr c84
               by_cases c95 : a0 = 5
               ·
                rw [if_pos c95] at H
                have c95b0 : (a0 == 5) = true := beq_iff_eq.mpr c95; have c95b1 : (a0 != 5) = false := bne_eq_false_iff_eq.mpr c95; clear c95; replace H := Option.bind_eq_some_iff.mp H
                obtain ⟨⟨t134, t135, t136⟩, A960, H⟩ := H
                replace H : (some (t134, t135, t136, 0)) = some (r1, r2, r3, r4) := H; have A96 := Aside0.mk A960; clear A960
                simp only [Option.some.injEq, Prod.mk.injEq] at H
                obtain ⟨rfl, rfl, rfl, rfl⟩ := H
                have hnb97 := NB116_117.out; have hnc97 := NB117_116.out; have hnb98 := NB116_118.out; have hnc98 := NB118_116.out; have hcz99_0 : wc.cell? ⟨gb116, 0, none⟩ = some (.int .i64 a1_0) := (blk_cell BK116.out 0).trans rfl; have hcz99_1 : wc.cell? ⟨gb116, 1, none⟩ = some (.int .i64 a1_1) := (blk_cell BK116.out 1).trans rfl; have hcz99_2 : wc.cell? ⟨gb116, 2, none⟩ = some (.string a1_2) := (blk_cell BK116.out 2).trans rfl; have hfz99_0 := blk_frozen BK116.out 0; have hfz99_1 := blk_frozen BK116.out 1; have hfz99_2 := blk_frozen BK116.out 2; have hnb100 := NB117_118.out; have hnc100 := NB118_117.out; have hcz101_0 : wc.cell? ⟨gb117, 0, none⟩ = some (.int .i64 a2_0) := (blk_cell BK117.out 0).trans rfl; have hcz101_1 : wc.cell? ⟨gb117, 1, none⟩ = some (.int .i64 a2_1) := (blk_cell BK117.out 1).trans rfl; have hcz101_2 : wc.cell? ⟨gb117, 2, none⟩ = some (.string a2_2) := (blk_cell BK117.out 2).trans rfl; have hfz101_0 := blk_frozen BK117.out 0; have hfz101_1 := blk_frozen BK117.out 1; have hfz101_2 := blk_frozen BK117.out 2
                go_wp2_with (first | ((with_reducible refine gate_callee (f := 15) rfl ?_); refine gL (some 46) Tryd.func15 #[.agg #[.int .i64 a1_0, .int .i64 a1_1, .string a1_2], .agg #[.int .i64 a2_0, .int .i64 a2_1, .string a2_2]] ?_; (with_reducible refine (value_Order.calls kj33 a1_0 a1_1 a1_2 a2_0 a2_1 a2_2 t121 _ A50.out).mono ?_); rintro e w102 ⟨rfl, hb⟩; refine ⟨_, rfl, ?_⟩; replace BK116 := bb BK116 hb; replace BK117 := bb BK117 hb; replace BK118 := bb BK118 hb; replace HB := bs hb; (try clear hb); (try clear hb2); (try clear hk); (try clear hi)) | ((with_reducible refine gate_callee (f := 42) rfl ?_); refine gL (some 72) Tryd.func42 #[.bool (decide (t121 > 0))] ?_; (with_reducible refine (value_truth.calls (decide (t121 > 0)) t134 t135 t136 _ A96.out).mono ?_); rintro e w103 ⟨rfl, hb⟩; refine ⟨_, rfl, ?_⟩; replace BK116 := bb BK116 hb; replace BK117 := bb BK117 hb; replace BK118 := bb BK118 hb; replace HB := bs hb; (try clear hb); (try clear hb2); (try clear hk); (try clear hi); have hcz104_0 : w103.cell? ⟨gb118, 0, none⟩ = some (.int .i64 0) := (blk_cell BK118.out 0).trans rfl; have hcz104_1 : w103.cell? ⟨gb118, 1, none⟩ = some (.int .i64 0) := (blk_cell BK118.out 1).trans rfl; have hcz104_2 : w103.cell? ⟨gb118, 2, none⟩ = some (.string (⟨#[]⟩ : ByteArray)) := (blk_cell BK118.out 2).trans rfl; have hfz104_0 := blk_frozen BK118.out 0; have hfz104_1 := blk_frozen BK118.out 1; have hfz104_2 := blk_frozen BK118.out 2) | ((with_reducible refine gate_store (t := 23) (p := 6) rfl ?_); refine store_event (t := 23) (p := 6) (v := ?vo_w105) (w1 := (((w103.setCell ⟨gb118, 0, none⟩ (.int .i64 t134)).setCell ⟨gb118, 1, none⟩ (.int .i64 t135)).setCell ⟨gb118, 2, none⟩ (.string t136))) ?hg ?ho ?hn ?hr ?_; (case ho => rfl); (case hg => rfl); (case hn => rfl); (case hr => first | (go_simp; done) | (go_simp; rfl)); intro w105 hw; replace BK116 := bw BK116 hw; replace BK117 := bw BK117 hw; replace BK118 : Aside0 (w105.heap[gb118]? = some (.cells #[.int .i64 t134, .int .i64 t135, .string t136] 23 (0, 0))) := bp BK118 hw; replace HB := bv hw; clear hw))
                refine bodyPost_ret (results_ct rfl _ _ gb118 23 #[.int .i64 t134, .int .i64 t135, .string t136] (0, 0) _ rfl (by (with_reducible repeat first | apply bN | apply bD | apply bA); exact BK118.out) Tryd.underlying23 rfl (by kernel_rfl)) rfl ?_
                exact ⟨by first | (simp only [ByteArray.size_extract, Nat.min_self]; rfl) | rfl | (simp [errW_none, errW_some] <;> rfl) | (simp [*, errW_none, errW_some] <;> rfl), by repeat (first | (with_reducible first | exact HB.out | apply pA | apply pN | apply pD | refine pS ?_ GE116.out | refine pS ?_ GE117.out | refine pS ?_ GE118.out) | exact HB.out)⟩
               ·
                rw [if_neg c95] at H
                have c95b0 : (a0 == 5) = false := beq_eq_false_iff_ne.mpr c95; have c95b1 : (a0 != 5) = true := bne_iff_ne.mpr c95; replace H := Option.bind_eq_some_iff.mp H
                obtain ⟨⟨t137, t138, t139⟩, A1060, H⟩ := H
                replace H : (some (t137, t138, t139, 0)) = some (r1, r2, r3, r4) := H; have A106 := Aside0.mk A1060; clear A1060
                simp only [Option.some.injEq, Prod.mk.injEq] at H
                obtain ⟨rfl, rfl, rfl, rfl⟩ := H
                have hnb107 := NB116_117.out; have hnc107 := NB117_116.out; have hnb108 := NB116_118.out; have hnc108 := NB118_116.out; have hcz109_0 : wc.cell? ⟨gb116, 0, none⟩ = some (.int .i64 a1_0) := (blk_cell BK116.out 0).trans rfl; have hcz109_1 : wc.cell? ⟨gb116, 1, none⟩ = some (.int .i64 a1_1) := (blk_cell BK116.out 1).trans rfl; have hcz109_2 : wc.cell? ⟨gb116, 2, none⟩ = some (.string a1_2) := (blk_cell BK116.out 2).trans rfl; have hfz109_0 := blk_frozen BK116.out 0; have hfz109_1 := blk_frozen BK116.out 1; have hfz109_2 := blk_frozen BK116.out 2; have hnb110 := NB117_118.out; have hnc110 := NB118_117.out; have hcz111_0 : wc.cell? ⟨gb117, 0, none⟩ = some (.int .i64 a2_0) := (blk_cell BK117.out 0).trans rfl; have hcz111_1 : wc.cell? ⟨gb117, 1, none⟩ = some (.int .i64 a2_1) := (blk_cell BK117.out 1).trans rfl; have hcz111_2 : wc.cell? ⟨gb117, 2, none⟩ = some (.string a2_2) := (blk_cell BK117.out 2).trans rfl; have hfz111_0 := blk_frozen BK117.out 0; have hfz111_1 := blk_frozen BK117.out 1; have hfz111_2 := blk_frozen BK117.out 2
                go_wp2_with (first | ((with_reducible refine gate_callee (f := 15) rfl ?_); refine gL (some 46) Tryd.func15 #[.agg #[.int .i64 a1_0, .int .i64 a1_1, .string a1_2], .agg #[.int .i64 a2_0, .int .i64 a2_1, .string a2_2]] ?_; (with_reducible refine (value_Order.calls kj33 a1_0 a1_1 a1_2 a2_0 a2_1 a2_2 t121 _ A50.out).mono ?_); rintro e w112 ⟨rfl, hb⟩; refine ⟨_, rfl, ?_⟩; replace BK116 := bb BK116 hb; replace BK117 := bb BK117 hb; replace BK118 := bb BK118 hb; replace HB := bs hb; (try clear hb); (try clear hb2); (try clear hk); (try clear hi)) | ((with_reducible refine gate_callee (f := 42) rfl ?_); refine gL (some 75) Tryd.func42 #[.bool (decide (t121 ≥ 0))] ?_; (with_reducible refine (value_truth.calls (decide (t121 ≥ 0)) t137 t138 t139 _ A106.out).mono ?_); rintro e w113 ⟨rfl, hb⟩; refine ⟨_, rfl, ?_⟩; replace BK116 := bb BK116 hb; replace BK117 := bb BK117 hb; replace BK118 := bb BK118 hb; replace HB := bs hb; (try clear hb); (try clear hb2); (try clear hk); (try clear hi); have hcz114_0 : w113.cell? ⟨gb118, 0, none⟩ = some (.int .i64 0) := (blk_cell BK118.out 0).trans rfl; have hcz114_1 : w113.cell? ⟨gb118, 1, none⟩ = some (.int .i64 0) := (blk_cell BK118.out 1).trans rfl; have hcz114_2 : w113.cell? ⟨gb118, 2, none⟩ = some (.string (⟨#[]⟩ : ByteArray)) := (blk_cell BK118.out 2).trans rfl; have hfz114_0 := blk_frozen BK118.out 0; have hfz114_1 := blk_frozen BK118.out 1; have hfz114_2 := blk_frozen BK118.out 2) | ((with_reducible refine gate_store (t := 23) (p := 6) rfl ?_); refine store_event (t := 23) (p := 6) (v := ?vo_w115) (w1 := (((w113.setCell ⟨gb118, 0, none⟩ (.int .i64 t137)).setCell ⟨gb118, 1, none⟩ (.int .i64 t138)).setCell ⟨gb118, 2, none⟩ (.string t139))) ?hg ?ho ?hn ?hr ?_; (case ho => rfl); (case hg => rfl); (case hn => rfl); (case hr => first | (go_simp; done) | (go_simp; rfl)); intro w115 hw; replace BK116 := bw BK116 hw; replace BK117 := bw BK117 hw; replace BK118 : Aside0 (w115.heap[gb118]? = some (.cells #[.int .i64 t137, .int .i64 t138, .string t139] 23 (0, 0))) := bp BK118 hw; replace HB := bv hw; clear hw))
                refine bodyPost_ret (results_ct rfl _ _ gb118 23 #[.int .i64 t137, .int .i64 t138, .string t139] (0, 0) _ rfl (by (with_reducible repeat first | apply bN | apply bD | apply bA); exact BK118.out) Tryd.underlying23 rfl (by kernel_rfl)) rfl ?_
                exact ⟨by first | (simp only [ByteArray.size_extract, Nat.min_self]; rfl) | rfl | (simp [errW_none, errW_some] <;> rfl) | (simp [*, errW_none, errW_some] <;> rfl), by repeat (first | (with_reducible first | exact HB.out | apply pA | apply pN | apply pD | refine pS ?_ GE116.out | refine pS ?_ GE117.out | refine pS ?_ GE118.out) | exact HB.out)⟩
          ·
           rw [if_neg c49] at H
           have c49b0 : (a1_0 == a2_0) = false := beq_eq_false_iff_ne.mpr c49; have c49b1 : (a1_0 != a2_0) = true := bne_iff_ne.mpr c49
           simp only [Option.some.injEq, Prod.mk.injEq] at H
           obtain ⟨rfl, rfl, rfl, rfl⟩ := H
           have hnb116 := NB116_117.out; have hnc116 := NB117_116.out; have hnb117 := NB116_118.out; have hnc117 := NB118_116.out; have hcz118_0 : wc.cell? ⟨gb116, 0, none⟩ = some (.int .i64 a1_0) := (blk_cell BK116.out 0).trans rfl; have hcz118_1 : wc.cell? ⟨gb116, 1, none⟩ = some (.int .i64 a1_1) := (blk_cell BK116.out 1).trans rfl; have hcz118_2 : wc.cell? ⟨gb116, 2, none⟩ = some (.string a1_2) := (blk_cell BK116.out 2).trans rfl; have hfz118_0 := blk_frozen BK116.out 0; have hfz118_1 := blk_frozen BK116.out 1; have hfz118_2 := blk_frozen BK116.out 2; have hnb119 := NB117_118.out; have hnc119 := NB118_117.out; have hcz120_0 : wc.cell? ⟨gb117, 0, none⟩ = some (.int .i64 a2_0) := (blk_cell BK117.out 0).trans rfl; have hcz120_1 : wc.cell? ⟨gb117, 1, none⟩ = some (.int .i64 a2_1) := (blk_cell BK117.out 1).trans rfl; have hcz120_2 : wc.cell? ⟨gb117, 2, none⟩ = some (.string a2_2) := (blk_cell BK117.out 2).trans rfl; have hfz120_0 := blk_frozen BK117.out 0; have hfz120_1 := blk_frozen BK117.out 1; have hfz120_2 := blk_frozen BK117.out 2; have hcz121_0 : wc.cell? ⟨gb118, 0, none⟩ = some (.int .i64 0) := (blk_cell BK118.out 0).trans rfl; have hcz121_1 : wc.cell? ⟨gb118, 1, none⟩ = some (.int .i64 0) := (blk_cell BK118.out 1).trans rfl; have hcz121_2 : wc.cell? ⟨gb118, 2, none⟩ = some (.string (⟨#[]⟩ : ByteArray)) := (blk_cell BK118.out 2).trans rfl; have hfz121_0 := blk_frozen BK118.out 0; have hfz121_1 := blk_frozen BK118.out 1; have hfz121_2 := blk_frozen BK118.out 2
           go_wp2_with (first | ((with_reducible refine gate_store (t := 23) (p := 6) rfl ?_); refine store_event (t := 23) (p := 6) (v := ?vo_w122) (w1 := (((wc.setCell ⟨gb118, 0, none⟩ (.int .i64 0)).setCell ⟨gb118, 1, none⟩ (.int .i64 0)).setCell ⟨gb118, 2, none⟩ (.string (⟨#[]⟩ : ByteArray)))) ?hg ?ho ?hn ?hr ?_; (case ho => rfl); (case hg => rfl); (case hn => rfl); (case hr => first | (go_simp; done) | (go_simp; rfl)); intro w122 hw; replace BK116 := bw BK116 hw; replace BK117 := bw BK117 hw; replace BK118 : Aside0 (w122.heap[gb118]? = some (.cells #[.int .i64 0, .int .i64 0, .string (⟨#[]⟩ : ByteArray)] 23 (0, 0))) := bp BK118 hw; replace HB := bv hw; clear hw))
           refine bodyPost_ret (results_ct rfl _ _ gb118 23 #[.int .i64 0, .int .i64 0, .string (⟨#[]⟩ : ByteArray)] (0, 0) _ rfl (by (with_reducible repeat first | apply bN | apply bD | apply bA); exact BK118.out) Tryd.underlying23 rfl (by kernel_rfl)) rfl ?_
           exact ⟨by first | (simp only [ByteArray.size_extract, Nat.min_self]; rfl) | rfl | (simp [errW_none, errW_some] <;> rfl) | (simp [*, errW_none, errW_some] <;> rfl), by repeat (first | (with_reducible first | exact HB.out | apply pA | apply pN | apply pD | refine pS ?_ GE116.out | refine pS ?_ GE117.out | refine pS ?_ GE118.out) | exact HB.out)⟩
end Go.Proofs.YteehcopkljiikaaDoor.PA
