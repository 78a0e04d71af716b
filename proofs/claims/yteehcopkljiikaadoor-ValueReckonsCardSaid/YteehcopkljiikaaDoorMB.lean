/- Several texts in one (merge.py): PFRBool, PFRDecided, PFRAnd, PFROr; no conditions beyond those in each theorem's head. -/
import Derived.Test.YteehcopkljiikaaDoorPAx0
import Derived.Test.YteehcopkljiikaaDoorPAx1
import Derived.Test.YteehcopkljiikaaDoorMD
section
namespace Go.Proofs.YteehcopkljiikaaDoor.PA
open Go.RowKit Go.Proofs.YteehcopkljiikaaDoorW.PrintWords Go.Proofs.YteehcopkljiikaaDoorW.PrintLast Go.Proofs.YteehcopkljiikaaDoorW.PrintMore Go.Proofs.YteehcopkljiikaaDoorX
attribute [local go_sem] max2_int min2_int max_two min_two max_three min_three max_four min_four   -- for this text's walks alone
set_option linter.unusedVariables false
set_option linter.unusedSimpArgs false
attribute [local go_sem high] eqA23
/-! ### unisonref01_Bool: function 43 -/
def unisonref01_Bool.f (a0 : Bool) : Option (Int × Int × ByteArray) := if a0 = true then (some (2, 1, (⟨#[]⟩ : ByteArray))) else (some (2, 0, (⟨#[]⟩ : ByteArray)))
set_option maxHeartbeats 8000000 in
set_option maxRecDepth 100000 in
theorem unisonref01_Bool.calls (a0 : Bool) (r1 : Int) (r2 : Int) (r3 : ByteArray) (w : World) (h : unisonref01_Bool.f a0 = some (r1, r2, r3)) :
  Calls Tryd.prog 43 #[.bool a0] w fun e w' => e = .returned (.agg #[.int .i64 r1, .int .i64 r2, .string r3]) ∧ Below w.heap.size w w' := by
 have hu23 := Tryd.underlying23; have HB := Aside0.mk (Below.refl w.heap.size w); have H : (if a0 = true then (some (2, 1, (⟨#[]⟩ : ByteArray))) else (some (2, 0, (⟨#[]⟩ : ByteArray)))) = some (r1, r2, r3) := h; clear h
 by_cases c2 : a0 = true
 ·
  subst c2
  have H1 : (some (2, 1, (⟨#[]⟩ : ByteArray))) = some (r1, r2, r3) := by (first | rw [if_pos rfl] at H | rw [if_pos True.intro] at H | skip); exact H
  clear H; have H := H1; clear H1
  simp only [Option.some.injEq, Prod.mk.injEq] at H
  obtain ⟨rfl, rfl, rfl⟩ := H
  go_enter Tryd.func43, Tryd.ntmps43
  go_wp2_with (first | ((with_reducible refine gate_dst (N := 2) rfl ?_); refine box_event ?hg (N := 2) ?hd (cs := #[.int .i64 0, .int .i64 0, .string (⟨#[]⟩ : ByteArray)]) (t := 23) ?hr ?_; (case hd => rfl); (case hg => rfl); (case hr => first | (go_simp; done) | (go_simp; rfl)); intro gb280 hg w3 hbox hb; have BK280 := Aside0.mk (hbox); have GW280 := bz hg; have GE280 := bz hg; replace HB := bs hb; clear hb hbox hg; have hcz4_0 : w3.cell? ⟨gb280, 0, none⟩ = some (.int .i64 0) := (blk_cell BK280.out 0).trans rfl; have hcz4_1 : w3.cell? ⟨gb280, 1, none⟩ = some (.int .i64 0) := (blk_cell BK280.out 1).trans rfl; have hcz4_2 : w3.cell? ⟨gb280, 2, none⟩ = some (.string (⟨#[]⟩ : ByteArray)) := (blk_cell BK280.out 2).trans rfl; have hfz4_0 := blk_frozen BK280.out 0; have hfz4_1 := blk_frozen BK280.out 1; have hfz4_2 := blk_frozen BK280.out 2) | ((with_reducible refine gate_store (t := 23) (p := 2) rfl ?_); refine store_event (t := 23) (p := 2) (v := ?vo_w5) (w1 := (((w3.setCell ⟨gb280, 0, none⟩ (.int .i64 2)).setCell ⟨gb280, 1, none⟩ (.int .i64 1)).setCell ⟨gb280, 2, none⟩ (.string (⟨#[]⟩ : ByteArray)))) ?hg ?ho ?hn ?hr ?_; (case ho => rfl); (case hg => rfl); (case hn => rfl); (case hr => first | (go_simp; done) | (go_simp; rfl)); intro w5 hw; replace BK280 : Aside0 (w5.heap[gb280]? = some (.cells #[.int .i64 2, .int .i64 1, .string (⟨#[]⟩ : ByteArray)] 23 (0, 0))) := bp BK280 hw; replace HB := bv hw; clear hw))
  refine bodyPost_ret (results_cell_row rfl _ _ gb280 23 #[.int .i64 2, .int .i64 1, .string (⟨#[]⟩ : ByteArray)] (0, 0) _ rfl (by (with_reducible repeat first | apply bN | apply bD | apply bA); exact BK280.out) Tryd.underlying23 rfl (by kernel_rfl)) rfl ?_
  exact ⟨by first | (simp only [ByteArray.size_extract, Nat.min_self]; rfl) | rfl | (simp [errW_none, errW_some] <;> rfl) | (simp [*, errW_none, errW_some] <;> rfl), by repeat (first | (with_reducible first | exact HB.out | apply pA | apply pN | apply pD | refine pS ?_ GE280.out) | exact HB.out)⟩
 ·
  replace c2 := Bool.eq_false_iff.mpr c2
  subst c2
  have H1 : (some (2, 0, (⟨#[]⟩ : ByteArray))) = some (r1, r2, r3) := by rw [if_neg (show ¬ (false = true) by decide)] at H; exact H
  clear H; have H := H1; clear H1
  simp only [Option.some.injEq, Prod.mk.injEq] at H
  obtain ⟨rfl, rfl, rfl⟩ := H
  go_enter Tryd.func43, Tryd.ntmps43
  go_wp2_with (first | ((with_reducible refine gate_dst (N := 2) rfl ?_); refine box_event ?hg (N := 2) ?hd (cs := #[.int .i64 0, .int .i64 0, .string (⟨#[]⟩ : ByteArray)]) (t := 23) ?hr ?_; (case hd => rfl); (case hg => rfl); (case hr => first | (go_simp; done) | (go_simp; rfl)); intro gb280 hg w6 hbox hb; have BK280 := Aside0.mk (hbox); have GW280 := bz hg; have GE280 := bz hg; replace HB := bs hb; clear hb hbox hg; have hcz7_0 : w6.cell? ⟨gb280, 0, none⟩ = some (.int .i64 0) := (blk_cell BK280.out 0).trans rfl; have hcz7_1 : w6.cell? ⟨gb280, 1, none⟩ = some (.int .i64 0) := (blk_cell BK280.out 1).trans rfl; have hcz7_2 : w6.cell? ⟨gb280, 2, none⟩ = some (.string (⟨#[]⟩ : ByteArray)) := (blk_cell BK280.out 2).trans rfl; have hfz7_0 := blk_frozen BK280.out 0; have hfz7_1 := blk_frozen BK280.out 1; have hfz7_2 := blk_frozen BK280.out 2) | ((with_reducible refine gate_store (t := 23) (p := 2) rfl ?_); refine store_event (t := 23) (p := 2) (v := ?vo_w8) (w1 := (((w6.setCell ⟨gb280, 0, none⟩ (.int .i64 2)).setCell ⟨gb280, 1, none⟩ (.int .i64 0)).setCell ⟨gb280, 2, none⟩ (.string (⟨#[]⟩ : ByteArray)))) ?hg ?ho ?hn ?hr ?_; (case ho => rfl); (case hg => rfl); (case hn => rfl); (case hr => first | (go_simp; done) | (go_simp; rfl)); intro w8 hw; replace BK280 : Aside0 (w8.heap[gb280]? = some (.cells #[.int .i64 2, .int .i64 0, .string (⟨#[]⟩ : ByteArray)] 23 (0, 0))) := bp BK280 hw; replace HB := bv hw; clear hw))
  refine bodyPost_ret (results_cell_row rfl _ _ gb280 23 #[.int .i64 2, .int .i64 0, .string (⟨#[]⟩ : ByteArray)] (0, 0) _ rfl (by (with_reducible repeat first | apply bN | apply bD | apply bA); exact BK280.out) Tryd.underlying23 rfl (by kernel_rfl)) rfl ?_
  exact ⟨by first | (simp only [ByteArray.size_extract, Nat.min_self]; rfl) | rfl | (simp [errW_none, errW_some] <;> rfl) | (simp [*, errW_none, errW_some] <;> rfl), by repeat (first | (with_reducible first | exact HB.out | apply pA | apply pN | apply pD | refine pS ?_ GE280.out) | exact HB.out)⟩
end Go.Proofs.YteehcopkljiikaaDoor.PA
end
section
namespace Go.Proofs.YteehcopkljiikaaDoor.PA
open Go.RowKit Go.Proofs.YteehcopkljiikaaDoorW.PrintWords Go.Proofs.YteehcopkljiikaaDoorW.PrintLast Go.Proofs.YteehcopkljiikaaDoorW.PrintMore Go.Proofs.YteehcopkljiikaaDoorX
attribute [local go_sem] max2_int min2_int max_two min_two max_three min_three max_four min_four   -- for this text's walks alone
set_option linter.unusedVariables false
set_option linter.unusedSimpArgs false
attribute [local go_sem high] eqA23
/-! ### unisonref01_decided: function 51 -/
def unisonref01_decided.l0 : Nat → Bool → List (S23) → Int → Int → Int → ByteArray → Option (Int × Int × ByteArray × Int)
 | 0, _, _, _, _, _, _ => none
 | k + 1, x0, x1, x8, x548000, x548001, x548002 => if x8 < (x1.length : Int) then (if 0 ≤ x8 then ((unisonref01_Bool.f x0).bind fun bt549 => (if (((rd_T23 x1 x8).f0) == bt549.1 && (((rd_T23 x1 x8).f1) == bt549.2.1 && ((((rd_T23 x1 x8).f2).toList) == bt549.2.2.toList))) = true then (some ((rd_T23 x1 x8).f0, (rd_T23 x1 x8).f1, (rd_T23 x1 x8).f2, 0)) else (if ((rd_T23 x1 x8).f0) = 0 then (unisonref01_decided.l0 k x0 x1 (wrap64 (x8 + 1)) ((rd_T23 x1 x8).f0) ((rd_T23 x1 x8).f1) ((rd_T23 x1 x8).f2)) else (unisonref01_decided.l0 k x0 x1 (wrap64 (x8 + 1)) x548000 x548001 x548002)))) else (none)) else (some (x548000, x548001, x548002, 0))
def unisonref01_decided.f (k : Nat) (a0 : Bool) (l1 : List (S23)) : Option (Int × Int × ByteArray × Int) := (unisonref01_refused.f k 2 l1).bind fun t543 => (if t543 = 0 then ((unisonref01_Bool.f (!a0)).bind fun bt544 => (unisonref01_decided.l0 k a0 l1 0 bt544.1 bt544.2.1 bt544.2.2)) else (some (0, 0, (⟨#[]⟩ : ByteArray), t543)))
theorem unisonref01_decided.mono_l : ∀ k, (∀ y0 y1 y2 y3 y4 y5, LeO (unisonref01_decided.l0 k y0 y1 y2 y3 y4 y5) (unisonref01_decided.l0 (k + 1) y0 y1 y2 y3 y4 y5))
 | 0 => fun _ _ _ _ _ _ r h => by simp [unisonref01_decided.l0] at h
 | k + 1 => by
  have ih0 := unisonref01_decided.mono_l k
  ·
   intro y0 y1 y2 y3 y4 y5
   unfold unisonref01_decided.l0
   repeat' first
   | (with_reducible exact ih0 _ _ _ _ _ _)
   | (with_reducible exact unisonref01_refused.mono _ _ _)
   | (with_reducible exact LeO.refl _)
   | (with_reducible exact LeO.none _)
   | (with_reducible refine LeO.ite ?_ ?_)
   | (with_reducible refine LeO.bind ?_ (fun _ => ?_))
   | exact ih0 _ _ _ _ _ _
   | exact unisonref01_refused.mono _ _ _
   | exact LeO.none _
   | refine LeO.ite ?_ ?_
   | refine LeO.bind ?_ (fun _ => ?_)
theorem unisonref01_decided.mono : ∀ a0 a1 k, LeO (unisonref01_decided.f k a0 a1) (unisonref01_decided.f (k + 1) a0 a1) := by
 intro a0 a1 k
 have ih0 := unisonref01_decided.mono_l k
 unfold unisonref01_decided.f
 repeat' first
   | (with_reducible exact ih0 _ _ _ _ _ _)
   | (with_reducible exact unisonref01_refused.mono _ _ _)
   | (with_reducible exact LeO.refl _)
   | (with_reducible exact LeO.none _)
   | (with_reducible refine LeO.ite ?_ ?_)
   | (with_reducible refine LeO.bind ?_ (fun _ => ?_))
   | exact ih0 _ _ _ _ _ _
   | exact unisonref01_refused.mono _ _ _
   | exact LeO.none _
   | refine LeO.ite ?_ ?_
   | refine LeO.bind ?_ (fun _ => ?_)
set_option maxHeartbeats 8000000 in
set_option maxRecDepth 100000 in
theorem unisonref01_decided.calls (k : Nat) (a0 : Bool) (A1 : Option Addr) (c1 : Nat) (l1 : List (S23)) (r1 : Int) (r2 : Int) (r3 : ByteArray) (r4 : Int) (w : World) (hr1 : Kd.C k23 w A1 l1.length l1) (hc1 : l1.length ≤ c1) (h : unisonref01_decided.f k a0 l1 = some (r1, r2, r3, r4)) :
  Calls Tryd.prog 51 #[.bool a0, .slice A1 l1.length c1] w fun e w' => e = .returned (.tuple #[.agg #[.int .i64 r1, .int .i64 r2, .string r3], .int .i64 r4]) ∧ Below w.heap.size w w' := by
 have hu23 := Tryd.underlying23; have HR1 := Aside0.mk hr1; have HC1 := Aside0.mk hc1; clear hr1 hc1; have HB := Aside0.mk (Below.refl w.heap.size w); have H : ((unisonref01_refused.f k 2 l1).bind fun t543 => (if t543 = 0 then ((unisonref01_Bool.f (!a0)).bind fun bt544 => (unisonref01_decided.l0 k a0 l1 0 bt544.1 bt544.2.1 bt544.2.2)) else (some (0, 0, (⟨#[]⟩ : ByteArray), t543)))) = some (r1, r2, r3, r4) := h; clear h; replace H := Option.bind_eq_some_iff.mp H
 obtain ⟨t543, A30, H⟩ := H
 replace H : (if t543 = 0 then ((unisonref01_Bool.f (!a0)).bind fun bt544 => (unisonref01_decided.l0 k a0 l1 0 bt544.1 bt544.2.1 bt544.2.2)) else (some (0, 0, (⟨#[]⟩ : ByteArray), t543))) = some (r1, r2, r3, r4) := H; have A3 := Aside0.mk A30; clear A30
 by_cases c4 : t543 = 0
 ·
  rw [if_pos c4] at H
  have c4b0 : (t543 == 0) = true := beq_iff_eq.mpr c4; have c4b1 : (t543 != 0) = false := bne_eq_false_iff_eq.mpr c4; clear c4; replace H := Option.bind_eq_some_iff.mp H
  obtain ⟨⟨t544, t545, t546⟩, A50, H⟩ := H
  replace H : (unisonref01_decided.l0 k a0 l1 0 t544 t545 t546) = some (r1, r2, r3, r4) := H; have A5 := Aside0.mk A50; clear A50
  have H' := Aside0.mk H
  clear H
  go_enter Tryd.func51, Tryd.ntmps51
  go_wp2_with (first | ((with_reducible refine gate_dst (N := 4) rfl ?_); refine box_event ?hg (N := 4) ?hd (cs := #[.int .i64 0, .int .i64 0, .string (⟨#[]⟩ : ByteArray)]) (t := 23) ?hr ?_; (case hd => rfl); (case hg => rfl); (case hr => first | (go_simp; done) | (go_simp; rfl)); intro gb542 hg w6 hbox hb; have BK542 := Aside0.mk (hbox); have GW542 := bz hg; have GE542 := bz hg; replace HB := bs hb; clear hb hbox hg) | ((with_reducible refine gate_callee (f := 46) rfl ?_); refine gL (some 10) Tryd.func46 #[.int .i64 2, .slice A1 l1.length c1] ?_; (with_reducible refine (unisonref01_refused.calls k 2 _ _ l1 t543 _ ?side1 ?side2 A3.out).mono ?_); (case side1 => repeat (first | exact (Kd.C_below HR1.out HB.out) | (with_reducible refine Kd.C_alloc ?_ _) | (with_reducible refine Kd.C_drewN ?_ _) | (with_reducible refine Kd.C_drew ?_))); (case side2 => exact HC1.out); rintro e w7 ⟨rfl, hb⟩; refine ⟨_, rfl, ?_⟩; replace BK542 := bb BK542 hb; replace HB := bs hb; (try clear hb); (try clear hb2); (try clear hk); (try clear hi)) | ((with_reducible refine gate_callee (f := 43) rfl ?_); refine gL (some 17) Tryd.func43 #[.bool (!a0)] ?_; (with_reducible refine (unisonref01_Bool.calls (!a0) t544 t545 t546 _ A5.out).mono ?_); rintro e w8 ⟨rfl, hb⟩; refine ⟨_, rfl, ?_⟩; replace BK542 := bb BK542 hb; replace HB := bs hb; (try clear hb); (try clear hb2); (try clear hk); (try clear hi)) | ((with_reducible refine gate_dst (N := 7) rfl ?_); refine box_event ?hg (N := 7) ?hd (cs := #[.int .i64 0, .int .i64 0, .string (⟨#[]⟩ : ByteArray)]) (t := 23) ?hr ?_; (case hd => rfl); (case hg => rfl); (case hr => first | (go_simp; done) | (go_simp; rfl)); intro gb547 hg w9 hbox hb; have BK547 := Aside0.mk (hbox); have GW547 := bz hg; have GE547 := bz hg; have NB542_547 := bl BK542 hg; have NB547_542 := bg BK542 hg; replace BK542 := bb BK542 hb; replace HB := bs hb; clear hb hbox hg; have hnb10 := NB547_542.out; have hnc10 := NB542_547.out; have hcz11_0 : w9.cell? ⟨gb547, 0, none⟩ = some (.int .i64 0) := (blk_cell BK547.out 0).trans rfl; have hcz11_1 : w9.cell? ⟨gb547, 1, none⟩ = some (.int .i64 0) := (blk_cell BK547.out 1).trans rfl; have hcz11_2 : w9.cell? ⟨gb547, 2, none⟩ = some (.string (⟨#[]⟩ : ByteArray)) := (blk_cell BK547.out 2).trans rfl; have hfz11_0 := blk_frozen BK547.out 0; have hfz11_1 := blk_frozen BK547.out 1; have hfz11_2 := blk_frozen BK547.out 2) | ((with_reducible refine gate_store (t := 23) (p := 7) rfl ?_); refine store_event (t := 23) (p := 7) (v := ?vo_w12) (w1 := (((w9.setCell ⟨gb547, 0, none⟩ (.int .i64 t544)).setCell ⟨gb547, 1, none⟩ (.int .i64 t545)).setCell ⟨gb547, 2, none⟩ (.string t546))) ?hg ?ho ?hn ?hr ?_; (case ho => rfl); (case hg => rfl); (case hn => rfl); (case hr => first | (go_simp; done) | (go_simp; rfl)); intro w12 hw; replace BK542 := bw BK542 hw; replace BK547 : Aside0 (w12.heap[gb547]? = some (.cells #[.int .i64 t544, .int .i64 t545, .string t546] 23 (0, 0))) := bp BK547 hw; replace HB := bv hw; clear hw))
  go_loopg [8] k (fun kq v8 w' => ∃ (x8_1 : Int) (x543000_1 : Int) (x543001_1 : Int) (x543002_1 : ByteArray) (x548000_1 : Int) (x548001_1 : Int) (x548002_1 : ByteArray), v8 = .int .i64 x8_1 ∧ Aside0 (unisonref01_decided.l0 kq a0 l1 x8_1 x548000_1 x548001_1 x548002_1 = some (r1, r2, r3, r4)) ∧ Aside0 (kq ≤ k) ∧ Aside0 (w'.heap[gb542]? = some (.cells #[.int .i64 x543000_1, .int .i64 x543001_1, .string x543002_1] 23 (0, 0))) ∧ Aside0 (w'.heap[gb547]? = some (.cells #[.int .i64 x548000_1, .int .i64 x548001_1, .string x548002_1] 23 (0, 0))) ∧ Aside0 (Below w.heap.size w w'))
  case atStart => exact ⟨(0), (0), (0), ((⟨#[]⟩ : ByteArray)), (t544), (t545), (t546), (by first | rfl | (simp; done) | (simp [*]; done)), H', ⟨Nat.le_refl _⟩, ⟨by (with_reducible repeat (first | refine blk_drewN ?_ _ | refine blk_drew ?_ | refine blk_alloc ?_ _)); exact BK542.out⟩, ⟨by (with_reducible repeat (first | refine blk_drewN ?_ _ | refine blk_drew ?_ | refine blk_alloc ?_ _)); exact BK547.out⟩, ⟨by repeat (first | (with_reducible first | exact HB.out | apply below_alloc | apply pw_below_drewN | apply below_drew1 | refine below_set ?_ GE542.out | refine below_set ?_ GE547.out) | exact HB.out)⟩⟩
  case round =>
   clear H'
   (try clear c1); (try clear p2); (try clear c4); (try clear c4b0); (try clear c4b1); (try clear c5); (try clear c10); (try clear hcz11_0); (try clear hcz11_1); (try clear hcz11_2); (try clear hfz11_0); (try clear hfz11_1); (try clear hfz11_2)
   obtain ⟨x8_1, x543000_1, x543001_1, x543002_1, x548000_1, x548001_1, x548002_1, rfl, HA, HK1, BK542, BK547, HB⟩ := hrel
   cases gk with
   | zero => exact absurd HA.out (by simp [unisonref01_decided.l0])
   | succ k1 =>
    have H := HA.out; clear HA
    simp only [unisonref01_decided.l0] at H
    by_cases c13 : x8_1 < (l1.length : Int)
    ·
     rw [if_pos c13] at H
     have c13b0 : decide (x8_1 < (l1.length : Int)) = true := decide_eq_true c13; clear c13
     by_cases c14 : 0 ≤ x8_1
     ·
      rw [if_pos c14] at H
      have c14b0 : decide (0 ≤ x8_1) = true := decide_eq_true c14; clear c14; replace H := Option.bind_eq_some_iff.mp H
      obtain ⟨⟨t549, t550, t551⟩, A150, H⟩ := H
      replace H : (if (((rd_T23 l1 x8_1).f0) == t549 && (((rd_T23 l1 x8_1).f1) == t550 && ((((rd_T23 l1 x8_1).f2).toList) == t551.toList))) = true then (some ((rd_T23 l1 x8_1).f0, (rd_T23 l1 x8_1).f1, (rd_T23 l1 x8_1).f2, 0)) else (if ((rd_T23 l1 x8_1).f0) = 0 then (unisonref01_decided.l0 k1 a0 l1 (wrap64 (x8_1 + 1)) ((rd_T23 l1 x8_1).f0) ((rd_T23 l1 x8_1).f1) ((rd_T23 l1 x8_1).f2)) else (unisonref01_decided.l0 k1 a0 l1 (wrap64 (x8_1 + 1)) x548000_1 x548001_1 x548002_1))) = some (r1, r2, r3, r4) := H; have A15 := Aside0.mk A150; clear A150
      by_cases c16 : (((rd_T23 l1 x8_1).f0) == t549 && (((rd_T23 l1 x8_1).f1) == t550 && ((((rd_T23 l1 x8_1).f2).toList) == t551.toList))) = true
      ·
       rw [if_pos c16] at H
       have c16b0 : (((rd_T23 l1 x8_1).f0) == t549 && (((rd_T23 l1 x8_1).f1) == t550 && ((((rd_T23 l1 x8_1).f2).toList) == t551.toList))) = true := c16
       (try (have c16b1 : decide (((rd_T23 l1 x8_1).f0) = t549 && (((rd_T23 l1 x8_1).f1) == t550 && ((((rd_T23 l1 x8_1).f2).toList) == t551.toList))) = true := by simpa using c16))
       (try (have c16b2 : (((rd_T23 l1 x8_1).f0) == t549 && (((rd_T23 l1 x8_1).f1) == t550 && ((((rd_T23 l1 x8_1).f2).toList) == t551.toList))) = true := by simpa using c16))
       clear c16
       simp only [Option.some.injEq, Prod.mk.injEq] at H
       obtain ⟨rfl, rfl, rfl, rfl⟩ := H
       try go_wp2
       replace BK542 := Aside0.mk (blk_drew BK542.out); replace BK547 := Aside0.mk (blk_drew BK547.out); replace HB := Aside0.mk (below_drew1 HB.out); have p548 : 0 ≤ (x8_1 : Int) := of_decide_eq_true (by first | (with_reducible assumption) | assumption); have q548 : x8_1 < (l1.length : Int) := of_decide_eq_true (by first | (with_reducible assumption) | assumption)
       obtain ⟨ad548, e548, hx548_0, hx548_1, hx548_2⟩ := at_T23 HR1.out x8_1 p548 q548
       have hw548_2 := hx548_2; have hw548_1 := hx548_1; have hw548_0 := hx548_0
       cases e548
       replace hx548_0 := (HB.out.cell (World.block_lt_of_cell? w _ hx548_0)).trans hx548_0; replace hx548_1 := (HB.out.cell (World.block_lt_of_cell? w _ hx548_1)).trans hx548_1; replace hx548_2 := (HB.out.cell (World.block_lt_of_cell? w _ hx548_2)).trans hx548_2; replace p548 := eq_true p548; replace q548 := eq_true q548
       refine start_ (n := 7) (S := fun w' => w'.cell? (ad548.add ((x8_1).toNat * 3)) = some (.int .i64 ((rd_T23 l1 x8_1).f0)) ∧ w'.cell? ⟨(ad548.add ((x8_1).toNat * 3)).block, (ad548.add ((x8_1).toNat * 3)).off + 1, none⟩ = some (.int .i64 ((rd_T23 l1 x8_1).f1)) ∧ w'.cell? ⟨(ad548.add ((x8_1).toNat * 3)).block, (ad548.add ((x8_1).toNat * 3)).off + 2, none⟩ = some (.string ((rd_T23 l1 x8_1).f2))) (ds := []) #[false, false, false, false, false, false, false] (by kernel_rfl) rfl rfl ⟨((HB.out.cell (World.block_lt_of_cell? w _ hw548_0)).trans hw548_0), ((HB.out.cell (World.block_lt_of_cell? w _ hw548_1)).trans hw548_1), ((HB.out.cell (World.block_lt_of_cell? w _ hw548_2)).trans hw548_2)⟩ (fun hHeld => ?_)
       generalize wr.drew = w17 at BK542 BK547 HB hx548_0 hx548_1 hx548_2 hHeld ⊢
       refine pure_ (i := 0) (N := some 24) (v := ?_) (a' := ?_) #[true, false, false, false, false, false, false] rfl rfl (by kernel_rfl) (fun _ _ _ h => h) (Or.inl ⟨by rfl, ?_⟩) ?_ ?_
       rotate_left; focus (intro w'; go_simp; with_reducible rfl; done)
       rotate_left; focus (simp only [Act.put, List.setIfInBounds_toArray, List.set_cons_zero, List.set_cons_succ, i64_w, i32_w, u8_w, u32_w]; rfl; done)
       refine pure_ (i := 1) (N := some 25) (v := ?_) (a' := ?_) #[true, true, false, false, false, false, false] rfl rfl (by kernel_rfl) (fun _ _ _ h => h) (Or.inl ⟨by rfl, ?_⟩) ?_ ?_
       rotate_left; focus (intro w'; go_simp; with_reducible rfl; done)
       rotate_left; focus (simp only [Act.put, List.setIfInBounds_toArray, List.set_cons_zero, List.set_cons_succ, i64_w, i32_w, u8_w, u32_w]; rfl; done)
       refine pure_ (i := 2) (N := some 26) (v := ?_) (a' := ?_) #[true, true, true, false, false, false, false] rfl rfl (by kernel_rfl) (fun _ _ _ h => h) (Or.inl ⟨by rfl, ?_⟩) ?_ ?_
       rotate_left; focus (intro w'; go_simp; with_reducible rfl; done)
       rotate_left; focus (simp only [Act.put, List.setIfInBounds_toArray, List.set_cons_zero, List.set_cons_succ, i64_w, i32_w, u8_w, u32_w]; rfl; done)
       refine pure_ (i := 4) (N := some 28) (v := ?_) (a' := ?_) #[true, true, true, false, true, false, false] rfl rfl (by kernel_rfl) (fun _ _ _ h => h) (Or.inl ⟨by rfl, ?_⟩) ?_ ?_
       rotate_left; focus (intro w'; go_simp; with_reducible rfl; done)
       rotate_left; focus (simp only [Act.put, List.setIfInBounds_toArray, List.set_cons_zero, List.set_cons_succ, i64_w, i32_w, u8_w, u32_w]; rfl; done)
       refine take_ (i := 3) (N := some 27) (v := ?_) (a' := ?_) #[true, true, true, true, true, false, false] rfl rfl (by kernel_rfl) (fun _ _ _ h => h) (Or.inl ⟨by rfl, ?_⟩) hHeld ?_ ?_
       rotate_left; focus (rintro w' ⟨s0, s1, s2⟩; go_simp; with_reducible rfl; done)
       rotate_left; focus (simp only [Act.put, List.setIfInBounds_toArray, List.set_cons_zero, List.set_cons_succ, i64_w, i32_w, u8_w, u32_w]; rfl; done)
       refine one_ (i := 5) (N := some 29) #[true, true, true, true, true, true, false] rfl rfl (by kernel_rfl) (by decide) (fun K hK => ?_)
       refine goes_ Tryd.func43 (by kernel_rfl) rfl #[.bool a0] (by rfl) rfl rfl (by (try simp only [List.map_toArray, List.map_cons, List.map_nil]); first | done | rfl | (simp only [List.length_drop, List.length_take]; rfl)) ?_
       with_reducible refine (unisonref01_Bool.calls a0 t549 t550 t551 _ A15.out).mono ?_
       rintro e w18 ⟨rfl, hb⟩
       refine ⟨_, rfl, ?_⟩
       replace BK542 := bb BK542 hb; replace BK547 := bb BK547 hb; replace HB := bs hb; (try clear hb); (try clear hb2); (try clear hk); (try clear hi)
       refine hK.out _ _ ⟨((HB.out.cell (World.block_lt_of_cell? w _ hw548_0)).trans hw548_0), ((HB.out.cell (World.block_lt_of_cell? w _ hw548_1)).trans hw548_1), ((HB.out.cell (World.block_lt_of_cell? w _ hw548_2)).trans hw548_2)⟩ (fun hHeld => ?_)
       clear hK K
       refine norm_ (a' := ?_) ?_ ?_
       rotate_left; focus (show Act.put _ (some 29) _ = _; simp only [Act.put, List.setIfInBounds_toArray, List.set_cons_zero, List.set_cons_succ, i64_w, i32_w, u8_w, u32_w]; rfl; done)
       refine pure_ (i := 6) (N := some 30) (v := ?_) (a' := ?_) #[true, true, true, true, true, true, true] rfl rfl (by kernel_rfl) (fun _ _ _ h => h) (Or.inl ⟨by rfl, ?_⟩) ?_ ?_
       rotate_left; focus (intro w'; go_simp; with_reducible rfl; done)
       rotate_left; focus (simp only [Act.put, List.setIfInBounds_toArray, List.set_cons_zero, List.set_cons_succ, i64_w, i32_w, u8_w, u32_w]; rfl; done)
       refine done_ (by kernel_rfl) ?_
       have p552 : 0 ≤ (x8_1 : Int) := of_decide_eq_true (by first | (with_reducible assumption) | assumption); have q552 : x8_1 < (l1.length : Int) := of_decide_eq_true (by first | (with_reducible assumption) | assumption)
       obtain ⟨ad552, e552, hx552_0, hx552_1, hx552_2⟩ := at_T23 HR1.out x8_1 p552 q552
       obtain rfl : ad548 = ad552 := (by injection e552)
       replace hx552_0 := (HB.out.cell (World.block_lt_of_cell? w _ hx552_0)).trans hx552_0; replace hx552_1 := (HB.out.cell (World.block_lt_of_cell? w _ hx552_1)).trans hx552_1; replace hx552_2 := (HB.out.cell (World.block_lt_of_cell? w _ hx552_2)).trans hx552_2; replace p552 := eq_true p552; replace q552 := eq_true q552; have hnb19 := NB542_547.out; have hnc19 := NB547_542.out; have hcz20_0 : w18.cell? ⟨gb542, 0, none⟩ = some (.int .i64 x543000_1) := (blk_cell BK542.out 0).trans rfl; have hcz20_1 : w18.cell? ⟨gb542, 1, none⟩ = some (.int .i64 x543001_1) := (blk_cell BK542.out 1).trans rfl; have hcz20_2 : w18.cell? ⟨gb542, 2, none⟩ = some (.string x543002_1) := (blk_cell BK542.out 2).trans rfl; have hfz20_0 := blk_frozen BK542.out 0; have hfz20_1 := blk_frozen BK542.out 1; have hfz20_2 := blk_frozen BK542.out 2
       try go_wp2_with (first | ((with_reducible refine gate_store (t := 23) (p := 4) rfl ?_); refine store_event (t := 23) (p := 4) (v := ?vo_w21) (w1 := (((w18.setCell ⟨gb542, 0, none⟩ (.int .i64 ((rd_T23 l1 x8_1).f0))).setCell ⟨gb542, 1, none⟩ (.int .i64 ((rd_T23 l1 x8_1).f1))).setCell ⟨gb542, 2, none⟩ (.string ((rd_T23 l1 x8_1).f2)))) ?hg ?ho ?hn ?hr ?_; (case ho => rfl); (case hg => rfl); (case hn => rfl); (case hr => first | (go_simp; done) | (go_simp; rfl)); intro w21 hw; replace BK542 : Aside0 (w21.heap[gb542]? = some (.cells #[.int .i64 ((rd_T23 l1 x8_1).f0), .int .i64 ((rd_T23 l1 x8_1).f1), .string ((rd_T23 l1 x8_1).f2)] 23 (0, 0))) := bp BK542 hw; replace BK547 := bw BK547 hw; replace HB := bv hw; clear hw))
       refine bodyPost_ret (results_ct rfl _ _ gb542 23 #[.int .i64 ((rd_T23 l1 x8_1).f0), .int .i64 ((rd_T23 l1 x8_1).f1), .string ((rd_T23 l1 x8_1).f2)] (0, 0) _ rfl (by (with_reducible repeat (first | refine blk_drewN ?_ _ | refine blk_drew ?_ | refine blk_alloc ?_ _)); exact BK542.out) Tryd.underlying23 rfl (by kernel_rfl)) rfl ?_
       exact ⟨by first | (simp only [ByteArray.size_extract, Nat.min_self]; rfl) | rfl | (simp [errW_none, errW_some] <;> rfl) | (simp [*, errW_none, errW_some] <;> rfl), by repeat (first | (with_reducible first | exact HB.out | apply below_alloc | apply pw_below_drewN | apply below_drew1 | refine below_set ?_ GE542.out | refine below_set ?_ GE547.out) | exact HB.out)⟩
      ·
       rw [if_neg c16] at H
       have c16b0 : (((rd_T23 l1 x8_1).f0) == t549 && (((rd_T23 l1 x8_1).f1) == t550 && ((((rd_T23 l1 x8_1).f2).toList) == t551.toList))) = false := by simpa using c16
       (try (have c16b1 : decide (((rd_T23 l1 x8_1).f0) = t549 && (((rd_T23 l1 x8_1).f1) == t550 && ((((rd_T23 l1 x8_1).f2).toList) == t551.toList))) = false := by simpa using c16))
       (try (have c16b2 : (((rd_T23 l1 x8_1).f0) == t549 && (((rd_T23 l1 x8_1).f1) == t550 && ((((rd_T23 l1 x8_1).f2).toList) == t551.toList))) = false := by simpa using c16))
       (try (have c16b3 : ¬ (((rd_T23 l1 x8_1).f0) = t549 && (((rd_T23 l1 x8_1).f1) == t550 && ((((rd_T23 l1 x8_1).f2).toList) == t551.toList))) := by simpa using c16))
       clear c16
       by_cases c22 : ((rd_T23 l1 x8_1).f0) = 0
       ·
        rw [if_pos c22] at H
        have c22b0 : (((rd_T23 l1 x8_1).f0) == 0) = true := beq_iff_eq.mpr c22; have c22b1 : (((rd_T23 l1 x8_1).f0) != 0) = false := bne_eq_false_iff_eq.mpr c22; clear c22
        have H' := Aside0.mk H
        clear H
        try go_wp2
        replace BK542 := Aside0.mk (blk_drew BK542.out); replace BK547 := Aside0.mk (blk_drew BK547.out); replace HB := Aside0.mk (below_drew1 HB.out); have p548 : 0 ≤ (x8_1 : Int) := of_decide_eq_true (by first | (with_reducible assumption) | assumption); have q548 : x8_1 < (l1.length : Int) := of_decide_eq_true (by first | (with_reducible assumption) | assumption)
        obtain ⟨ad548, e548, hx548_0, hx548_1, hx548_2⟩ := at_T23 HR1.out x8_1 p548 q548
        have hw548_2 := hx548_2; have hw548_1 := hx548_1; have hw548_0 := hx548_0
        cases e548
        replace hx548_0 := (HB.out.cell (World.block_lt_of_cell? w _ hx548_0)).trans hx548_0; replace hx548_1 := (HB.out.cell (World.block_lt_of_cell? w _ hx548_1)).trans hx548_1; replace hx548_2 := (HB.out.cell (World.block_lt_of_cell? w _ hx548_2)).trans hx548_2; replace p548 := eq_true p548; replace q548 := eq_true q548
        refine start_ (n := 7) (S := fun w' => w'.cell? (ad548.add ((x8_1).toNat * 3)) = some (.int .i64 ((rd_T23 l1 x8_1).f0)) ∧ w'.cell? ⟨(ad548.add ((x8_1).toNat * 3)).block, (ad548.add ((x8_1).toNat * 3)).off + 1, none⟩ = some (.int .i64 ((rd_T23 l1 x8_1).f1)) ∧ w'.cell? ⟨(ad548.add ((x8_1).toNat * 3)).block, (ad548.add ((x8_1).toNat * 3)).off + 2, none⟩ = some (.string ((rd_T23 l1 x8_1).f2))) (ds := []) #[false, false, false, false, false, false, false] (by kernel_rfl) rfl rfl ⟨((HB.out.cell (World.block_lt_of_cell? w _ hw548_0)).trans hw548_0), ((HB.out.cell (World.block_lt_of_cell? w _ hw548_1)).trans hw548_1), ((HB.out.cell (World.block_lt_of_cell? w _ hw548_2)).trans hw548_2)⟩ (fun hHeld => ?_)
        generalize wr.drew = w23 at BK542 BK547 HB hx548_0 hx548_1 hx548_2 hHeld ⊢
        refine pure_ (i := 0) (N := some 24) (v := ?_) (a' := ?_) #[true, false, false, false, false, false, false] rfl rfl (by kernel_rfl) (fun _ _ _ h => h) (Or.inl ⟨by rfl, ?_⟩) ?_ ?_
        rotate_left; focus (intro w'; go_simp; with_reducible rfl; done)
        rotate_left; focus (simp only [Act.put, List.setIfInBounds_toArray, List.set_cons_zero, List.set_cons_succ, i64_w, i32_w, u8_w, u32_w]; rfl; done)
        refine pure_ (i := 1) (N := some 25) (v := ?_) (a' := ?_) #[true, true, false, false, false, false, false] rfl rfl (by kernel_rfl) (fun _ _ _ h => h) (Or.inl ⟨by rfl, ?_⟩) ?_ ?_
        rotate_left; focus (intro w'; go_simp; with_reducible rfl; done)
        rotate_left; focus (simp only [Act.put, List.setIfInBounds_toArray, List.set_cons_zero, List.set_cons_succ, i64_w, i32_w, u8_w, u32_w]; rfl; done)
        refine pure_ (i := 2) (N := some 26) (v := ?_) (a' := ?_) #[true, true, true, false, false, false, false] rfl rfl (by kernel_rfl) (fun _ _ _ h => h) (Or.inl ⟨by rfl, ?_⟩) ?_ ?_
        rotate_left; focus (intro w'; go_simp; with_reducible rfl; done)
        rotate_left; focus (simp only [Act.put, List.setIfInBounds_toArray, List.set_cons_zero, List.set_cons_succ, i64_w, i32_w, u8_w, u32_w]; rfl; done)
        refine pure_ (i := 4) (N := some 28) (v := ?_) (a' := ?_) #[true, true, true, false, true, false, false] rfl rfl (by kernel_rfl) (fun _ _ _ h => h) (Or.inl ⟨by rfl, ?_⟩) ?_ ?_
        rotate_left; focus (intro w'; go_simp; with_reducible rfl; done)
        rotate_left; focus (simp only [Act.put, List.setIfInBounds_toArray, List.set_cons_zero, List.set_cons_succ, i64_w, i32_w, u8_w, u32_w]; rfl; done)
        refine take_ (i := 3) (N := some 27) (v := ?_) (a' := ?_) #[true, true, true, true, true, false, false] rfl rfl (by kernel_rfl) (fun _ _ _ h => h) (Or.inl ⟨by rfl, ?_⟩) hHeld ?_ ?_
        rotate_left; focus (rintro w' ⟨s0, s1, s2⟩; go_simp; with_reducible rfl; done)
        rotate_left; focus (simp only [Act.put, List.setIfInBounds_toArray, List.set_cons_zero, List.set_cons_succ, i64_w, i32_w, u8_w, u32_w]; rfl; done)
        refine one_ (i := 5) (N := some 29) #[true, true, true, true, true, true, false] rfl rfl (by kernel_rfl) (by decide) (fun K hK => ?_)
        refine goes_ Tryd.func43 (by kernel_rfl) rfl #[.bool a0] (by rfl) rfl rfl (by (try simp only [List.map_toArray, List.map_cons, List.map_nil]); first | done | rfl | (simp only [List.length_drop, List.length_take]; rfl)) ?_
        with_reducible refine (unisonref01_Bool.calls a0 t549 t550 t551 _ A15.out).mono ?_
        rintro e w24 ⟨rfl, hb⟩
        refine ⟨_, rfl, ?_⟩
        replace BK542 := bb BK542 hb; replace BK547 := bb BK547 hb; replace HB := bs hb; (try clear hb); (try clear hb2); (try clear hk); (try clear hi)
        refine hK.out _ _ ⟨((HB.out.cell (World.block_lt_of_cell? w _ hw548_0)).trans hw548_0), ((HB.out.cell (World.block_lt_of_cell? w _ hw548_1)).trans hw548_1), ((HB.out.cell (World.block_lt_of_cell? w _ hw548_2)).trans hw548_2)⟩ (fun hHeld => ?_)
        clear hK K
        refine norm_ (a' := ?_) ?_ ?_
        rotate_left; focus (show Act.put _ (some 29) _ = _; simp only [Act.put, List.setIfInBounds_toArray, List.set_cons_zero, List.set_cons_succ, i64_w, i32_w, u8_w, u32_w]; rfl; done)
        refine pure_ (i := 6) (N := some 30) (v := ?_) (a' := ?_) #[true, true, true, true, true, true, true] rfl rfl (by kernel_rfl) (fun _ _ _ h => h) (Or.inl ⟨by rfl, ?_⟩) ?_ ?_
        rotate_left; focus (intro w'; go_simp; with_reducible rfl; done)
        rotate_left; focus (simp only [Act.put, List.setIfInBounds_toArray, List.set_cons_zero, List.set_cons_succ, i64_w, i32_w, u8_w, u32_w]; rfl; done)
        refine done_ (by kernel_rfl) ?_
        have p553 : 0 ≤ (x8_1 : Int) := of_decide_eq_true (by first | (with_reducible assumption) | assumption); have q553 : x8_1 < (l1.length : Int) := of_decide_eq_true (by first | (with_reducible assumption) | assumption)
        obtain ⟨ad553, e553, hx553_0, hx553_1, hx553_2⟩ := at_T23 HR1.out x8_1 p553 q553
        obtain rfl : ad548 = ad553 := (by injection e553)
        replace hx553_0 := (HB.out.cell (World.block_lt_of_cell? w _ hx553_0)).trans hx553_0; replace hx553_1 := (HB.out.cell (World.block_lt_of_cell? w _ hx553_1)).trans hx553_1; replace hx553_2 := (HB.out.cell (World.block_lt_of_cell? w _ hx553_2)).trans hx553_2; replace p553 := eq_true p553; replace q553 := eq_true q553; have p554 : 0 ≤ (x8_1 : Int) := of_decide_eq_true (by first | (with_reducible assumption) | assumption); have q554 : x8_1 < (l1.length : Int) := of_decide_eq_true (by first | (with_reducible assumption) | assumption)
        obtain ⟨ad554, e554, hx554_0, hx554_1, hx554_2⟩ := at_T23 HR1.out x8_1 p554 q554
        obtain rfl : ad548 = ad554 := (by injection e554)
        replace hx554_0 := (HB.out.cell (World.block_lt_of_cell? w _ hx554_0)).trans hx554_0; replace hx554_1 := (HB.out.cell (World.block_lt_of_cell? w _ hx554_1)).trans hx554_1; replace hx554_2 := (HB.out.cell (World.block_lt_of_cell? w _ hx554_2)).trans hx554_2; replace p554 := eq_true p554; replace q554 := eq_true q554; have hnb25 := NB547_542.out; have hnc25 := NB542_547.out; have hcz26_0 : w24.cell? ⟨gb547, 0, none⟩ = some (.int .i64 x548000_1) := (blk_cell BK547.out 0).trans rfl; have hcz26_1 : w24.cell? ⟨gb547, 1, none⟩ = some (.int .i64 x548001_1) := (blk_cell BK547.out 1).trans rfl; have hcz26_2 : w24.cell? ⟨gb547, 2, none⟩ = some (.string x548002_1) := (blk_cell BK547.out 2).trans rfl; have hfz26_0 := blk_frozen BK547.out 0; have hfz26_1 := blk_frozen BK547.out 1; have hfz26_2 := blk_frozen BK547.out 2
        try go_wp2_with (first | ((with_reducible refine gate_store (t := 23) (p := 7) rfl ?_); refine store_event (t := 23) (p := 7) (v := ?vo_w27) (w1 := (((w24.setCell ⟨gb547, 0, none⟩ (.int .i64 ((rd_T23 l1 x8_1).f0))).setCell ⟨gb547, 1, none⟩ (.int .i64 ((rd_T23 l1 x8_1).f1))).setCell ⟨gb547, 2, none⟩ (.string ((rd_T23 l1 x8_1).f2)))) ?hg ?ho ?hn ?hr ?_; (case ho => rfl); (case hg => rfl); (case hn => rfl); (case hr => first | (go_simp; done) | (go_simp; rfl)); intro w27 hw; replace BK542 := bw BK542 hw; replace BK547 : Aside0 (w27.heap[gb547]? = some (.cells #[.int .i64 ((rd_T23 l1 x8_1).f0), .int .i64 ((rd_T23 l1 x8_1).f1), .string ((rd_T23 l1 x8_1).f2)] 23 (0, 0))) := bp BK547 hw; replace HB := bv hw; clear hw))
        go_roundg k1
        case measure => have := HK1.out; omega
        case rel => exact ⟨(wrap64 (x8_1 + 1)), (x543000_1), (x543001_1), (x543002_1), ((rd_T23 l1 x8_1).f0), ((rd_T23 l1 x8_1).f1), ((rd_T23 l1 x8_1).f2), (by first | rfl | (simp; done) | (simp [*]; done)), H', ⟨by have := HK1.out; omega⟩, ⟨by (with_reducible repeat (first | refine blk_drewN ?_ _ | refine blk_drew ?_ | refine blk_alloc ?_ _)); exact BK542.out⟩, ⟨by (with_reducible repeat (first | refine blk_drewN ?_ _ | refine blk_drew ?_ | refine blk_alloc ?_ _)); exact BK547.out⟩, ⟨by repeat (first | (with_reducible first | exact HB.out | apply below_alloc | apply pw_below_drewN | apply below_drew1 | refine below_set ?_ GE542.out | refine below_set ?_ GE547.out) | exact HB.out)⟩⟩
       ·
        rw [if_neg c22] at H
        have c22b0 : (((rd_T23 l1 x8_1).f0) == 0) = false := beq_eq_false_iff_ne.mpr c22; have c22b1 : (((rd_T23 l1 x8_1).f0) != 0) = true := bne_iff_ne.mpr c22
        have H' := Aside0.mk H
        clear H
        try go_wp2
        replace BK542 := Aside0.mk (blk_drew BK542.out); replace BK547 := Aside0.mk (blk_drew BK547.out); replace HB := Aside0.mk (below_drew1 HB.out); have p548 : 0 ≤ (x8_1 : Int) := of_decide_eq_true (by first | (with_reducible assumption) | assumption); have q548 : x8_1 < (l1.length : Int) := of_decide_eq_true (by first | (with_reducible assumption) | assumption)
        obtain ⟨ad548, e548, hx548_0, hx548_1, hx548_2⟩ := at_T23 HR1.out x8_1 p548 q548
        have hw548_2 := hx548_2; have hw548_1 := hx548_1; have hw548_0 := hx548_0
        cases e548
        replace hx548_0 := (HB.out.cell (World.block_lt_of_cell? w _ hx548_0)).trans hx548_0; replace hx548_1 := (HB.out.cell (World.block_lt_of_cell? w _ hx548_1)).trans hx548_1; replace hx548_2 := (HB.out.cell (World.block_lt_of_cell? w _ hx548_2)).trans hx548_2; replace p548 := eq_true p548; replace q548 := eq_true q548
        refine start_ (n := 7) (S := fun w' => w'.cell? (ad548.add ((x8_1).toNat * 3)) = some (.int .i64 ((rd_T23 l1 x8_1).f0)) ∧ w'.cell? ⟨(ad548.add ((x8_1).toNat * 3)).block, (ad548.add ((x8_1).toNat * 3)).off + 1, none⟩ = some (.int .i64 ((rd_T23 l1 x8_1).f1)) ∧ w'.cell? ⟨(ad548.add ((x8_1).toNat * 3)).block, (ad548.add ((x8_1).toNat * 3)).off + 2, none⟩ = some (.string ((rd_T23 l1 x8_1).f2))) (ds := []) #[false, false, false, false, false, false, false] (by kernel_rfl) rfl rfl ⟨((HB.out.cell (World.block_lt_of_cell? w _ hw548_0)).trans hw548_0), ((HB.out.cell (World.block_lt_of_cell? w _ hw548_1)).trans hw548_1), ((HB.out.cell (World.block_lt_of_cell? w _ hw548_2)).trans hw548_2)⟩ (fun hHeld => ?_)
        generalize wr.drew = w28 at BK542 BK547 HB hx548_0 hx548_1 hx548_2 hHeld ⊢
        refine pure_ (i := 0) (N := some 24) (v := ?_) (a' := ?_) #[true, false, false, false, false, false, false] rfl rfl (by kernel_rfl) (fun _ _ _ h => h) (Or.inl ⟨by rfl, ?_⟩) ?_ ?_
        rotate_left; focus (intro w'; go_simp; with_reducible rfl; done)
        rotate_left; focus (simp only [Act.put, List.setIfInBounds_toArray, List.set_cons_zero, List.set_cons_succ, i64_w, i32_w, u8_w, u32_w]; rfl; done)
        refine pure_ (i := 1) (N := some 25) (v := ?_) (a' := ?_) #[true, true, false, false, false, false, false] rfl rfl (by kernel_rfl) (fun _ _ _ h => h) (Or.inl ⟨by rfl, ?_⟩) ?_ ?_
        rotate_left; focus (intro w'; go_simp; with_reducible rfl; done)
        rotate_left; focus (simp only [Act.put, List.setIfInBounds_toArray, List.set_cons_zero, List.set_cons_succ, i64_w, i32_w, u8_w, u32_w]; rfl; done)
        refine pure_ (i := 2) (N := some 26) (v := ?_) (a' := ?_) #[true, true, true, false, false, false, false] rfl rfl (by kernel_rfl) (fun _ _ _ h => h) (Or.inl ⟨by rfl, ?_⟩) ?_ ?_
        rotate_left; focus (intro w'; go_simp; with_reducible rfl; done)
        rotate_left; focus (simp only [Act.put, List.setIfInBounds_toArray, List.set_cons_zero, List.set_cons_succ, i64_w, i32_w, u8_w, u32_w]; rfl; done)
        refine pure_ (i := 4) (N := some 28) (v := ?_) (a' := ?_) #[true, true, true, false, true, false, false] rfl rfl (by kernel_rfl) (fun _ _ _ h => h) (Or.inl ⟨by rfl, ?_⟩) ?_ ?_
        rotate_left; focus (intro w'; go_simp; with_reducible rfl; done)
        rotate_left; focus (simp only [Act.put, List.setIfInBounds_toArray, List.set_cons_zero, List.set_cons_succ, i64_w, i32_w, u8_w, u32_w]; rfl; done)
        refine take_ (i := 3) (N := some 27) (v := ?_) (a' := ?_) #[true, true, true, true, true, false, false] rfl rfl (by kernel_rfl) (fun _ _ _ h => h) (Or.inl ⟨by rfl, ?_⟩) hHeld ?_ ?_
        rotate_left; focus (rintro w' ⟨s0, s1, s2⟩; go_simp; with_reducible rfl; done)
        rotate_left; focus (simp only [Act.put, List.setIfInBounds_toArray, List.set_cons_zero, List.set_cons_succ, i64_w, i32_w, u8_w, u32_w]; rfl; done)
        refine one_ (i := 5) (N := some 29) #[true, true, true, true, true, true, false] rfl rfl (by kernel_rfl) (by decide) (fun K hK => ?_)
        refine goes_ Tryd.func43 (by kernel_rfl) rfl #[.bool a0] (by rfl) rfl rfl (by (try simp only [List.map_toArray, List.map_cons, List.map_nil]); first | done | rfl | (simp only [List.length_drop, List.length_take]; rfl)) ?_
        with_reducible refine (unisonref01_Bool.calls a0 t549 t550 t551 _ A15.out).mono ?_
        rintro e w29 ⟨rfl, hb⟩
        refine ⟨_, rfl, ?_⟩
        replace BK542 := bb BK542 hb; replace BK547 := bb BK547 hb; replace HB := bs hb; (try clear hb); (try clear hb2); (try clear hk); (try clear hi)
        refine hK.out _ _ ⟨((HB.out.cell (World.block_lt_of_cell? w _ hw548_0)).trans hw548_0), ((HB.out.cell (World.block_lt_of_cell? w _ hw548_1)).trans hw548_1), ((HB.out.cell (World.block_lt_of_cell? w _ hw548_2)).trans hw548_2)⟩ (fun hHeld => ?_)
        clear hK K
        refine norm_ (a' := ?_) ?_ ?_
        rotate_left; focus (show Act.put _ (some 29) _ = _; simp only [Act.put, List.setIfInBounds_toArray, List.set_cons_zero, List.set_cons_succ, i64_w, i32_w, u8_w, u32_w]; rfl; done)
        refine pure_ (i := 6) (N := some 30) (v := ?_) (a' := ?_) #[true, true, true, true, true, true, true] rfl rfl (by kernel_rfl) (fun _ _ _ h => h) (Or.inl ⟨by rfl, ?_⟩) ?_ ?_
        rotate_left; focus (intro w'; go_simp; with_reducible rfl; done)
        rotate_left; focus (simp only [Act.put, List.setIfInBounds_toArray, List.set_cons_zero, List.set_cons_succ, i64_w, i32_w, u8_w, u32_w]; rfl; done)
        refine done_ (by kernel_rfl) ?_
        have p553 : 0 ≤ (x8_1 : Int) := of_decide_eq_true (by first | (with_reducible assumption) | assumption); have q553 : x8_1 < (l1.length : Int) := of_decide_eq_true (by first | (with_reducible assumption) | assumption)
        obtain ⟨ad553, e553, hx553_0, hx553_1, hx553_2⟩ := at_T23 HR1.out x8_1 p553 q553
        obtain rfl : ad548 = ad553 := (by injection e553)
        replace hx553_0 := (HB.out.cell (World.block_lt_of_cell? w _ hx553_0)).trans hx553_0; replace hx553_1 := (HB.out.cell (World.block_lt_of_cell? w _ hx553_1)).trans hx553_1; replace hx553_2 := (HB.out.cell (World.block_lt_of_cell? w _ hx553_2)).trans hx553_2; replace p553 := eq_true p553; replace q553 := eq_true q553
        try go_wp2
        go_roundg k1
        case measure => have := HK1.out; omega
        case rel => exact ⟨(wrap64 (x8_1 + 1)), (x543000_1), (x543001_1), (x543002_1), (x548000_1), (x548001_1), (x548002_1), (by first | rfl | (simp; done) | (simp [*]; done)), H', ⟨by have := HK1.out; omega⟩, ⟨by (with_reducible repeat (first | refine blk_drewN ?_ _ | refine blk_drew ?_ | refine blk_alloc ?_ _)); exact BK542.out⟩, ⟨by (with_reducible repeat (first | refine blk_drewN ?_ _ | refine blk_drew ?_ | refine blk_alloc ?_ _)); exact BK547.out⟩, ⟨by repeat (first | (with_reducible first | exact HB.out | apply below_alloc | apply pw_below_drewN | apply below_drew1 | refine below_set ?_ GE542.out | refine below_set ?_ GE547.out) | exact HB.out)⟩⟩
     ·
      rw [if_neg c14] at H
      exact absurd H (by simp)
    ·
     rw [if_neg c13] at H
     have c13b0 : decide (x8_1 < (l1.length : Int)) = false := decide_eq_false c13; clear c13
     simp only [Option.some.injEq, Prod.mk.injEq] at H
     obtain ⟨rfl, rfl, rfl, rfl⟩ := H
     have hnb30 := NB547_542.out; have hnc30 := NB542_547.out; have hcz31_0 : wr.cell? ⟨gb547, 0, none⟩ = some (.int .i64 x548000_1) := (blk_cell BK547.out 0).trans rfl; have hcz31_1 : wr.cell? ⟨gb547, 1, none⟩ = some (.int .i64 x548001_1) := (blk_cell BK547.out 1).trans rfl; have hcz31_2 : wr.cell? ⟨gb547, 2, none⟩ = some (.string x548002_1) := (blk_cell BK547.out 2).trans rfl; have hfz31_0 := blk_frozen BK547.out 0; have hfz31_1 := blk_frozen BK547.out 1; have hfz31_2 := blk_frozen BK547.out 2; have hcz32_0 : wr.cell? ⟨gb542, 0, none⟩ = some (.int .i64 x543000_1) := (blk_cell BK542.out 0).trans rfl; have hcz32_1 : wr.cell? ⟨gb542, 1, none⟩ = some (.int .i64 x543001_1) := (blk_cell BK542.out 1).trans rfl; have hcz32_2 : wr.cell? ⟨gb542, 2, none⟩ = some (.string x543002_1) := (blk_cell BK542.out 2).trans rfl; have hfz32_0 := blk_frozen BK542.out 0; have hfz32_1 := blk_frozen BK542.out 1; have hfz32_2 := blk_frozen BK542.out 2
     go_wp2_with (first | ((with_reducible refine gate_store (t := 23) (p := 4) rfl ?_); refine store_event (t := 23) (p := 4) (v := ?vo_w33) (w1 := (((wr.setCell ⟨gb542, 0, none⟩ (.int .i64 x548000_1)).setCell ⟨gb542, 1, none⟩ (.int .i64 x548001_1)).setCell ⟨gb542, 2, none⟩ (.string x548002_1))) ?hg ?ho ?hn ?hr ?_; (case ho => rfl); (case hg => rfl); (case hn => rfl); (case hr => first | (go_simp; done) | (go_simp; rfl)); intro w33 hw; replace BK542 : Aside0 (w33.heap[gb542]? = some (.cells #[.int .i64 x548000_1, .int .i64 x548001_1, .string x548002_1] 23 (0, 0))) := bp BK542 hw; replace BK547 := bw BK547 hw; replace HB := bv hw; clear hw))
     refine bodyPost_ret (results_ct rfl _ _ gb542 23 #[.int .i64 x548000_1, .int .i64 x548001_1, .string x548002_1] (0, 0) _ rfl (by (with_reducible repeat (first | refine blk_drewN ?_ _ | refine blk_drew ?_ | refine blk_alloc ?_ _)); exact BK542.out) Tryd.underlying23 rfl (by kernel_rfl)) rfl ?_
     exact ⟨by first | (simp only [ByteArray.size_extract, Nat.min_self]; rfl) | rfl | (simp [errW_none, errW_some] <;> rfl) | (simp [*, errW_none, errW_some] <;> rfl), by repeat (first | (with_reducible first | exact HB.out | apply below_alloc | apply pw_below_drewN | apply below_drew1 | refine below_set ?_ GE542.out | refine below_set ?_ GE547.out) | exact HB.out)⟩
 ·
  rw [if_neg c4] at H
  have c4b0 : (t543 == 0) = false := beq_eq_false_iff_ne.mpr c4; have c4b1 : (t543 != 0) = true := bne_iff_ne.mpr c4
  simp only [Option.some.injEq, Prod.mk.injEq] at H
  obtain ⟨rfl, rfl, rfl, rfl⟩ := H
  go_enter Tryd.func51, Tryd.ntmps51
  go_wp2_with (first | ((with_reducible refine gate_dst (N := 4) rfl ?_); refine box_event ?hg (N := 4) ?hd (cs := #[.int .i64 0, .int .i64 0, .string (⟨#[]⟩ : ByteArray)]) (t := 23) ?hr ?_; (case hd => rfl); (case hg => rfl); (case hr => first | (go_simp; done) | (go_simp; rfl)); intro gb542 hg w34 hbox hb; have BK542 := Aside0.mk (hbox); have GW542 := bz hg; have GE542 := bz hg; replace HB := bs hb; clear hb hbox hg) | ((with_reducible refine gate_callee (f := 46) rfl ?_); refine gL (some 10) Tryd.func46 #[.int .i64 2, .slice A1 l1.length c1] ?_; (with_reducible refine (unisonref01_refused.calls k 2 _ _ l1 t543 _ ?side1 ?side2 A3.out).mono ?_); (case side1 => repeat (first | exact (Kd.C_below HR1.out HB.out) | (with_reducible refine Kd.C_alloc ?_ _) | (with_reducible refine Kd.C_drewN ?_ _) | (with_reducible refine Kd.C_drew ?_))); (case side2 => exact HC1.out); rintro e w35 ⟨rfl, hb⟩; refine ⟨_, rfl, ?_⟩; replace BK542 := bb BK542 hb; replace HB := bs hb; (try clear hb); (try clear hb2); (try clear hk); (try clear hi); have hcz36_0 : w35.cell? ⟨gb542, 0, none⟩ = some (.int .i64 0) := (blk_cell BK542.out 0).trans rfl; have hcz36_1 : w35.cell? ⟨gb542, 1, none⟩ = some (.int .i64 0) := (blk_cell BK542.out 1).trans rfl; have hcz36_2 : w35.cell? ⟨gb542, 2, none⟩ = some (.string (⟨#[]⟩ : ByteArray)) := (blk_cell BK542.out 2).trans rfl; have hfz36_0 := blk_frozen BK542.out 0; have hfz36_1 := blk_frozen BK542.out 1; have hfz36_2 := blk_frozen BK542.out 2) | ((with_reducible refine gate_store (t := 23) (p := 4) rfl ?_); refine store_event (t := 23) (p := 4) (v := ?vo_w37) (w1 := (((w35.setCell ⟨gb542, 0, none⟩ (.int .i64 0)).setCell ⟨gb542, 1, none⟩ (.int .i64 0)).setCell ⟨gb542, 2, none⟩ (.string (⟨#[]⟩ : ByteArray)))) ?hg ?ho ?hn ?hr ?_; (case ho => rfl); (case hg => rfl); (case hn => rfl); (case hr => first | (go_simp; done) | (go_simp; rfl)); intro w37 hw; replace BK542 : Aside0 (w37.heap[gb542]? = some (.cells #[.int .i64 0, .int .i64 0, .string (⟨#[]⟩ : ByteArray)] 23 (0, 0))) := bp BK542 hw; replace HB := bv hw; clear hw))
  refine bodyPost_ret (results_ct rfl _ _ gb542 23 #[.int .i64 0, .int .i64 0, .string (⟨#[]⟩ : ByteArray)] (0, 0) _ rfl (by (with_reducible repeat (first | refine blk_drewN ?_ _ | refine blk_drew ?_ | refine blk_alloc ?_ _)); exact BK542.out) Tryd.underlying23 rfl (by kernel_rfl)) rfl ?_
  exact ⟨by first | (simp only [ByteArray.size_extract, Nat.min_self]; rfl) | rfl | (simp [errW_none, errW_some] <;> rfl) | (simp [*, errW_none, errW_some] <;> rfl), by repeat (first | (with_reducible first | exact HB.out | apply below_alloc | apply pw_below_drewN | apply below_drew1 | refine below_set ?_ GE542.out) | exact HB.out)⟩
end Go.Proofs.YteehcopkljiikaaDoor.PA
end
section
namespace Go.Proofs.YteehcopkljiikaaDoor.PA
open Go.RowKit Go.Proofs.YteehcopkljiikaaDoorW.PrintWords Go.Proofs.YteehcopkljiikaaDoorW.PrintLast Go.Proofs.YteehcopkljiikaaDoorW.PrintMore Go.Proofs.YteehcopkljiikaaDoorX
attribute [local go_sem] max2_int min2_int max_two min_two max_three min_three max_four min_four   -- for this text's walks alone
set_option linter.unusedVariables false
set_option linter.unusedSimpArgs false
attribute [local go_sem high] eqA23
/-! ### unisonref01_And: function 29 -/
def unisonref01_And.f (k : Nat) (l0 : List (S23)) : Option (Int × Int × ByteArray × Int) := (unisonref01_decided.f k false l0).bind fun bt556 => (some (bt556.1, bt556.2.1, bt556.2.2.1, bt556.2.2.2))
theorem unisonref01_And.mono : ∀ a0 k, LeO (unisonref01_And.f k a0) (unisonref01_And.f (k + 1) a0) := by
 intro a0 k
 unfold unisonref01_And.f
 repeat' first
   | (with_reducible exact unisonref01_decided.mono _ _ _)
   | (with_reducible exact LeO.refl _)
   | (with_reducible exact LeO.none _)
   | (with_reducible refine LeO.ite ?_ ?_)
   | (with_reducible refine LeO.bind ?_ (fun _ => ?_))
   | exact unisonref01_decided.mono _ _ _
   | exact LeO.none _
   | refine LeO.ite ?_ ?_
   | refine LeO.bind ?_ (fun _ => ?_)
set_option maxHeartbeats 8000000 in
set_option maxRecDepth 100000 in
theorem unisonref01_And.calls (k : Nat) (A0 : Option Addr) (c0 : Nat) (l0 : List (S23)) (r1 : Int) (r2 : Int) (r3 : ByteArray) (r4 : Int) (w : World) (hr0 : Kd.C k23 w A0 l0.length l0) (hc0 : l0.length ≤ c0) (h : unisonref01_And.f k l0 = some (r1, r2, r3, r4)) :
  Calls Tryd.prog 29 #[.slice A0 l0.length c0] w fun e w' => e = .returned (.tuple #[.agg #[.int .i64 r1, .int .i64 r2, .string r3], .int .i64 r4]) ∧ Below w.heap.size w w' := by
 have hu23 := Tryd.underlying23; have HR0 := Aside0.mk hr0; have HC0 := Aside0.mk hc0; clear hr0 hc0; have HB := Aside0.mk (Below.refl w.heap.size w); have H : ((unisonref01_decided.f k false l0).bind fun bt556 => (some (bt556.1, bt556.2.1, bt556.2.2.1, bt556.2.2.2))) = some (r1, r2, r3, r4) := h; clear h; replace H := Option.bind_eq_some_iff.mp H
 obtain ⟨⟨t556, t557, t558, t559⟩, A20, H⟩ := H
 replace H : (some (t556, t557, t558, t559)) = some (r1, r2, r3, r4) := H; have A2 := Aside0.mk A20; clear A20
 simp only [Option.some.injEq, Prod.mk.injEq] at H
 obtain ⟨rfl, rfl, rfl, rfl⟩ := H
 go_enter Tryd.func29, Tryd.ntmps29
 go_wp2_with (first | ((with_reducible refine gate_dst (N := 2) rfl ?_); refine box_event ?hg (N := 2) ?hd (cs := #[.int .i64 0, .int .i64 0, .string (⟨#[]⟩ : ByteArray)]) (t := 23) ?hr ?_; (case hd => rfl); (case hg => rfl); (case hr => first | (go_simp; done) | (go_simp; rfl)); intro gb555 hg w3 hbox hb; have BK555 := Aside0.mk (hbox); have GW555 := bz hg; have GE555 := bz hg; replace HB := bs hb; clear hb hbox hg) | ((with_reducible refine gate_callee (f := 51) rfl ?_); refine gL (some 5) Tryd.func51 #[.bool false, .slice A0 l0.length c0] ?_; (with_reducible refine (unisonref01_decided.calls k false _ _ l0 t556 t557 t558 t559 _ ?side1 ?side2 A2.out).mono ?_); (case side1 => repeat (first | exact (Kd.C_below HR0.out HB.out) | (with_reducible refine Kd.C_alloc ?_ _) | (with_reducible refine Kd.C_drewN ?_ _) | (with_reducible refine Kd.C_drew ?_))); (case side2 => exact HC0.out); rintro e w4 ⟨rfl, hb⟩; refine ⟨_, rfl, ?_⟩; replace BK555 := bb BK555 hb; replace HB := bs hb; (try clear hb); (try clear hb2); (try clear hk); (try clear hi); have hcz5_0 : w4.cell? ⟨gb555, 0, none⟩ = some (.int .i64 0) := (blk_cell BK555.out 0).trans rfl; have hcz5_1 : w4.cell? ⟨gb555, 1, none⟩ = some (.int .i64 0) := (blk_cell BK555.out 1).trans rfl; have hcz5_2 : w4.cell? ⟨gb555, 2, none⟩ = some (.string (⟨#[]⟩ : ByteArray)) := (blk_cell BK555.out 2).trans rfl; have hfz5_0 := blk_frozen BK555.out 0; have hfz5_1 := blk_frozen BK555.out 1; have hfz5_2 := blk_frozen BK555.out 2) | ((with_reducible refine gate_store (t := 23) (p := 2) rfl ?_); refine store_event (t := 23) (p := 2) (v := ?vo_w6) (w1 := (((w4.setCell ⟨gb555, 0, none⟩ (.int .i64 t556)).setCell ⟨gb555, 1, none⟩ (.int .i64 t557)).setCell ⟨gb555, 2, none⟩ (.string t558))) ?hg ?ho ?hn ?hr ?_; (case ho => rfl); (case hg => rfl); (case hn => rfl); (case hr => first | (go_simp; done) | (go_simp; rfl)); intro w6 hw; replace BK555 : Aside0 (w6.heap[gb555]? = some (.cells #[.int .i64 t556, .int .i64 t557, .string t558] 23 (0, 0))) := bp BK555 hw; replace HB := bv hw; clear hw))
 refine bodyPost_ret (results_ct rfl _ _ gb555 23 #[.int .i64 t556, .int .i64 t557, .string t558] (0, 0) _ rfl (by (with_reducible repeat (first | refine blk_drewN ?_ _ | refine blk_drew ?_ | refine blk_alloc ?_ _)); exact BK555.out) Tryd.underlying23 rfl (by kernel_rfl)) rfl ?_
 exact ⟨by first | (simp only [ByteArray.size_extract, Nat.min_self]; rfl) | rfl | (simp [errW_none, errW_some] <;> rfl) | (simp [*, errW_none, errW_some] <;> rfl), by repeat (first | (with_reducible first | exact HB.out | apply below_alloc | apply pw_below_drewN | apply below_drew1 | refine below_set ?_ GE555.out) | exact HB.out)⟩
end Go.Proofs.YteehcopkljiikaaDoor.PA
end
section
namespace Go.Proofs.YteehcopkljiikaaDoor.PA
open Go.RowKit Go.Proofs.YteehcopkljiikaaDoorW.PrintWords Go.Proofs.YteehcopkljiikaaDoorW.PrintLast Go.Proofs.YteehcopkljiikaaDoorW.PrintMore Go.Proofs.YteehcopkljiikaaDoorX
attribute [local go_sem] max2_int min2_int max_two min_two max_three min_three max_four min_four   -- for this text's walks alone
set_option linter.unusedVariables false
set_option linter.unusedSimpArgs false
/-! ### unisonref01_Or: function 31 -/
def unisonref01_Or.f (k : Nat) (l0 : List (S23)) : Option (Int × Int × ByteArray × Int) := (unisonref01_decided.f k true l0).bind fun bt566 => (some (bt566.1, bt566.2.1, bt566.2.2.1, bt566.2.2.2))
theorem unisonref01_Or.mono : ∀ a0 k, LeO (unisonref01_Or.f k a0) (unisonref01_Or.f (k + 1) a0) := by
 intro a0 k
 unfold unisonref01_Or.f
 repeat' first
   | (with_reducible exact unisonref01_decided.mono _ _ _)
   | (with_reducible exact LeO.refl _)
   | (with_reducible exact LeO.none _)
   | (with_reducible refine LeO.ite ?_ ?_)
   | (with_reducible refine LeO.bind ?_ (fun _ => ?_))
   | exact unisonref01_decided.mono _ _ _
   | exact LeO.none _
   | refine LeO.ite ?_ ?_
   | refine LeO.bind ?_ (fun _ => ?_)
set_option maxHeartbeats 8000000 in
set_option maxRecDepth 100000 in
theorem unisonref01_Or.calls (k : Nat) (A0 : Option Addr) (c0 : Nat) (l0 : List (S23)) (r1 : Int) (r2 : Int) (r3 : ByteArray) (r4 : Int) (w : World) (hr0 : Kd.C k23 w A0 l0.length l0) (hc0 : l0.length ≤ c0) (h : unisonref01_Or.f k l0 = some (r1, r2, r3, r4)) :
  Calls Tryd.prog 31 #[.slice A0 l0.length c0] w fun e w' => e = .returned (.tuple #[.agg #[.int .i64 r1, .int .i64 r2, .string r3], .int .i64 r4]) ∧ Below w.heap.size w w' := by
 have hu23 := Tryd.underlying23; have HR0 := Aside0.mk hr0; have HC0 := Aside0.mk hc0; clear hr0 hc0; have HB := Aside0.mk (Below.refl w.heap.size w); have H : ((unisonref01_decided.f k true l0).bind fun bt566 => (some (bt566.1, bt566.2.1, bt566.2.2.1, bt566.2.2.2))) = some (r1, r2, r3, r4) := h; clear h; replace H := Option.bind_eq_some_iff.mp H
 obtain ⟨⟨t566, t567, t568, t569⟩, A20, H⟩ := H
 replace H : (some (t566, t567, t568, t569)) = some (r1, r2, r3, r4) := H; have A2 := Aside0.mk A20; clear A20
 simp only [Option.some.injEq, Prod.mk.injEq] at H
 obtain ⟨rfl, rfl, rfl, rfl⟩ := H
 go_enter Tryd.func31, Tryd.ntmps31
 go_wp2_with (first | ((with_reducible refine gate_dst (N := 2) rfl ?_); refine box_event ?hg (N := 2) ?hd (cs := #[.int .i64 0, .int .i64 0, .string (⟨#[]⟩ : ByteArray)]) (t := 23) ?hr ?_; (case hd => rfl); (case hg => rfl); (case hr => first | (go_simp; done) | (go_simp; rfl)); intro gb565 hg w3 hbox hb; have BK565 := Aside0.mk (hbox); have GW565 := bz hg; have GE565 := bz hg; replace HB := bs hb; clear hb hbox hg) | ((with_reducible refine gate_callee (f := 51) rfl ?_); refine gL (some 5) Tryd.func51 #[.bool true, .slice A0 l0.length c0] ?_; (with_reducible refine (unisonref01_decided.calls k true _ _ l0 t566 t567 t568 t569 _ ?side1 ?side2 A2.out).mono ?_); (case side1 => repeat (first | exact (Kd.C_below HR0.out HB.out) | (with_reducible refine Kd.C_alloc ?_ _) | (with_reducible refine Kd.C_drewN ?_ _) | (with_reducible refine Kd.C_drew ?_))); (case side2 => exact HC0.out); rintro e w4 ⟨rfl, hb⟩; refine ⟨_, rfl, ?_⟩; replace BK565 := bb BK565 hb; replace HB := bs hb; (try clear hb); (try clear hb2); (try clear hk); (try clear hi); have hcz5_0 : w4.cell? ⟨gb565, 0, none⟩ = some (.int .i64 0) := (blk_cell BK565.out 0).trans rfl; have hcz5_1 : w4.cell? ⟨gb565, 1, none⟩ = some (.int .i64 0) := (blk_cell BK565.out 1).trans rfl; have hcz5_2 : w4.cell? ⟨gb565, 2, none⟩ = some (.string (⟨#[]⟩ : ByteArray)) := (blk_cell BK565.out 2).trans rfl; have hfz5_0 := blk_frozen BK565.out 0; have hfz5_1 := blk_frozen BK565.out 1; have hfz5_2 := blk_frozen BK565.out 2) | ((with_reducible refine gate_store (t := 23) (p := 2) rfl ?_); refine store_event (t := 23) (p := 2) (v := ?vo_w6) (w1 := (((w4.setCell ⟨gb565, 0, none⟩ (.int .i64 t566)).setCell ⟨gb565, 1, none⟩ (.int .i64 t567)).setCell ⟨gb565, 2, none⟩ (.string t568))) ?hg ?ho ?hn ?hr ?_; (case ho => rfl); (case hg => rfl); (case hn => rfl); (case hr => first | (go_simp; done) | (go_simp; rfl)); intro w6 hw; replace BK565 : Aside0 (w6.heap[gb565]? = some (.cells #[.int .i64 t566, .int .i64 t567, .string t568] 23 (0, 0))) := bp BK565 hw; replace HB := bv hw; clear hw))
 refine bodyPost_ret (results_ct rfl _ _ gb565 23 #[.int .i64 t566, .int .i64 t567, .string t568] (0, 0) _ rfl (by (with_reducible repeat (first | refine blk_drewN ?_ _ | refine blk_drew ?_ | refine blk_alloc ?_ _)); exact BK565.out) Tryd.underlying23 rfl (by kernel_rfl)) rfl ?_
 exact ⟨by first | (simp only [ByteArray.size_extract, Nat.min_self]; rfl) | rfl | (simp [errW_none, errW_some] <;> rfl) | (simp [*, errW_none, errW_some] <;> rfl), by repeat (first | (with_reducible first | exact HB.out | apply below_alloc | apply pw_below_drewN | apply below_drew1 | refine below_set ?_ GE565.out) | exact HB.out)⟩
end Go.Proofs.YteehcopkljiikaaDoor.PA
end
