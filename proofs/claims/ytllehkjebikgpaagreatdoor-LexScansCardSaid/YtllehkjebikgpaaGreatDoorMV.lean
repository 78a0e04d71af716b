/- Several texts in one (merge.py): PFRBool, PFRNumber01, PFRPlace, PFRSaid, PFRRight, PFRDigits, PFRQuoted, PFRPrint, PFRParse; no conditions beyond those in each theorem's head. -/
import Derived.Test.YtllehkjebikgpaaGreatDoorPAx0
section
namespace Go.Proofs.YtllehkjebikgpaaGreatDoor.PA
open Go.RowKit Go.Proofs.YtllehkjebikgpaaGreatDoorW.PrintWords Go.Proofs.YtllehkjebikgpaaGreatDoorW.PrintLast Go.Proofs.YtllehkjebikgpaaGreatDoorW.PrintMore Go.Proofs.YtllehkjebikgpaaGreatDoorX
attribute [local go_sem] max2_int min2_int max_two min_two max_three min_three max_four min_four   -- for this text's walks alone
set_option linter.unusedVariables false
set_option linter.unusedSimpArgs false
/-! ### unisonref01_Bool: function 47 -/
def unisonref01_Bool.f (a0 : Bool) : Option (Int × Int × ByteArray) := if a0 = true then (some (2, 1, (⟨#[]⟩ : ByteArray))) else (some (2, 0, (⟨#[]⟩ : ByteArray)))
set_option maxHeartbeats 8000000 in
set_option maxRecDepth 100000 in
theorem unisonref01_Bool.calls (a0 : Bool) (r1 : Int) (r2 : Int) (r3 : ByteArray) (w : World) (h : unisonref01_Bool.f a0 = some (r1, r2, r3)) :
  Calls Tryz.prog 47 #[.bool a0] w fun e w' => e = .returned (.agg #[.int .i64 r1, .int .i64 r2, .string r3]) ∧ Below w.heap.size w w' := by
 have hu48 := Tryz.underlying48; have HB := Aside0.mk (Below.refl w.heap.size w); have H : (if a0 = true then (some (2, 1, (⟨#[]⟩ : ByteArray))) else (some (2, 0, (⟨#[]⟩ : ByteArray)))) = some (r1, r2, r3) := h; clear h
 by_cases c2 : a0 = true
 ·
  subst c2
  have H1 : (some (2, 1, (⟨#[]⟩ : ByteArray))) = some (r1, r2, r3) := by rw [if_pos rfl] at H; exact H
  clear H; have H := H1; clear H1
  simp only [Option.some.injEq, Prod.mk.injEq] at H
  obtain ⟨rfl, rfl, rfl⟩ := H
  go_enter Tryz.func47, Tryz.ntmps47
  go_wp2_with (first | ((with_reducible refine gate_dst (N := 2) rfl ?_); refine box_event ?hg (N := 2) ?hd (cs := #[.int .i64 0, .int .i64 0, .string (⟨#[]⟩ : ByteArray)]) (t := 48) ?hr ?_; (case hd => rfl); (case hg => rfl); (case hr => first | (go_simp; done) | (go_simp; rfl)); intro gb118 hg w3 hbox hb; have BK118 := Aside0.mk (hbox); have GW118 := bz hg; have GE118 := bz hg; replace HB := bs hb; clear hb hbox hg; have hcz4_0 : w3.cell? ⟨gb118, 0, none⟩ = some (.int .i64 0) := (blk_cell BK118.out 0).trans rfl; have hcz4_1 : w3.cell? ⟨gb118, 1, none⟩ = some (.int .i64 0) := (blk_cell BK118.out 1).trans rfl; have hcz4_2 : w3.cell? ⟨gb118, 2, none⟩ = some (.string (⟨#[]⟩ : ByteArray)) := (blk_cell BK118.out 2).trans rfl; have hfz4_0 := blk_frozen BK118.out 0; have hfz4_1 := blk_frozen BK118.out 1; have hfz4_2 := blk_frozen BK118.out 2) | ((with_reducible refine gate_store (t := 48) (p := 2) rfl ?_); refine store_event (t := 48) (p := 2) (v := ?vo_w5) (w1 := (((w3.setCell ⟨gb118, 0, none⟩ (.int .i64 2)).setCell ⟨gb118, 1, none⟩ (.int .i64 1)).setCell ⟨gb118, 2, none⟩ (.string (⟨#[]⟩ : ByteArray)))) ?hg ?ho ?hn ?hr ?_; (case ho => rfl); (case hg => rfl); (case hn => rfl); (case hr => first | (go_simp; done) | (go_simp; rfl)); intro w5 hw; replace BK118 : Aside0 (w5.heap[gb118]? = some (.cells #[.int .i64 2, .int .i64 1, .string (⟨#[]⟩ : ByteArray)] 48 (0, 0))) := bp BK118 hw; replace HB := bv hw; clear hw))
  refine bodyPost_ret (results_cell_row rfl _ _ gb118 48 #[.int .i64 2, .int .i64 1, .string (⟨#[]⟩ : ByteArray)] (0, 0) _ rfl (by (with_reducible repeat (first | refine blk_drewN ?_ _ | refine blk_drew ?_ | refine blk_alloc ?_ _)); exact BK118.out) Tryz.underlying48 rfl (by kernel_rfl)) rfl ?_
  exact ⟨by first | rfl | (simp [errW_none, errW_some] <;> rfl) | (simp [*, errW_none, errW_some] <;> rfl), by repeat (first | (with_reducible first | exact HB.out | apply below_alloc | apply pw_below_drewN | apply below_drew1 | refine below_set ?_ GE118.out) | exact HB.out)⟩
 ·
  replace c2 := Bool.eq_false_iff.mpr c2
  subst c2
  have H1 : (some (2, 0, (⟨#[]⟩ : ByteArray))) = some (r1, r2, r3) := by rw [if_neg (show ¬ (false = true) by decide)] at H; exact H
  clear H; have H := H1; clear H1
  simp only [Option.some.injEq, Prod.mk.injEq] at H
  obtain ⟨rfl, rfl, rfl⟩ := H
  go_enter Tryz.func47, Tryz.ntmps47
  go_wp2_with (first | ((with_reducible refine gate_dst (N := 2) rfl ?_); refine box_event ?hg (N := 2) ?hd (cs := #[.int .i64 0, .int .i64 0, .string (⟨#[]⟩ : ByteArray)]) (t := 48) ?hr ?_; (case hd => rfl); (case hg => rfl); (case hr => first | (go_simp; done) | (go_simp; rfl)); intro gb118 hg w6 hbox hb; have BK118 := Aside0.mk (hbox); have GW118 := bz hg; have GE118 := bz hg; replace HB := bs hb; clear hb hbox hg; have hcz7_0 : w6.cell? ⟨gb118, 0, none⟩ = some (.int .i64 0) := (blk_cell BK118.out 0).trans rfl; have hcz7_1 : w6.cell? ⟨gb118, 1, none⟩ = some (.int .i64 0) := (blk_cell BK118.out 1).trans rfl; have hcz7_2 : w6.cell? ⟨gb118, 2, none⟩ = some (.string (⟨#[]⟩ : ByteArray)) := (blk_cell BK118.out 2).trans rfl; have hfz7_0 := blk_frozen BK118.out 0; have hfz7_1 := blk_frozen BK118.out 1; have hfz7_2 := blk_frozen BK118.out 2) | ((with_reducible refine gate_store (t := 48) (p := 2) rfl ?_); refine store_event (t := 48) (p := 2) (v := ?vo_w8) (w1 := (((w6.setCell ⟨gb118, 0, none⟩ (.int .i64 2)).setCell ⟨gb118, 1, none⟩ (.int .i64 0)).setCell ⟨gb118, 2, none⟩ (.string (⟨#[]⟩ : ByteArray)))) ?hg ?ho ?hn ?hr ?_; (case ho => rfl); (case hg => rfl); (case hn => rfl); (case hr => first | (go_simp; done) | (go_simp; rfl)); intro w8 hw; replace BK118 : Aside0 (w8.heap[gb118]? = some (.cells #[.int .i64 2, .int .i64 0, .string (⟨#[]⟩ : ByteArray)] 48 (0, 0))) := bp BK118 hw; replace HB := bv hw; clear hw))
  refine bodyPost_ret (results_cell_row rfl _ _ gb118 48 #[.int .i64 2, .int .i64 0, .string (⟨#[]⟩ : ByteArray)] (0, 0) _ rfl (by (with_reducible repeat (first | refine blk_drewN ?_ _ | refine blk_drew ?_ | refine blk_alloc ?_ _)); exact BK118.out) Tryz.underlying48 rfl (by kernel_rfl)) rfl ?_
  exact ⟨by first | rfl | (simp [errW_none, errW_some] <;> rfl) | (simp [*, errW_none, errW_some] <;> rfl), by repeat (first | (with_reducible first | exact HB.out | apply below_alloc | apply pw_below_drewN | apply below_drew1 | refine below_set ?_ GE118.out) | exact HB.out)⟩
end Go.Proofs.YtllehkjebikgpaaGreatDoor.PA
end
section
namespace Go.Proofs.YtllehkjebikgpaaGreatDoor.PA
open Go.RowKit Go.Proofs.YtllehkjebikgpaaGreatDoorW.PrintWords Go.Proofs.YtllehkjebikgpaaGreatDoorW.PrintLast Go.Proofs.YtllehkjebikgpaaGreatDoorW.PrintMore Go.Proofs.YtllehkjebikgpaaGreatDoorX
attribute [local go_sem] max2_int min2_int max_two min_two max_three min_three max_four min_four   -- for this text's walks alone
set_option linter.unusedVariables false
set_option linter.unusedSimpArgs false
/-! ### unisonref01_Number: function 48 -/
def unisonref01_Number.f (a0 : Int) : Option (Int × Int × ByteArray) := some (1, a0, (⟨#[]⟩ : ByteArray))
set_option maxHeartbeats 8000000 in
set_option maxRecDepth 100000 in
theorem unisonref01_Number.calls (a0 : Int) (r1 : Int) (r2 : Int) (r3 : ByteArray) (w : World) (h : unisonref01_Number.f a0 = some (r1, r2, r3)) :
  Calls Tryz.prog 48 #[.int .i64 a0] w fun e w' => e = .returned (.agg #[.int .i64 r1, .int .i64 r2, .string r3]) ∧ Below w.heap.size w w' := by
 have hu48 := Tryz.underlying48; have HB := Aside0.mk (Below.refl w.heap.size w); have H : (some (1, a0, (⟨#[]⟩ : ByteArray))) = some (r1, r2, r3) := h; clear h
 simp only [Option.some.injEq, Prod.mk.injEq] at H
 obtain ⟨rfl, rfl, rfl⟩ := H
 go_enter Tryz.func48, Tryz.ntmps48
 go_wp2_with (first | ((with_reducible refine gate_dst (N := 2) rfl ?_); refine box_event ?hg (N := 2) ?hd (cs := #[.int .i64 0, .int .i64 0, .string (⟨#[]⟩ : ByteArray)]) (t := 48) ?hr ?_; (case hd => rfl); (case hg => rfl); (case hr => first | (go_simp; done) | (go_simp; rfl)); intro gb119 hg w2 hbox hb; have BK119 := Aside0.mk (hbox); have GW119 := bz hg; have GE119 := bz hg; replace HB := bs hb; clear hb hbox hg; have hcz3_0 : w2.cell? ⟨gb119, 0, none⟩ = some (.int .i64 0) := (blk_cell BK119.out 0).trans rfl; have hcz3_1 : w2.cell? ⟨gb119, 1, none⟩ = some (.int .i64 0) := (blk_cell BK119.out 1).trans rfl; have hcz3_2 : w2.cell? ⟨gb119, 2, none⟩ = some (.string (⟨#[]⟩ : ByteArray)) := (blk_cell BK119.out 2).trans rfl; have hfz3_0 := blk_frozen BK119.out 0; have hfz3_1 := blk_frozen BK119.out 1; have hfz3_2 := blk_frozen BK119.out 2) | ((with_reducible refine gate_store (t := 48) (p := 2) rfl ?_); refine store_event (t := 48) (p := 2) (v := ?vo_w4) (w1 := (((w2.setCell ⟨gb119, 0, none⟩ (.int .i64 1)).setCell ⟨gb119, 1, none⟩ (.int .i64 a0)).setCell ⟨gb119, 2, none⟩ (.string (⟨#[]⟩ : ByteArray)))) ?hg ?ho ?hn ?hr ?_; (case ho => rfl); (case hg => rfl); (case hn => rfl); (case hr => first | (go_simp; done) | (go_simp; rfl)); intro w4 hw; replace BK119 : Aside0 (w4.heap[gb119]? = some (.cells #[.int .i64 1, .int .i64 a0, .string (⟨#[]⟩ : ByteArray)] 48 (0, 0))) := bp BK119 hw; replace HB := bv hw; clear hw))
 refine bodyPost_ret (results_cell_row rfl _ _ gb119 48 #[.int .i64 1, .int .i64 a0, .string (⟨#[]⟩ : ByteArray)] (0, 0) _ rfl (by (with_reducible repeat (first | refine blk_drewN ?_ _ | refine blk_drew ?_ | refine blk_alloc ?_ _)); exact BK119.out) Tryz.underlying48 rfl (by kernel_rfl)) rfl ?_
 exact ⟨by first | rfl | (simp [errW_none, errW_some] <;> rfl) | (simp [*, errW_none, errW_some] <;> rfl), by repeat (first | (with_reducible first | exact HB.out | apply below_alloc | apply pw_below_drewN | apply below_drew1 | refine below_set ?_ GE119.out) | exact HB.out)⟩
end Go.Proofs.YtllehkjebikgpaaGreatDoor.PA
end
section
namespace Go.Proofs.YtllehkjebikgpaaGreatDoor.PA
open Go.RowKit Go.Proofs.YtllehkjebikgpaaGreatDoorW.PrintWords Go.Proofs.YtllehkjebikgpaaGreatDoorW.PrintLast Go.Proofs.YtllehkjebikgpaaGreatDoorW.PrintMore Go.Proofs.YtllehkjebikgpaaGreatDoorX
attribute [local go_sem] max2_int min2_int max_two min_two max_three min_three max_four min_four   -- for this text's walks alone
set_option linter.unusedVariables false
set_option linter.unusedSimpArgs false
/-! ### unisonref01_place: function 49 -/
def unisonref01_place.l0 : Nat → Int → Int → Option (Int)
 | 0, _, _ => none
 | k + 1, x0, x3 => if x3 < 16 then (if 0 ≤ x3 then (if (bt (⟨#[48, 49, 50, 51, 52, 53, 54, 55, 56, 57, 97, 98, 99, 100, 101, 102]⟩ : ByteArray) x3) = x0 then (some x3) else (unisonref01_place.l0 k x0 (wrap64 (x3 + 1)))) else (none)) else (some 0)
def unisonref01_place.f (k : Nat) (a0 : Int) : Option (Int) := unisonref01_place.l0 k a0 0
theorem unisonref01_place.mono_l : ∀ k, (∀ y0 y1, LeO (unisonref01_place.l0 k y0 y1) (unisonref01_place.l0 (k + 1) y0 y1))
 | 0 => fun _ _ r h => by simp [unisonref01_place.l0] at h
 | k + 1 => by
  have ih0 := unisonref01_place.mono_l k
  ·
   intro y0 y1
   unfold unisonref01_place.l0
   repeat' first
   | (with_reducible exact ih0 _ _)
   | (with_reducible exact LeO.refl _)
   | (with_reducible exact LeO.none _)
   | (with_reducible refine LeO.ite ?_ ?_)
   | (with_reducible refine LeO.bind ?_ (fun _ => ?_))
   | exact ih0 _ _
   | exact LeO.none _
   | refine LeO.ite ?_ ?_
   | refine LeO.bind ?_ (fun _ => ?_)
theorem unisonref01_place.mono : ∀ a0 k, LeO (unisonref01_place.f k a0) (unisonref01_place.f (k + 1) a0) := by
 intro a0 k
 have ih0 := unisonref01_place.mono_l k
 unfold unisonref01_place.f
 repeat' first
   | (with_reducible exact ih0 _ _)
   | (with_reducible exact LeO.refl _)
   | (with_reducible exact LeO.none _)
   | (with_reducible refine LeO.ite ?_ ?_)
   | (with_reducible refine LeO.bind ?_ (fun _ => ?_))
   | exact ih0 _ _
   | exact LeO.none _
   | refine LeO.ite ?_ ?_
   | refine LeO.bind ?_ (fun _ => ?_)
set_option maxHeartbeats 8000000 in
set_option maxRecDepth 100000 in
theorem unisonref01_place.calls (k : Nat) (a0 : Int) (r : Int) (w : World) (h : unisonref01_place.f k a0 = some r) :
  Calls Tryz.prog 49 #[.int .u8 a0] w fun e w' => e = .returned (.int .i64 r) ∧ Drawn0 w w' := by
 have H : (unisonref01_place.l0 k a0 0) = some r := h; clear h
 have H' := Aside0.mk H
 clear H
 go_enter Tryz.func49, Tryz.ntmps49
 go_wp2
 go_loopg [3] k (fun kq v3 w' => ∃ (x3_1 : Int), v3 = .int .i64 x3_1 ∧ Aside0 (unisonref01_place.l0 kq a0 x3_1 = some r) ∧ Aside0 (kq ≤ k) ∧ Drawn0 w w')
 case atStart => exact ⟨(0), (by first | rfl | (simp; done) | (simp [*]; done)), H', ⟨Nat.le_refl _⟩, by repeat (first | exact Drawn0.refl _ | apply Drawn0.step)⟩
 case round =>
  clear H'
  obtain ⟨x3_1, rfl, HA, HK1, ⟨m1, rfl⟩⟩ := hrel
  cases gk with
  | zero => exact absurd HA.out (by simp [unisonref01_place.l0])
  | succ k1 =>
   have H := HA.out; clear HA
   simp only [unisonref01_place.l0] at H
   by_cases c2 : x3_1 < 16
   ·
    rw [if_pos c2] at H
    have c2b0 : decide (x3_1 < 16) = true := decide_eq_true c2; clear c2
    by_cases c3 : 0 ≤ x3_1
    ·
     rw [if_pos c3] at H
     have c3b0 : decide (0 ≤ x3_1) = true := decide_eq_true c3; clear c3
     by_cases c5 : (bt (⟨#[48, 49, 50, 51, 52, 53, 54, 55, 56, 57, 97, 98, 99, 100, 101, 102]⟩ : ByteArray) x3_1) = a0
     ·
      rw [if_pos c5] at H
      have c5b0 : ((bt (⟨#[48, 49, 50, 51, 52, 53, 54, 55, 56, 57, 97, 98, 99, 100, 101, 102]⟩ : ByteArray) x3_1) == a0) = true := beq_iff_eq.mpr c5; have c5b1 : ((bt (⟨#[48, 49, 50, 51, 52, 53, 54, 55, 56, 57, 97, 98, 99, 100, 101, 102]⟩ : ByteArray) x3_1) != a0) = false := bne_eq_false_iff_eq.mpr c5; clear c5
      obtain rfl := Option.some.inj H
      have p4 : 0 ≤ (x3_1 : Int) := of_decide_eq_true (by first | (with_reducible assumption) | assumption); have q4 : x3_1 < (16 : Int) := of_decide_eq_true (by first | (with_reducible assumption) | assumption); have hx4 := bt_at (⟨#[48, 49, 50, 51, 52, 53, 54, 55, 56, 57, 97, 98, 99, 100, 101, 102]⟩ : ByteArray) x3_1; replace p4 := eq_true p4; replace q4 := eq_true q4
      go_wp2
      go_ret
      exact ⟨by first | rfl | (simp; done) | (simp [*]; done), by repeat (first | exact Drawn0.refl _ | apply Drawn0.step)⟩
     ·
      rw [if_neg c5] at H
      have c5b0 : ((bt (⟨#[48, 49, 50, 51, 52, 53, 54, 55, 56, 57, 97, 98, 99, 100, 101, 102]⟩ : ByteArray) x3_1) == a0) = false := beq_eq_false_iff_ne.mpr c5; have c5b1 : ((bt (⟨#[48, 49, 50, 51, 52, 53, 54, 55, 56, 57, 97, 98, 99, 100, 101, 102]⟩ : ByteArray) x3_1) != a0) = true := bne_iff_ne.mpr c5
      have H' := Aside0.mk H
      clear H; have p4 : 0 ≤ (x3_1 : Int) := of_decide_eq_true (by first | (with_reducible assumption) | assumption); have q4 : x3_1 < (16 : Int) := of_decide_eq_true (by first | (with_reducible assumption) | assumption); have hx4 := bt_at (⟨#[48, 49, 50, 51, 52, 53, 54, 55, 56, 57, 97, 98, 99, 100, 101, 102]⟩ : ByteArray) x3_1; replace p4 := eq_true p4; replace q4 := eq_true q4
      go_wp2
      go_roundg k1
      case measure => have := HK1.out; omega
      case rel => exact ⟨(wrap64 (x3_1 + 1)), (by first | rfl | (simp; done) | (simp [*]; done)), H', ⟨by have := HK1.out; omega⟩, by repeat (first | exact Drawn0.refl _ | apply Drawn0.step)⟩
    ·
     rw [if_neg c3] at H
     exact absurd H (by simp)
   ·
    rw [if_neg c2] at H
    have c2b0 : decide (x3_1 < 16) = false := decide_eq_false c2; clear c2
    obtain rfl := Option.some.inj H
    go_wp2
    go_ret
    exact ⟨by first | rfl | (simp; done) | (simp [*]; done), by repeat (first | exact Drawn0.refl _ | apply Drawn0.step)⟩
end Go.Proofs.YtllehkjebikgpaaGreatDoor.PA
end
section
namespace Go.Proofs.YtllehkjebikgpaaGreatDoor.PA
open Go.RowKit Go.Proofs.YtllehkjebikgpaaGreatDoorW.PrintWords Go.Proofs.YtllehkjebikgpaaGreatDoorW.PrintLast Go.Proofs.YtllehkjebikgpaaGreatDoorW.PrintMore Go.Proofs.YtllehkjebikgpaaGreatDoorX
attribute [local go_sem] max2_int min2_int max_two min_two max_three min_three max_four min_four   -- for this text's walks alone
set_option linter.unusedVariables false
set_option linter.unusedSimpArgs false

/-! ### unisonref01_said: function 38 -/
mutual
def unisonref01_said.j0 : Nat → ByteArray → Bool → Option (Int × Int × ByteArray)
 | 0, _, _ => none
 | k + 1, x0, x12 => if x12 = true then ((unisonref01_Bool.f (x0.toList == ([84, 82, 85, 69] : List UInt8))).bind fun bt121 => (some (bt121.1, bt121.2.1, bt121.2.2))) else (if x0.toList = ([78, 85, 76, 76] : List UInt8) then (unisonref01_said.j1 k x0 true) else (unisonref01_said.j1 k x0 (x0.toList == ([] : List UInt8))))
def unisonref01_said.j1 : Nat → ByteArray → Bool → Option (Int × Int × ByteArray)
 | 0, _, _ => none
 | k + 1, x0, x21 => if x21 = true then (some (0, 0, (⟨#[]⟩ : ByteArray))) else (if 0 < (x0.size : Int) then (if (bt x0 0) = 39 then (unisonref01_said.l1 k x0 ([] : List Int) 1) else (unisonref01_said.l0 k x0 0 0)) else (none))
def unisonref01_said.l1 : Nat → ByteArray → List Int → Int → Option (Int × Int × ByteArray)
 | 0, _, _, _ => none
 | k + 1, x0, x5, x6 => if x6 < (wrap64 ((x0.size : Int) - 1)) then (if 0 ≤ x6 then (if x6 < (x0.size : Int) then (if (bt x0 x6) = 39 then (if x5.length < 140737488355328 then (unisonref01_said.l1 k x0 (x5 ++ [39]) (wrap64 ((wrap64 (x6 + 1)) + 1))) else (none)) else (if (bt x0 x6) = 92 then (unisonref01_said.j5 k x0 x5 x6 (decide ((wrap64 (x6 + 2)) < (x0.size : Int)))) else (unisonref01_said.j5 k x0 x5 x6 false))) else (none)) else (none)) else (some (3, 0, strOfNums x5))
def unisonref01_said.j5 : Nat → ByteArray → List Int → Int → Bool → Option (Int × Int × ByteArray)
 | 0, _, _, _, _ => none
 | k + 1, x0, x5, x6, x78 => if x78 = true then (if 0 ≤ (wrap64 (x6 + 1)) then (if (wrap64 (x6 + 1)) < (x0.size : Int) then ((unisonref01_place.f k (bt x0 (wrap64 (x6 + 1)))).bind fun t133 => (if 0 ≤ (wrap64 (x6 + 2)) then (if (wrap64 (x6 + 2)) < (x0.size : Int) then ((unisonref01_place.f k (bt x0 (wrap64 (x6 + 2)))).bind fun t134 => (if x5.length < 140737488355328 then (unisonref01_said.l1 k x0 (x5 ++ [(wrap64 ((wrap64 (16 * t133)) + t134)) % 256]) (wrap64 ((wrap64 (x6 + 2)) + 1))) else (none))) else (none)) else (none))) else (none)) else (none)) else (if 0 ≤ x6 then (if x6 < (x0.size : Int) then (if x5.length < 140737488355328 then (unisonref01_said.l1 k x0 (x5 ++ [bt x0 x6]) (wrap64 (x6 + 1))) else (none)) else (none)) else (none))
def unisonref01_said.l0 : Nat → ByteArray → Int → Int → Option (Int × Int × ByteArray)
 | 0, _, _, _ => none
 | k + 1, x0, x3, x4 => if x4 < (x0.size : Int) then (unisonref01_said.j3 k x0 x3 x4 (decide (x4 < 20))) else (unisonref01_said.j3 k x0 x3 x4 false)
def unisonref01_said.j3 : Nat → ByteArray → Int → Int → Bool → Option (Int × Int × ByteArray)
 | 0, _, _, _, _ => none
 | k + 1, x0, x3, x4, x33 => if x33 = true then (if 0 ≤ x4 then (if x4 < (x0.size : Int) then (if (bt x0 x4) = 45 then (unisonref01_said.l0 k x0 x3 (wrap64 (x4 + 1))) else (unisonref01_said.l0 k x0 (wrap64 ((wrap64 ((wrap64 (10 * x3)) - (wrap64 (bt x0 x4)))) + 48)) (wrap64 (x4 + 1)))) else (none)) else (none)) else (if 0 < (x0.size : Int) then (if (bt x0 0) = 45 then ((unisonref01_Number.f x3).bind fun bt124 => (some (bt124.1, bt124.2.1, bt124.2.2))) else ((unisonref01_Number.f (wrap64 (-x3))).bind fun bt127 => (some (bt127.1, bt127.2.1, bt127.2.2)))) else (none))
end
def unisonref01_said.f (k : Nat) (a0 : ByteArray) : Option (Int × Int × ByteArray) := if a0.toList = ([84, 82, 85, 69] : List UInt8) then (unisonref01_said.j0 k a0 true) else (unisonref01_said.j0 k a0 (a0.toList == ([70, 65, 76, 83, 69] : List UInt8)))
theorem unisonref01_said.mono_l : ∀ k, (∀ y0 y1, LeO (unisonref01_said.j0 k y0 y1) (unisonref01_said.j0 (k + 1) y0 y1)) ∧ (∀ y0 y1, LeO (unisonref01_said.j1 k y0 y1) (unisonref01_said.j1 (k + 1) y0 y1)) ∧ (∀ y0 y1 y2, LeO (unisonref01_said.l1 k y0 y1 y2) (unisonref01_said.l1 (k + 1) y0 y1 y2)) ∧ (∀ y0 y1 y2 y3, LeO (unisonref01_said.j5 k y0 y1 y2 y3) (unisonref01_said.j5 (k + 1) y0 y1 y2 y3)) ∧ (∀ y0 y1 y2, LeO (unisonref01_said.l0 k y0 y1 y2) (unisonref01_said.l0 (k + 1) y0 y1 y2)) ∧ (∀ y0 y1 y2 y3, LeO (unisonref01_said.j3 k y0 y1 y2 y3) (unisonref01_said.j3 (k + 1) y0 y1 y2 y3))
 | 0 => ⟨fun _ _ r h => by simp [unisonref01_said.j0] at h, fun _ _ r h => by simp [unisonref01_said.j1] at h, fun _ _ _ r h => by simp [unisonref01_said.l1] at h, fun _ _ _ _ r h => by simp [unisonref01_said.j5] at h, fun _ _ _ r h => by simp [unisonref01_said.l0] at h, fun _ _ _ _ r h => by simp [unisonref01_said.j3] at h⟩
 | k + 1 => by
  obtain ⟨ih0, ih1, ih2, ih3, ih4, ih5⟩ := unisonref01_said.mono_l k
  refine ⟨?_, ?_, ?_, ?_, ?_, ?_⟩
  ·
   intro y0 y1
   unfold unisonref01_said.j0
   repeat' first
   | (with_reducible exact ih0 _ _)
   | (with_reducible exact ih1 _ _)
   | (with_reducible exact ih2 _ _ _)
   | (with_reducible exact ih3 _ _ _ _)
   | (with_reducible exact ih4 _ _ _)
   | (with_reducible exact ih5 _ _ _ _)
   | (with_reducible exact unisonref01_place.mono _ _)
   | (with_reducible exact LeO.refl _)
   | (with_reducible exact LeO.none _)
   | (with_reducible refine LeO.ite ?_ ?_)
   | (with_reducible refine LeO.bind ?_ (fun _ => ?_))
   | exact ih0 _ _
   | exact ih1 _ _
   | exact ih2 _ _ _
   | exact ih3 _ _ _ _
   | exact ih4 _ _ _
   | exact ih5 _ _ _ _
   | exact unisonref01_place.mono _ _
   | exact LeO.none _
   | refine LeO.ite ?_ ?_
   | refine LeO.bind ?_ (fun _ => ?_)
  ·
   intro y0 y1
   unfold unisonref01_said.j1
   repeat' first
   | (with_reducible exact ih0 _ _)
   | (with_reducible exact ih1 _ _)
   | (with_reducible exact ih2 _ _ _)
   | (with_reducible exact ih3 _ _ _ _)
   | (with_reducible exact ih4 _ _ _)
   | (with_reducible exact ih5 _ _ _ _)
   | (with_reducible exact unisonref01_place.mono _ _)
   | (with_reducible exact LeO.refl _)
   | (with_reducible exact LeO.none _)
   | (with_reducible refine LeO.ite ?_ ?_)
   | (with_reducible refine LeO.bind ?_ (fun _ => ?_))
   | exact ih0 _ _
   | exact ih1 _ _
   | exact ih2 _ _ _
   | exact ih3 _ _ _ _
   | exact ih4 _ _ _
   | exact ih5 _ _ _ _
   | exact unisonref01_place.mono _ _
   | exact LeO.none _
   | refine LeO.ite ?_ ?_
   | refine LeO.bind ?_ (fun _ => ?_)
  ·
   intro y0 y1 y2
   unfold unisonref01_said.l1
   repeat' first
   | (with_reducible exact ih0 _ _)
   | (with_reducible exact ih1 _ _)
   | (with_reducible exact ih2 _ _ _)
   | (with_reducible exact ih3 _ _ _ _)
   | (with_reducible exact ih4 _ _ _)
   | (with_reducible exact ih5 _ _ _ _)
   | (with_reducible exact unisonref01_place.mono _ _)
   | (with_reducible exact LeO.refl _)
   | (with_reducible exact LeO.none _)
   | (with_reducible refine LeO.ite ?_ ?_)
   | (with_reducible refine LeO.bind ?_ (fun _ => ?_))
   | exact ih0 _ _
   | exact ih1 _ _
   | exact ih2 _ _ _
   | exact ih3 _ _ _ _
   | exact ih4 _ _ _
   | exact ih5 _ _ _ _
   | exact unisonref01_place.mono _ _
   | exact LeO.none _
   | refine LeO.ite ?_ ?_
   | refine LeO.bind ?_ (fun _ => ?_)
  ·
   intro y0 y1 y2 y3
   unfold unisonref01_said.j5
   repeat' first
   | (with_reducible exact ih0 _ _)
   | (with_reducible exact ih1 _ _)
   | (with_reducible exact ih2 _ _ _)
   | (with_reducible exact ih3 _ _ _ _)
   | (with_reducible exact ih4 _ _ _)
   | (with_reducible exact ih5 _ _ _ _)
   | (with_reducible exact unisonref01_place.mono _ _)
   | (with_reducible exact LeO.refl _)
   | (with_reducible exact LeO.none _)
   | (with_reducible refine LeO.ite ?_ ?_)
   | (with_reducible refine LeO.bind ?_ (fun _ => ?_))
   | exact ih0 _ _
   | exact ih1 _ _
   | exact ih2 _ _ _
   | exact ih3 _ _ _ _
   | exact ih4 _ _ _
   | exact ih5 _ _ _ _
   | exact unisonref01_place.mono _ _
   | exact LeO.none _
   | refine LeO.ite ?_ ?_
   | refine LeO.bind ?_ (fun _ => ?_)
  ·
   intro y0 y1 y2
   unfold unisonref01_said.l0
   repeat' first
   | (with_reducible exact ih0 _ _)
   | (with_reducible exact ih1 _ _)
   | (with_reducible exact ih2 _ _ _)
   | (with_reducible exact ih3 _ _ _ _)
   | (with_reducible exact ih4 _ _ _)
   | (with_reducible exact ih5 _ _ _ _)
   | (with_reducible exact unisonref01_place.mono _ _)
   | (with_reducible exact LeO.refl _)
   | (with_reducible exact LeO.none _)
   | (with_reducible refine LeO.ite ?_ ?_)
   | (with_reducible refine LeO.bind ?_ (fun _ => ?_))
   | exact ih0 _ _
   | exact ih1 _ _
   | exact ih2 _ _ _
   | exact ih3 _ _ _ _
   | exact ih4 _ _ _
   | exact ih5 _ _ _ _
   | exact unisonref01_place.mono _ _
   | exact LeO.none _
   | refine LeO.ite ?_ ?_
   | refine LeO.bind ?_ (fun _ => ?_)
  ·
   intro y0 y1 y2 y3
   unfold unisonref01_said.j3
   repeat' first
   | (with_reducible exact ih0 _ _)
   | (with_reducible exact ih1 _ _)
   | (with_reducible exact ih2 _ _ _)
   | (with_reducible exact ih3 _ _ _ _)
   | (with_reducible exact ih4 _ _ _)
   | (with_reducible exact ih5 _ _ _ _)
   | (with_reducible exact unisonref01_place.mono _ _)
   | (with_reducible exact LeO.refl _)
   | (with_reducible exact LeO.none _)
   | (with_reducible refine LeO.ite ?_ ?_)
   | (with_reducible refine LeO.bind ?_ (fun _ => ?_))
   | exact ih0 _ _
   | exact ih1 _ _
   | exact ih2 _ _ _
   | exact ih3 _ _ _ _
   | exact ih4 _ _ _
   | exact ih5 _ _ _ _
   | exact unisonref01_place.mono _ _
   | exact LeO.none _
   | refine LeO.ite ?_ ?_
   | refine LeO.bind ?_ (fun _ => ?_)
theorem unisonref01_said.mono : ∀ a0 k, LeO (unisonref01_said.f k a0) (unisonref01_said.f (k + 1) a0) := by
 intro a0 k
 obtain ⟨ih0, ih1, ih2, ih3, ih4, ih5⟩ := unisonref01_said.mono_l k
 unfold unisonref01_said.f
 repeat' first
   | (with_reducible exact ih0 _ _)
   | (with_reducible exact ih1 _ _)
   | (with_reducible exact ih2 _ _ _)
   | (with_reducible exact ih3 _ _ _ _)
   | (with_reducible exact ih4 _ _ _)
   | (with_reducible exact ih5 _ _ _ _)
   | (with_reducible exact unisonref01_place.mono _ _)
   | (with_reducible exact LeO.refl _)
   | (with_reducible exact LeO.none _)
   | (with_reducible refine LeO.ite ?_ ?_)
   | (with_reducible refine LeO.bind ?_ (fun _ => ?_))
   | exact ih0 _ _
   | exact ih1 _ _
   | exact ih2 _ _ _
   | exact ih3 _ _ _ _
   | exact ih4 _ _ _
   | exact ih5 _ _ _ _
   | exact unisonref01_place.mono _ _
   | exact LeO.none _
   | refine LeO.ite ?_ ?_
   | refine LeO.bind ?_ (fun _ => ?_)
def unisonref01_said.T24 : Bool × List (List Nat × List Nat) := (true, [([], []), ([], []), ([], []), ([2], [2]), ([1, 3], [1, 3]), ([4], [4]), ([5], [5]), ([], []), ([], []), ([8], [8]), ([7, 9], [7, 9]), ([10, 5], [10]), ([6, 11], [6, 11]), ([12], [12]), ([13], [13]), ([0, 14, 11], [0, 14]), ([15, 15, 0, 1, 2, 3, 4, 5, 6, 7, 8, 9, 10, 11, 12, 13, 14, 15], [0, 15])])
def unisonref01_said.B24 : List Nat := [0, 0, 0, 4, 14, 30, 62, 0, 0, 256, 896, 1982, 4094, 8190, 16382, 32767, 65535]
theorem unisonref01_said.tab24 : rtab .any (opsOf Tryz.f38 24) = unisonref01_said.T24 := by kernel_rfl
theorem unisonref01_said.bits24 : waitsOk unisonref01_said.T24.2 unisonref01_said.B24 = true := by kernel_rfl
set_option maxHeartbeats 8000000 in
set_option maxRecDepth 100000 in
theorem unisonref01_said.calls (k : Nat) (a0 : ByteArray) (r1 : Int) (r2 : Int) (r3 : ByteArray) (w : World) (h : unisonref01_said.f k a0 = some (r1, r2, r3)) :
  Calls Tryz.prog 38 #[.string a0] w fun e w' => e = .returned (.agg #[.int .i64 r1, .int .i64 r2, .string r3]) ∧ Below w.heap.size w w' := by
 have hu48 := Tryz.underlying48; have HB := Aside0.mk (Below.refl w.heap.size w); have H : (if a0.toList = ([84, 82, 85, 69] : List UInt8) then (unisonref01_said.j0 k a0 true) else (unisonref01_said.j0 k a0 (a0.toList == ([70, 65, 76, 83, 69] : List UInt8)))) = some (r1, r2, r3) := h; clear h; have HC2 := Aside0.mk H; clear H
 go_enter Tryz.func38, Tryz.ntmps38
 go_upto_region 1 with (first | ((with_reducible refine gate_dst (N := 2) rfl ?_); (try (refine gate_guard (by rfl) ?_; dsimp only)); refine box_event ?hg (N := 2) ?hd (cs := #[.int .i64 0, .int .i64 0, .string (⟨#[]⟩ : ByteArray)]) (t := 48) ?hr ?_; (case hd => rfl); (case hg => rfl); (case hr => first | (go_simp; done) | (go_simp; rfl)); intro gb120 hg w3 hbox hb; have BK120 := Aside0.mk (hbox); have GW120 := bz hg; have GE120 := bz hg; replace HB := bs hb; clear hb hbox hg))
 (try simp only [Act.put, List.setIfInBounds_toArray, List.set_cons_zero, List.set_cons_succ])
 go_cut [12] (fun v12 wc => ∃ (kq : Nat) (x12_1 : Bool), v12 = .bool x12_1 ∧ Aside0 (unisonref01_said.j0 kq a0 x12_1 = some (r1, r2, r3)) ∧ Aside0 (kq ≤ k) ∧ Aside0 (wc.heap[gb120]? = some (.cells #[.int .i64 0, .int .i64 0, .string (⟨#[]⟩ : ByteArray)] 48 (0, 0))) ∧ Aside0 (Below w.heap.size w wc))
 case first =>
  have H := HC2.out; clear HC2
  by_cases c4 : a0.toList = ([84, 82, 85, 69] : List UInt8)
  ·
   rw [if_pos c4] at H
   have c4b0 : (a0.toList == ([84, 82, 85, 69] : List UInt8)) = true := beq_iff_eq.mpr c4; have c4b1 : (a0.toList != ([84, 82, 85, 69] : List UInt8)) = false := bne_eq_false_iff_eq.mpr c4; clear c4
   (first | rw [c4b0] | (simp only [i64_w, i32_w, u8_w, u32_w]; rw [c4b0]) | rw [c4b1] | skip)
   have H' := Aside0.mk H
   clear H
   go_wp2
   go_meet
   case rel => exact ⟨_, (true), (by first | rfl | (simp; done) | (simp [*]; done)), H', ⟨by first | omega | exact Nat.le_refl _⟩, ⟨by (with_reducible repeat (first | refine blk_drewN ?_ _ | refine blk_drew ?_ | refine blk_alloc ?_ _)); exact BK120.out⟩, ⟨by repeat (first | (with_reducible first | exact HB.out | apply below_alloc | apply pw_below_drewN | apply below_drew1 | refine below_set ?_ GE120.out) | exact HB.out)⟩⟩
  ·
   rw [if_neg c4] at H
   have c4b0 : (a0.toList == ([84, 82, 85, 69] : List UInt8)) = false := beq_eq_false_iff_ne.mpr c4; have c4b1 : (a0.toList != ([84, 82, 85, 69] : List UInt8)) = true := bne_iff_ne.mpr c4
   (first | rw [c4b0] | (simp only [i64_w, i32_w, u8_w, u32_w]; rw [c4b0]) | rw [c4b1] | skip)
   have H' := Aside0.mk H
   clear H
   go_wp2
   go_meet
   case rel => exact ⟨_, ((a0.toList == ([70, 65, 76, 83, 69] : List UInt8))), (by first | rfl | (simp; done) | (simp [*]; done)), H', ⟨by first | omega | exact Nat.le_refl _⟩, ⟨by (with_reducible repeat (first | refine blk_drewN ?_ _ | refine blk_drew ?_ | refine blk_alloc ?_ _)); exact BK120.out⟩, ⟨by repeat (first | (with_reducible first | exact HB.out | apply below_alloc | apply pw_below_drewN | apply below_drew1 | refine below_set ?_ GE120.out) | exact HB.out)⟩⟩
 case rest =>
  clear HC2; (try clear p2); (try clear c3); (try clear c4); (try clear c4b0); (try clear c4b1)
  obtain ⟨kq, x12_1, rfl, HA, HJ1, BK120, HB⟩ := hcut
  cases kq with
  | zero => exact absurd HA.out (by simp [unisonref01_said.j0])
  | succ kj1 =>
   have H := HA.out; clear HA
   simp only [unisonref01_said.j0] at H
   by_cases c5 : x12_1 = true
   ·
    subst c5
    have H1 : ((unisonref01_Bool.f (a0.toList == ([84, 82, 85, 69] : List UInt8))).bind fun bt121 => (some (bt121.1, bt121.2.1, bt121.2.2))) = some (r1, r2, r3) := by rw [if_pos rfl] at H; exact H
    clear H; have H := H1; clear H1; replace H := Option.bind_eq_some_iff.mp H
    obtain ⟨⟨t121, t122, t123⟩, A60, H⟩ := H
    replace H : (some (t121, t122, t123)) = some (r1, r2, r3) := H; have A6 := Aside0.mk A60; clear A60
    simp only [Option.some.injEq, Prod.mk.injEq] at H
    obtain ⟨rfl, rfl, rfl⟩ := H
    go_wp2_with (first | ((with_reducible refine gate_callee (f := 47) rfl ?_); refine gL (some 15) Tryz.func47 #[.bool (a0.toList == ([84, 82, 85, 69] : List UInt8))] ?_; (with_reducible refine (unisonref01_Bool.calls (a0.toList == ([84, 82, 85, 69] : List UInt8)) t121 t122 t123 _ A6.out).mono ?_); rintro e w7 ⟨rfl, hb⟩; refine ⟨_, rfl, ?_⟩; replace BK120 := bb BK120 hb; replace HB := bs hb; (try clear hb); (try clear hb2); (try clear hk); (try clear hi); have hcz8_0 : w7.cell? ⟨gb120, 0, none⟩ = some (.int .i64 0) := (blk_cell BK120.out 0).trans rfl; have hcz8_1 : w7.cell? ⟨gb120, 1, none⟩ = some (.int .i64 0) := (blk_cell BK120.out 1).trans rfl; have hcz8_2 : w7.cell? ⟨gb120, 2, none⟩ = some (.string (⟨#[]⟩ : ByteArray)) := (blk_cell BK120.out 2).trans rfl; have hfz8_0 := blk_frozen BK120.out 0; have hfz8_1 := blk_frozen BK120.out 1; have hfz8_2 := blk_frozen BK120.out 2) | ((with_reducible refine gate_store (t := 48) (p := 2) rfl ?_); refine store_event (t := 48) (p := 2) (v := ?vo_w9) (w1 := (((w7.setCell ⟨gb120, 0, none⟩ (.int .i64 t121)).setCell ⟨gb120, 1, none⟩ (.int .i64 t122)).setCell ⟨gb120, 2, none⟩ (.string t123))) ?hg ?ho ?hn ?hr ?_; (case ho => rfl); (case hg => rfl); (case hn => rfl); (case hr => first | (go_simp; done) | (go_simp; rfl)); intro w9 hw; replace BK120 : Aside0 (w9.heap[gb120]? = some (.cells #[.int .i64 t121, .int .i64 t122, .string t123] 48 (0, 0))) := bp BK120 hw; replace HB := bv hw; clear hw))
    refine bodyPost_ret (results_cell_row rfl _ _ gb120 48 #[.int .i64 t121, .int .i64 t122, .string t123] (0, 0) _ rfl (by (with_reducible repeat (first | refine blk_drewN ?_ _ | refine blk_drew ?_ | refine blk_alloc ?_ _)); exact BK120.out) Tryz.underlying48 rfl (by kernel_rfl)) rfl ?_
    exact ⟨by first | rfl | (simp [errW_none, errW_some] <;> rfl) | (simp [*, errW_none, errW_some] <;> rfl), by repeat (first | (with_reducible first | exact HB.out | apply below_alloc | apply pw_below_drewN | apply below_drew1 | refine below_set ?_ GE120.out) | exact HB.out)⟩
   ·
    replace c5 := Bool.eq_false_iff.mpr c5
    subst c5
    have H1 : (if a0.toList = ([78, 85, 76, 76] : List UInt8) then (unisonref01_said.j1 kj1 a0 true) else (unisonref01_said.j1 kj1 a0 (a0.toList == ([] : List UInt8)))) = some (r1, r2, r3) := by rw [if_neg (show ¬ (false = true) by decide)] at H; exact H
    clear H; have H := H1; clear H1; have HC10 := Aside0.mk H; clear H
    go_upto_region 3 with (fail)
    go_cut [21] (fun v21 wc => ∃ (kq : Nat) (x21_9 : Bool), v21 = .bool x21_9 ∧ Aside0 (unisonref01_said.j1 kq a0 x21_9 = some (r1, r2, r3)) ∧ Aside0 (kq ≤ kj1) ∧ Aside0 (wc.heap[gb120]? = some (.cells #[.int .i64 0, .int .i64 0, .string (⟨#[]⟩ : ByteArray)] 48 (0, 0))) ∧ Aside0 (Below w.heap.size w wc))
    case first =>
     have H := HC10.out; clear HC10
     by_cases c11 : a0.toList = ([78, 85, 76, 76] : List UInt8)
     ·
      rw [if_pos c11] at H
      have c11b0 : (a0.toList == ([78, 85, 76, 76] : List UInt8)) = true := beq_iff_eq.mpr c11; have c11b1 : (a0.toList != ([78, 85, 76, 76] : List UInt8)) = false := bne_eq_false_iff_eq.mpr c11; clear c11
      (first | rw [c11b0] | (simp only [i64_w, i32_w, u8_w, u32_w]; rw [c11b0]) | rw [c11b1] | skip)
      have H' := Aside0.mk H
      clear H
      go_wp2
      go_meet
      case rel => exact ⟨_, (true), (by first | rfl | (simp; done) | (simp [*]; done)), H', ⟨by have := HJ1.out; first | omega | exact Nat.le_refl _⟩, ⟨by (with_reducible repeat (first | refine blk_drewN ?_ _ | refine blk_drew ?_ | refine blk_alloc ?_ _)); exact BK120.out⟩, ⟨by repeat (first | (with_reducible first | exact HB.out | apply below_alloc | apply pw_below_drewN | apply below_drew1 | refine below_set ?_ GE120.out) | exact HB.out)⟩⟩
     ·
      rw [if_neg c11] at H
      have c11b0 : (a0.toList == ([78, 85, 76, 76] : List UInt8)) = false := beq_eq_false_iff_ne.mpr c11; have c11b1 : (a0.toList != ([78, 85, 76, 76] : List UInt8)) = true := bne_iff_ne.mpr c11
      (first | rw [c11b0] | (simp only [i64_w, i32_w, u8_w, u32_w]; rw [c11b0]) | rw [c11b1] | skip)
      have H' := Aside0.mk H
      clear H
      go_wp2
      go_meet
      case rel => exact ⟨_, ((a0.toList == ([] : List UInt8))), (by first | rfl | (simp; done) | (simp [*]; done)), H', ⟨by have := HJ1.out; first | omega | exact Nat.le_refl _⟩, ⟨by (with_reducible repeat (first | refine blk_drewN ?_ _ | refine blk_drew ?_ | refine blk_alloc ?_ _)); exact BK120.out⟩, ⟨by repeat (first | (with_reducible first | exact HB.out | apply below_alloc | apply pw_below_drewN | apply below_drew1 | refine below_set ?_ GE120.out) | exact HB.out)⟩⟩
    case rest =>
     clear HC10; (try clear c1); (try clear p2); (try clear c3); (try clear c4); (try clear c4b0); (try clear c4b1); (try clear c5); (try clear c11); (try clear c11b0); (try clear c11b1); (try clear hcz8_0); (try clear hcz8_1); (try clear hcz8_2); (try clear hfz8_0); (try clear hfz8_1); (try clear hfz8_2); (try clear p2)
     obtain ⟨kq, x21_9, rfl, HA, HJ9, BK120, HB⟩ := hcut
     cases kq with
     | zero => exact absurd HA.out (by simp [unisonref01_said.j1])
     | succ kj9 =>
      have H := HA.out; clear HA
      simp only [unisonref01_said.j1] at H
      by_cases c12 : x21_9 = true
      ·
       subst c12
       have H1 : (some (0, 0, (⟨#[]⟩ : ByteArray))) = some (r1, r2, r3) := by rw [if_pos rfl] at H; exact H
       clear H; have H := H1; clear H1
       simp only [Option.some.injEq, Prod.mk.injEq] at H
       obtain ⟨rfl, rfl, rfl⟩ := H
       have hcz13_0 : wc.cell? ⟨gb120, 0, none⟩ = some (.int .i64 0) := (blk_cell BK120.out 0).trans rfl; have hcz13_1 : wc.cell? ⟨gb120, 1, none⟩ = some (.int .i64 0) := (blk_cell BK120.out 1).trans rfl; have hcz13_2 : wc.cell? ⟨gb120, 2, none⟩ = some (.string (⟨#[]⟩ : ByteArray)) := (blk_cell BK120.out 2).trans rfl; have hfz13_0 := blk_frozen BK120.out 0; have hfz13_1 := blk_frozen BK120.out 1; have hfz13_2 := blk_frozen BK120.out 2
       go_wp2_with (first | ((with_reducible refine gate_store (t := 48) (p := 2) rfl ?_); refine store_event (t := 48) (p := 2) (v := ?vo_w14) (w1 := (((wc.setCell ⟨gb120, 0, none⟩ (.int .i64 0)).setCell ⟨gb120, 1, none⟩ (.int .i64 0)).setCell ⟨gb120, 2, none⟩ (.string (⟨#[]⟩ : ByteArray)))) ?hg ?ho ?hn ?hr ?_; (case ho => rfl); (case hg => rfl); (case hn => rfl); (case hr => first | (go_simp; done) | (go_simp; rfl)); intro w14 hw; replace BK120 : Aside0 (w14.heap[gb120]? = some (.cells #[.int .i64 0, .int .i64 0, .string (⟨#[]⟩ : ByteArray)] 48 (0, 0))) := bp BK120 hw; replace HB := bv hw; clear hw))
       refine bodyPost_ret (results_cell_row rfl _ _ gb120 48 #[.int .i64 0, .int .i64 0, .string (⟨#[]⟩ : ByteArray)] (0, 0) _ rfl (by (with_reducible repeat (first | refine blk_drewN ?_ _ | refine blk_drew ?_ | refine blk_alloc ?_ _)); exact BK120.out) Tryz.underlying48 rfl (by kernel_rfl)) rfl ?_
       exact ⟨by first | rfl | (simp [errW_none, errW_some] <;> rfl) | (simp [*, errW_none, errW_some] <;> rfl), by repeat (first | (with_reducible first | exact HB.out | apply below_alloc | apply pw_below_drewN | apply below_drew1 | refine below_set ?_ GE120.out) | exact HB.out)⟩
      ·
       replace c12 := Bool.eq_false_iff.mpr c12
       subst c12
       have H1 : (if 0 < (a0.size : Int) then (if (bt a0 0) = 39 then (unisonref01_said.l1 kj9 a0 ([] : List Int) 1) else (unisonref01_said.l0 kj9 a0 0 0)) else (none)) = some (r1, r2, r3) := by rw [if_neg (show ¬ (false = true) by decide)] at H; exact H
       clear H; have H := H1; clear H1
       by_cases c15 : 0 < (a0.size : Int)
       ·
        rw [if_pos c15] at H
        have c15b0 : decide (0 < (a0.size : Int)) = true := decide_eq_true c15; have c15b1 : decide (0 < a0.size) = true := decide_eq_true (by omega); clear c15
        by_cases c17 : (bt a0 0) = 39
        ·
         rw [if_pos c17] at H
         have c17b0 : ((bt a0 0) == 39) = true := beq_iff_eq.mpr c17; have c17b1 : ((bt a0 0) != 39) = false := bne_eq_false_iff_eq.mpr c17; clear c17
         have H' := Aside0.mk H
         clear H; have p16 : 0 ≤ (0 : Int) := (by omega); have q16 : 0 < a0.size := (by have : (0 : Int) < (a0.size : Int) := of_decide_eq_true (by first | (with_reducible assumption) | assumption); omega); have hx16 : ∀ h : 0 < a0.size, ((a0[0]'h).toNat : Int) = bt a0 0 := bt_at a0 0; clear p16; have qi16 : (0 < (a0.size : Int)) = True := eq_true (of_decide_eq_true (by first | (with_reducible assumption) | assumption)); replace q16 := eq_true q16
         go_wp2
         go_loopg [5, 6] kj9 (fun kq v5 v6 w' => ∃ (x5_3 : List Int) (x6_3 : Int), v6 = .int .i64 x6_3 ∧ Aside0 (unisonref01_said.l1 kq a0 x5_3 x6_3 = some (r1, r2, r3)) ∧ Aside0 (kq ≤ kj9) ∧ Aside0 (Kd.R (Kd.int .u8) 5 w' w.heap.size (fun _ => True) v5 x5_3) ∧ Aside0 (w'.heap[gb120]? = some (.cells #[.int .i64 0, .int .i64 0, .string (⟨#[]⟩ : ByteArray)] 48 (0, 0))) ∧ Aside0 (Below w.heap.size w w'))
         case atStart => exact ⟨(([] : List Int)), (1), (by first | rfl | (simp; done) | (simp [*]; done)), H', ⟨Nat.le_refl _⟩, ⟨by first | exact Kd.R_nil _ _ _ _ _ | exact Kd.N_nil _ _ _ _ _ | exact Kd.V_nil _ _ _ _ _ | exact Kd.Q_nil _ _ _ _ _ | exact Kd.S_nil _ _ _ _ _⟩, ⟨by (with_reducible repeat (first | refine blk_drewN ?_ _ | refine blk_drew ?_ | refine blk_alloc ?_ _)); exact BK120.out⟩, ⟨by repeat (first | (with_reducible first | exact HB.out | apply below_alloc | apply pw_below_drewN | apply below_drew1 | refine below_set ?_ GE120.out) | exact HB.out)⟩⟩
         case round =>
          clear H'
          (try clear c1); (try clear p1); (try clear q1); (try clear hx1); (try clear qi1); (try clear p2); (try clear c3); (try clear c4); (try clear c4b0); (try clear c4b1); (try clear c5); (try clear c11); (try clear c11b0); (try clear c11b1); (try clear c12); (try clear c15); (try clear c15b0); (try clear c15b1); (try clear p16); (try clear q16); (try clear hx16); (try clear qi16); (try clear c17); (try clear c17b0); (try clear c17b1); (try clear hcz13_0); (try clear hcz13_1); (try clear hcz13_2); (try clear hcz8_0); (try clear hcz8_1); (try clear hcz8_2); (try clear hfz13_0); (try clear hfz13_1); (try clear hfz13_2); (try clear hfz8_0); (try clear hfz8_1); (try clear hfz8_2); (try clear p16); (try clear p2); (try clear q16)
          obtain ⟨x5_3, x6_3, rfl, HA, HK3, HO_5, BK120, HB⟩ := hrel
          cases gk with
          | zero => exact absurd HA.out (by simp [unisonref01_said.l1])
          | succ k3 =>
           have H := HA.out; clear HA
           simp only [unisonref01_said.l1] at H
           by_cases c18 : x6_3 < (wrap64 ((a0.size : Int) - 1))
           ·
            rw [if_pos c18] at H
            have c18b0 : decide (x6_3 < (wrap64 ((a0.size : Int) - 1))) = true := decide_eq_true c18; clear c18
            by_cases c19 : 0 ≤ x6_3
            ·
             rw [if_pos c19] at H
             have c19b0 : decide (0 ≤ x6_3) = true := decide_eq_true c19; clear c19
             by_cases c20 : x6_3 < (a0.size : Int)
             ·
              rw [if_pos c20] at H
              have c20b0 : decide (x6_3 < (a0.size : Int)) = true := decide_eq_true c20; clear c20
              by_cases c22 : (bt a0 x6_3) = 39
              ·
               rw [if_pos c22] at H
               have c22b0 : ((bt a0 x6_3) == 39) = true := beq_iff_eq.mpr c22; have c22b1 : ((bt a0 x6_3) != 39) = false := bne_eq_false_iff_eq.mpr c22; clear c22
               by_cases c23 : x5_3.length < 140737488355328
               ·
                rw [if_pos c23] at H
                have LMc23 := Aside0.mk c23; clear c23
                obtain ⟨y130, hy130⟩ : ∃ y_ : List Int, y_ = (x5_3 ++ [39]) := ⟨_, rfl⟩
                replace H : (unisonref01_said.l1 k3 a0 y130 (wrap64 ((wrap64 (x6_3 + 1)) + 1))) = some (r1, r2, r3) := by first | (rw [hy130]; with_reducible exact H) | (have H2_ := (Option.bind_some _ _).symm.trans H; rw [hy130]; with_reducible exact H2_) | (have H2_ := (Option.bind_some _ _).symm.trans H; with_reducible exact H2_) | with_reducible exact H | (rw [hy130]; exact H) | exact H
                have Ny130 := Aside0.mk hy130; clear hy130
                have H' := Aside0.mk H
                clear H; have p21 : 0 ≤ (x6_3 : Int) := of_decide_eq_true (by first | (with_reducible assumption) | assumption); have q21 : x6_3 < (a0.size : Int) := of_decide_eq_true (by first | (with_reducible assumption) | assumption); have hx21 := bt_at a0 x6_3; replace p21 := eq_true p21; replace q21 := eq_true q21
                go_wp2_with (first | ((with_reducible refine gate_builtin (b := .append) (xs := #[.tmp 73, .tmp 74]) rfl ?_); (try (refine gate_guard (by rfl) ?_; dsimp only)); at_builtin; refine Kd.R_append (Kd.int .u8) (w0 := w) w.heap.size rfl (.tmp 73) (.tmp 74) 66 5 (.int .u8 0) 1 rfl Tryz.underlying66 info5 rfl (by decide) (by omega) u5 x5_3 39 [.int .u8 39] (fun _ => True) (fun _ => False) rfl rfl ?aP (fun _ hk => hk.elim) ?aF ?aO ?aB ?aS ?aL ?_; (case aP => exact rfl); (case aB => exact bel); (case aF => exact (fun _ _ => trivial)); (case aO => exact (by (with_reducible repeat (first | apply Kd.R_alloc | apply Kd.R_drewN | apply Kd.R_drew)); exact HO_5.out)); (case aS => exact (below_size bel)); (case aL => have := LMc23.out; omega); intro v131 w24 ho hb hg hat; rw [← Ny130.out] at ho; have n0_ := Aside0.mk (blk_grown (g := gb120) (o := .cells #[.int .i64 0, .int .i64 0, .string (⟨#[]⟩ : ByteArray)] 48 (0, 0)) (by (with_reducible repeat (first | refine blk_drewN ?_ _ | refine blk_drew ?_ | refine blk_alloc ?_ _)); exact BK120.out) hg (Kd.R_ne HO_5.out BK120.out (by decide))); have n1_ := Aside0.mk (hb); have n2_ := Aside0.mk (ho); clear BK120; clear HB; clear HO_5; have BK120 := n0_; have HB := n1_; have HO132 := n2_; clear n0_ n1_ n2_; clear ho hb hg hat))
                go_roundg k3
                case measure => have := HJ1.out; have := HJ9.out; have := HK3.out; omega
                case rel => exact ⟨(y130), (wrap64 ((wrap64 (x6_3 + 1)) + 1)), (by first | rfl | (simp; done) | (simp [*]; done)), H', ⟨by have := HJ1.out; have := HJ9.out; have := HK3.out; omega⟩, ⟨by (with_reducible repeat (first | apply Kd.R_alloc | apply Kd.R_drewN | apply Kd.R_drew)); exact HO132.out⟩, ⟨by (with_reducible repeat (first | refine blk_drewN ?_ _ | refine blk_drew ?_ | refine blk_alloc ?_ _)); exact BK120.out⟩, ⟨by repeat (first | (with_reducible first | exact HB.out | apply below_alloc | apply pw_below_drewN | apply below_drew1 | refine below_set ?_ GE120.out) | exact HB.out)⟩⟩
               ·
                rw [if_neg c23] at H
                exact absurd H (by simp)
              ·
               rw [if_neg c22] at H
               have c22b0 : ((bt a0 x6_3) == 39) = false := beq_eq_false_iff_ne.mpr c22; have c22b1 : ((bt a0 x6_3) != 39) = true := bne_iff_ne.mpr c22; have HC25 := Aside0.mk H; clear H; have p21 : 0 ≤ (x6_3 : Int) := of_decide_eq_true (by first | (with_reducible assumption) | assumption); have q21 : x6_3 < (a0.size : Int) := of_decide_eq_true (by first | (with_reducible assumption) | assumption); have hx21 := bt_at a0 x6_3; replace p21 := eq_true p21; replace q21 := eq_true q21
               go_upto_region 23 with (fail)
               go_cut [78] (fun v78 wc => ∃ (kq : Nat) (x78_24 : Bool), v78 = .bool x78_24 ∧ Aside0 (unisonref01_said.j5 kq a0 x5_3 x6_3 x78_24 = some (r1, r2, r3)) ∧ Aside0 (kq ≤ k3) ∧ Aside0 (Kd.R (Kd.int .u8) 5 wc w.heap.size (fun _ => True) u5 x5_3) ∧ Aside0 (wc.heap[gb120]? = some (.cells #[.int .i64 0, .int .i64 0, .string (⟨#[]⟩ : ByteArray)] 48 (0, 0))) ∧ Aside0 (Below w.heap.size w wc))
               case first =>
                have H := HC25.out; clear HC25
                by_cases c27 : (bt a0 x6_3) = 92
                ·
                 rw [if_pos c27] at H
                 have c27b0 : ((bt a0 x6_3) == 92) = true := beq_iff_eq.mpr c27; have c27b1 : ((bt a0 x6_3) != 92) = false := bne_eq_false_iff_eq.mpr c27; clear c27
                 (first | rw [c27b0] | (simp only [i64_w, i32_w, u8_w, u32_w]; rw [c27b0]) | rw [c27b1] | skip)
                 have H' := Aside0.mk H
                 clear H; have p26 : 0 ≤ (x6_3 : Int) := of_decide_eq_true (by first | (with_reducible assumption) | assumption); have q26 : x6_3 < (a0.size : Int) := of_decide_eq_true (by first | (with_reducible assumption) | assumption); have hx26 := bt_at a0 x6_3; replace p26 := eq_true p26; replace q26 := eq_true q26
                 go_wp2
                 go_meet
                 case rel => exact ⟨_, (decide ((wrap64 (x6_3 + 2)) < (a0.size : Int))), (by first | rfl | (simp; done) | (simp [*]; done)), H', ⟨by have := HJ1.out; have := HJ9.out; have := HK3.out; first | omega | exact Nat.le_refl _⟩, ⟨by (with_reducible repeat (first | apply Kd.R_alloc | apply Kd.R_drewN | apply Kd.R_drew)); exact HO_5.out⟩, ⟨by (with_reducible repeat (first | refine blk_drewN ?_ _ | refine blk_drew ?_ | refine blk_alloc ?_ _)); exact BK120.out⟩, ⟨by repeat (first | (with_reducible first | exact HB.out | apply below_alloc | apply pw_below_drewN | apply below_drew1 | refine below_set ?_ GE120.out) | exact HB.out)⟩⟩
                ·
                 rw [if_neg c27] at H
                 have c27b0 : ((bt a0 x6_3) == 92) = false := beq_eq_false_iff_ne.mpr c27; have c27b1 : ((bt a0 x6_3) != 92) = true := bne_iff_ne.mpr c27
                 (first | rw [c27b0] | (simp only [i64_w, i32_w, u8_w, u32_w]; rw [c27b0]) | rw [c27b1] | skip)
                 have H' := Aside0.mk H
                 clear H; have p26 : 0 ≤ (x6_3 : Int) := of_decide_eq_true (by first | (with_reducible assumption) | assumption); have q26 : x6_3 < (a0.size : Int) := of_decide_eq_true (by first | (with_reducible assumption) | assumption); have hx26 := bt_at a0 x6_3; replace p26 := eq_true p26; replace q26 := eq_true q26
                 go_wp2
                 go_meet
                 case rel => exact ⟨_, (false), (by first | rfl | (simp; done) | (simp [*]; done)), H', ⟨by have := HJ1.out; have := HJ9.out; have := HK3.out; first | omega | exact Nat.le_refl _⟩, ⟨by (with_reducible repeat (first | apply Kd.R_alloc | apply Kd.R_drewN | apply Kd.R_drew)); exact HO_5.out⟩, ⟨by (with_reducible repeat (first | refine blk_drewN ?_ _ | refine blk_drew ?_ | refine blk_alloc ?_ _)); exact BK120.out⟩, ⟨by repeat (first | (with_reducible first | exact HB.out | apply below_alloc | apply pw_below_drewN | apply below_drew1 | refine below_set ?_ GE120.out) | exact HB.out)⟩⟩
               case rest =>
                clear HC25; (try clear c1); (try clear p1); (try clear q1); (try clear hx1); (try clear qi1); (try clear c2); (try clear p2); (try clear q2); (try clear hx2); (try clear c3); (try clear c4); (try clear c4b0); (try clear c4b1); (try clear c5); (try clear p6); (try clear c11); (try clear c11b0); (try clear c11b1); (try clear c12); (try clear c15); (try clear c15b0); (try clear c15b1); (try clear p16); (try clear q16); (try clear hx16); (try clear qi16); (try clear c17); (try clear c17b0); (try clear c17b1); (try clear c18); (try clear c18b0); (try clear c19); (try clear c19b0); (try clear c20); (try clear c20b0); (try clear p21); (try clear q21); (try clear hx21); (try clear c22); (try clear c22b0); (try clear c22b1); (try clear c23); (try clear p26); (try clear q26); (try clear hx26); (try clear c27); (try clear c27b0); (try clear c27b1); (try clear hcz13_0); (try clear hcz13_1); (try clear hcz13_2); (try clear hcz8_0); (try clear hcz8_1); (try clear hcz8_2); (try clear hfz13_0); (try clear hfz13_1); (try clear hfz13_2); (try clear hfz8_0); (try clear hfz8_1); (try clear hfz8_2); (try clear p1); (try clear p16); (try clear p2); (try clear p21); (try clear p26); (try clear q1); (try clear q16); (try clear q21); (try clear q26)
                obtain ⟨kq, x78_24, rfl, HA, HJ24, HO_5, BK120, HB⟩ := hcut
                cases kq with
                | zero => exact absurd HA.out (by simp [unisonref01_said.j5])
                | succ kj24 =>
                 have H := HA.out; clear HA
                 simp only [unisonref01_said.j5] at H
                 by_cases c28 : x78_24 = true
                 ·
                  subst c28
                  have H1 : (if 0 ≤ (wrap64 (x6_3 + 1)) then (if (wrap64 (x6_3 + 1)) < (a0.size : Int) then ((unisonref01_place.f kj24 (bt a0 (wrap64 (x6_3 + 1)))).bind fun t133 => (if 0 ≤ (wrap64 (x6_3 + 2)) then (if (wrap64 (x6_3 + 2)) < (a0.size : Int) then ((unisonref01_place.f kj24 (bt a0 (wrap64 (x6_3 + 2)))).bind fun t134 => (if x5_3.length < 140737488355328 then (unisonref01_said.l1 kj24 a0 (x5_3 ++ [(wrap64 ((wrap64 (16 * t133)) + t134)) % 256]) (wrap64 ((wrap64 (x6_3 + 2)) + 1))) else (none))) else (none)) else (none))) else (none)) else (none)) = some (r1, r2, r3) := by rw [if_pos rfl] at H; exact H
                  clear H; have H := H1; clear H1
                  obtain ⟨ji29, hji29⟩ : ∃ j_ : Int, (wrap64 (x6_3 + 1)) = j_ := ⟨_, rfl⟩
                  replace H : (if 0 ≤ (ji29) then (if (ji29) < (a0.size : Int) then ((unisonref01_place.f kj24 (bt a0 (ji29))).bind fun t133 => (if 0 ≤ (wrap64 (x6_3 + 2)) then (if (wrap64 (x6_3 + 2)) < (a0.size : Int) then ((unisonref01_place.f kj24 (bt a0 (wrap64 (x6_3 + 2)))).bind fun t134 => (if x5_3.length < 140737488355328 then (unisonref01_said.l1 kj24 a0 (x5_3 ++ [(wrap64 ((wrap64 (16 * t133)) + t134)) % 256]) (wrap64 ((wrap64 (x6_3 + 2)) + 1))) else (none))) else (none)) else (none))) else (none)) else (none)) = some (r1, r2, r3) := by first | (rw [hji29] at H; exact H) | (simp only [hji29] at H ⊢; exact H)
                  have hji29w : (IntKind.i64.wrap (x6_3 + 1)) = ji29 := (i64_w _).trans hji29
                  by_cases c30 : 0 ≤ (ji29)
                  ·
                   rw [if_pos c30] at H
                   have c30b0 : decide (0 ≤ (ji29)) = true := decide_eq_true c30; clear c30
                   by_cases c31 : (ji29) < (a0.size : Int)
                   ·
                    rw [if_pos c31] at H
                    have c31b0 : decide ((ji29) < (a0.size : Int)) = true := decide_eq_true c31; clear c31; replace H := Option.bind_eq_some_iff.mp H
                    obtain ⟨t133, A330, H⟩ := H
                    replace H : (if 0 ≤ (wrap64 (x6_3 + 2)) then (if (wrap64 (x6_3 + 2)) < (a0.size : Int) then ((unisonref01_place.f kj24 (bt a0 (wrap64 (x6_3 + 2)))).bind fun t134 => (if x5_3.length < 140737488355328 then (unisonref01_said.l1 kj24 a0 (x5_3 ++ [(wrap64 ((wrap64 (16 * t133)) + t134)) % 256]) (wrap64 ((wrap64 (x6_3 + 2)) + 1))) else (none))) else (none)) else (none)) = some (r1, r2, r3) := H; have A33 := Aside0.mk A330; clear A330
                    obtain ⟨ji34, hji34⟩ : ∃ j_ : Int, (wrap64 (x6_3 + 2)) = j_ := ⟨_, rfl⟩
                    replace H : (if 0 ≤ (ji34) then (if (ji34) < (a0.size : Int) then ((unisonref01_place.f kj24 (bt a0 (ji34))).bind fun t134 => (if x5_3.length < 140737488355328 then (unisonref01_said.l1 kj24 a0 (x5_3 ++ [(wrap64 ((wrap64 (16 * t133)) + t134)) % 256]) (wrap64 ((ji34) + 1))) else (none))) else (none)) else (none)) = some (r1, r2, r3) := by first | (rw [hji34] at H; exact H) | (simp only [hji34] at H ⊢; exact H)
                    (try rw [hji34] at A33)
                    have hji34w : (IntKind.i64.wrap (x6_3 + 2)) = ji34 := (i64_w _).trans hji34
                    by_cases c35 : 0 ≤ (ji34)
                    ·
                     rw [if_pos c35] at H
                     have c35b0 : decide (0 ≤ (ji34)) = true := decide_eq_true c35; clear c35
                     by_cases c36 : (ji34) < (a0.size : Int)
                     ·
                      rw [if_pos c36] at H
                      have c36b0 : decide ((ji34) < (a0.size : Int)) = true := decide_eq_true c36; clear c36; replace H := Option.bind_eq_some_iff.mp H
                      obtain ⟨t134, A380, H⟩ := H
                      replace H : (if x5_3.length < 140737488355328 then (unisonref01_said.l1 kj24 a0 (x5_3 ++ [(wrap64 ((wrap64 (16 * t133)) + t134)) % 256]) (wrap64 ((ji34) + 1))) else (none)) = some (r1, r2, r3) := H; have A38 := Aside0.mk A380; clear A380
                      by_cases c39 : x5_3.length < 140737488355328
                      ·
                       rw [if_pos c39] at H
                       have LMc39 := Aside0.mk c39; clear c39
                       obtain ⟨y135, hy135⟩ : ∃ y_ : List Int, y_ = (x5_3 ++ [(wrap64 ((wrap64 (16 * t133)) + t134)) % 256]) := ⟨_, rfl⟩
                       replace H : (unisonref01_said.l1 kj24 a0 y135 (wrap64 ((ji34) + 1))) = some (r1, r2, r3) := by first | (rw [hy135]; with_reducible exact H) | (have H2_ := (Option.bind_some _ _).symm.trans H; rw [hy135]; with_reducible exact H2_) | (have H2_ := (Option.bind_some _ _).symm.trans H; with_reducible exact H2_) | with_reducible exact H | (rw [hy135]; exact H) | exact H
                       have Ny135 := Aside0.mk hy135; clear hy135
                       have H' := Aside0.mk H
                       clear H
                       try go_wp2
                       replace HO_5 := Aside0.mk (Kd.R_drew HO_5.out); replace BK120 := Aside0.mk (blk_drew BK120.out); replace HB := Aside0.mk (below_drew1 HB.out); have p32 : 0 ≤ ((ji29) : Int) := of_decide_eq_true (by first | (with_reducible assumption) | assumption); have q32 : (ji29) < (a0.size : Int) := of_decide_eq_true (by first | (with_reducible assumption) | assumption); have hx32 := bt_at a0 (ji29); replace p32 := eq_true p32; replace q32 := eq_true q32; have p37 : 0 ≤ ((ji34) : Int) := of_decide_eq_true (by first | (with_reducible assumption) | assumption); have q37 : (ji34) < (a0.size : Int) := of_decide_eq_true (by first | (with_reducible assumption) | assumption); have hx37 := bt_at a0 (ji34); replace p37 := eq_true p37; replace q37 := eq_true q37
                       refine start_ (n := 17) (S := fun w' => True) (ds := []) #[false, false, false, false, false, false, false, false, false, false, false, false, false, false, false, false, false] (by kernel_rfl) rfl rfl trivial (fun hHeld => ?_); refine with_tabW unisonref01_said.tab24 unisonref01_said.bits24 (fun HT_ HW_ => ?_)
                       generalize wc.drew = w40 at HO_5 BK120 HB hHeld ⊢
                       refine pure_ (i := 0) (N := some 90) (v := ?_) (a' := ?_) #[true, false, false, false, false, false, false, false, false, false, false, false, false, false, false, false, false] rfl rfl (any_of HT_.out (by kernel_rfl)) (fun _ _ _ h => h) (Or.inl ⟨by rfl, ?_⟩) ?_ ?_
                       rotate_left; focus (intro w'; go_simp; with_reducible rfl; done)
                       rotate_left; focus (simp only [Act.put, List.setIfInBounds_toArray, List.set_cons_zero, List.set_cons_succ, i64_w, i32_w, u8_w, u32_w]; rfl; done)
                       refine pure_ (i := 1) (N := some 91) (v := ?_) (a' := ?_) #[true, true, false, false, false, false, false, false, false, false, false, false, false, false, false, false, false] rfl rfl (any_of HT_.out (by kernel_rfl)) (fun _ _ _ h => h) (Or.inl ⟨by rfl, ?_⟩) ?_ ?_
                       rotate_left; focus (intro w'; go_simp; with_reducible rfl; done)
                       rotate_left; focus (simp only [Act.put, List.setIfInBounds_toArray, List.set_cons_zero, List.set_cons_succ, i64_w, i32_w, u8_w, u32_w]; rfl; done)
                       refine pure_ (i := 2) (N := some 92) (v := ?_) (a' := ?_) #[true, true, true, false, false, false, false, false, false, false, false, false, false, false, false, false, false] rfl rfl (any_of HT_.out (by kernel_rfl)) (fun _ _ _ h => h) (Or.inl ⟨by rfl, ?_⟩) ?_ ?_
                       rotate_left; focus (intro w'; go_simp; with_reducible rfl; done)
                       rotate_left; focus (simp only [Act.put, List.setIfInBounds_toArray, List.set_cons_zero, List.set_cons_succ, i64_w, i32_w, u8_w, u32_w]; rfl; done)
                       refine pure_ (i := 3) (N := some 93) (v := ?_) (a' := ?_) #[true, true, true, true, false, false, false, false, false, false, false, false, false, false, false, false, false] rfl rfl (any_of HT_.out (by kernel_rfl)) (fun _ _ _ h => h) (Or.inl ⟨by rfl, ?_⟩) ?_ ?_
                       rotate_left; focus (intro w'; go_simp; with_reducible rfl; done)
                       rotate_left; focus (simp only [Act.put, List.setIfInBounds_toArray, List.set_cons_zero, List.set_cons_succ, i64_w, i32_w, u8_w, u32_w]; rfl; done)
                       refine pure_ (i := 7) (N := some 97) (v := ?_) (a' := ?_) #[true, true, true, true, false, false, false, true, false, false, false, false, false, false, false, false, false] rfl rfl (any_of HT_.out (by kernel_rfl)) (fun _ _ _ h => h) (Or.inl ⟨by rfl, ?_⟩) ?_ ?_
                       rotate_left; focus (intro w'; go_simp; with_reducible rfl; done)
                       rotate_left; focus (simp only [Act.put, List.setIfInBounds_toArray, List.set_cons_zero, List.set_cons_succ, i64_w, i32_w, u8_w, u32_w]; rfl; done)
                       refine pure_ (i := 8) (N := some 98) (v := ?_) (a' := ?_) #[true, true, true, true, false, false, false, true, true, false, false, false, false, false, false, false, false] rfl rfl (any_of HT_.out (by kernel_rfl)) (fun _ _ _ h => h) (Or.inl ⟨by rfl, ?_⟩) ?_ ?_
                       rotate_left; focus (intro w'; go_simp; with_reducible rfl; done)
                       rotate_left; focus (simp only [Act.put, List.setIfInBounds_toArray, List.set_cons_zero, List.set_cons_succ, i64_w, i32_w, u8_w, u32_w]; rfl; done)
                       refine pure_ (i := 9) (N := some 99) (v := ?_) (a' := ?_) #[true, true, true, true, false, false, false, true, true, true, false, false, false, false, false, false, false] rfl rfl (any_of HT_.out (by kernel_rfl)) (fun _ _ _ h => h) (Or.inl ⟨by rfl, ?_⟩) ?_ ?_
                       rotate_left; focus (intro w'; go_simp; with_reducible rfl; done)
                       rotate_left; focus (simp only [Act.put, List.setIfInBounds_toArray, List.set_cons_zero, List.set_cons_succ, i64_w, i32_w, u8_w, u32_w]; rfl; done)
                       refine take_ (i := 4) (N := some 94) (v := ?_) (a' := ?_) #[true, true, true, true, true, false, false, true, true, true, false, false, false, false, false, false, false] rfl rfl (take_ofW HT_.out HW_.out (by kernel_rfl)) (fun _ _ _ h => h) (Or.inl ⟨by rfl, ?_⟩) hHeld ?_ ?_
                       rotate_left; focus (intro w' _; go_simp; with_reducible rfl; done)
                       rotate_left; focus (simp only [Act.put, List.setIfInBounds_toArray, List.set_cons_zero, List.set_cons_succ, i64_w, i32_w, u8_w, u32_w]; rfl; done)
                       refine take_ (i := 10) (N := some 100) (v := ?_) (a' := ?_) #[true, true, true, true, true, false, false, true, true, true, true, false, false, false, false, false, false] rfl rfl (take_ofW HT_.out HW_.out (by kernel_rfl)) (fun _ _ _ h => h) (Or.inl ⟨by rfl, ?_⟩) hHeld ?_ ?_
                       rotate_left; focus (intro w' _; go_simp; with_reducible rfl; done)
                       rotate_left; focus (simp only [Act.put, List.setIfInBounds_toArray, List.set_cons_zero, List.set_cons_succ, i64_w, i32_w, u8_w, u32_w]; rfl; done)
                       refine one_ (i := 5) (N := some 95) #[true, true, true, true, true, true, false, true, true, true, true, false, false, false, false, false, false] rfl rfl (one_of HT_.out (by kernel_rfl)) (by decide) (fun K hK => ?_)
                       refine goes_ Tryz.func49 (by kernel_rfl) rfl #[.int .u8 (bt a0 (ji29))] (by rfl) rfl rfl (by (try simp only [List.map_toArray, List.map_cons, List.map_nil]); first | done | (simp only [hji29]; rfl) | rfl | (simp only [List.length_drop, List.length_take]; rfl)) ?_
                       with_reducible refine (unisonref01_place.calls kj24 (bt a0 (ji29)) t133 _ A33.out).mono ?_
                       rintro e w' ⟨rfl, ⟨nd, rfl⟩⟩
                       refine ⟨_, rfl, ?_⟩
                       refine hK.out _ _ trivial (fun hHeld => ?_)
                       clear hK K
                       refine norm_ (a' := ?_) ?_ ?_
                       rotate_left; focus (show Act.put _ (some 95) _ = _; simp only [Act.put, List.setIfInBounds_toArray, List.set_cons_zero, List.set_cons_succ, i64_w, i32_w, u8_w, u32_w]; rfl; done)
                       refine pure_ (i := 6) (N := some 96) (v := ?_) (a' := ?_) #[true, true, true, true, true, true, true, true, true, true, true, false, false, false, false, false, false] rfl rfl (any_of HT_.out (by kernel_rfl)) (fun _ _ _ h => h) (Or.inl ⟨by rfl, ?_⟩) ?_ ?_
                       rotate_left; focus (intro w'; go_simp; with_reducible rfl; done)
                       rotate_left; focus (simp only [Act.put, List.setIfInBounds_toArray, List.set_cons_zero, List.set_cons_succ, i64_w, i32_w, u8_w, u32_w]; rfl; done)
                       refine one_ (i := 11) (N := some 101) #[true, true, true, true, true, true, true, true, true, true, true, true, false, false, false, false, false] rfl rfl (one_of HT_.out (by kernel_rfl)) (by decide) (fun K hK => ?_)
                       refine goes_ Tryz.func49 (by kernel_rfl) rfl #[.int .u8 (bt a0 (ji34))] (by rfl) rfl rfl (by (try simp only [List.map_toArray, List.map_cons, List.map_nil]); first | done | (simp only [hji34]; rfl) | rfl | (simp only [List.length_drop, List.length_take]; rfl)) ?_
                       with_reducible refine (unisonref01_place.calls kj24 (bt a0 (ji34)) t134 _ A38.out).mono ?_
                       rintro e w' ⟨rfl, ⟨nd, rfl⟩⟩
                       refine ⟨_, rfl, ?_⟩
                       refine hK.out _ _ trivial (fun hHeld => ?_)
                       clear hK K
                       refine norm_ (a' := ?_) ?_ ?_
                       rotate_left; focus (show Act.put _ (some 101) _ = _; simp only [Act.put, List.setIfInBounds_toArray, List.set_cons_zero, List.set_cons_succ, i64_w, i32_w, u8_w, u32_w]; rfl; done)
                       refine pure_ (i := 12) (N := some 102) (v := ?_) (a' := ?_) #[true, true, true, true, true, true, true, true, true, true, true, true, true, false, false, false, false] rfl rfl (any_of HT_.out (by kernel_rfl)) (fun _ _ _ h => h) (Or.inl ⟨by rfl, ?_⟩) ?_ ?_
                       rotate_left; focus (intro w'; go_simp; with_reducible rfl; done)
                       rotate_left; focus (simp only [Act.put, List.setIfInBounds_toArray, List.set_cons_zero, List.set_cons_succ, i64_w, i32_w, u8_w, u32_w]; rfl; done)
                       refine pure_ (i := 13) (N := some 103) (v := ?_) (a' := ?_) #[true, true, true, true, true, true, true, true, true, true, true, true, true, true, false, false, false] rfl rfl (any_of HT_.out (by kernel_rfl)) (fun _ _ _ h => h) (Or.inl ⟨by rfl, ?_⟩) ?_ ?_
                       rotate_left; focus (intro w'; go_simp; with_reducible rfl; done)
                       rotate_left; focus (simp only [Act.put, List.setIfInBounds_toArray, List.set_cons_zero, List.set_cons_succ, i64_w, i32_w, u8_w, u32_w]; rfl; done)
                       refine one_ (i := 14) (N := some 104) #[true, true, true, true, true, true, true, true, true, true, true, true, true, true, true, false, false] rfl rfl (one_of HT_.out (by kernel_rfl)) (by decide) (fun K hK => ?_)
                       refine value_ (w1 := ?_) (v := ?_) (by rfl) rfl ?_ ?_
                       rotate_left 2
                       ·
                        go_simp
                        constructor
                        ·
                         rfl
                        ·
                         rfl
                       refine hK.out _ _ trivial (fun hHeld => ?_)
                       clear hK K
                       refine norm_ (a' := ?_) ?_ ?_
                       rotate_left; focus (show Act.put _ (some 104) _ = _; simp only [Act.put, List.setIfInBounds_toArray, List.set_cons_zero, List.set_cons_succ, i64_w, i32_w, u8_w, u32_w]; rfl; done)
                       refine one_ (i := 15) (N := some 105) #[true, true, true, true, true, true, true, true, true, true, true, true, true, true, true, true, false] rfl rfl (one_of HT_.out (by kernel_rfl)) (by decide) (fun K hK => ?_)
                       refine Kd.R_append_step (Kd.int .u8) (w0 := w) w.heap.size (by rfl) (.tmp 90) (.tmp 104) 66 5 (.int .u8 0) 1 rfl Tryz.underlying66 info5 rfl (by decide) (by omega) u5 x5_3 ((wrap64 ((wrap64 (16 * t133)) + t134)) % 256) [.int .u8 ((wrap64 ((wrap64 (16 * t133)) + t134)) % 256)] (fun _ => True) (fun _ => False) rfl rfl ?aP (fun _ hk => hk.elim) ?aF ?aO ?aB ?aS ?aL ?_
                       (case aP => exact rfl)
                       (case aB => exact bel)
                       (case aF => exact (fun _ _ => trivial))
                       (case aO => exact (by (with_reducible repeat (first | apply Kd.R_alloc | apply Kd.R_drewN | apply Kd.R_drew)); exact HO_5.out))
                       (case aS => exact (below_size bel))
                       (case aL => have := LMc39.out; omega)
                       intro v136 w41 ho hb hg hat
                       rw [← Ny135.out] at ho
                       have n0_ := Aside0.mk (blk_grown (g := gb120) (o := .cells #[.int .i64 0, .int .i64 0, .string (⟨#[]⟩ : ByteArray)] 48 (0, 0)) (by (with_reducible repeat (first | refine blk_drewN ?_ _ | refine blk_drew ?_ | refine blk_alloc ?_ _)); exact BK120.out) hg (Kd.R_ne HO_5.out BK120.out (by decide))); have n1_ := Aside0.mk (hb); have n2_ := Aside0.mk (ho); clear BK120; clear HB; clear HO_5; have BK120 := n0_; have HB := n1_; have HO137 := n2_; clear n0_ n1_ n2_; clear ho hb hg hat
                       refine hK.out _ _ trivial (fun hHeld => ?_)
                       clear hK K
                       refine norm_ (a' := ?_) ?_ ?_
                       rotate_left; focus (show Act.put _ (some 105) _ = _; simp only [Act.put, List.setIfInBounds_toArray, List.set_cons_zero, List.set_cons_succ, i64_w, i32_w, u8_w, u32_w]; rfl; done)
                       refine pure_ (i := 16) (N := some 5) (v := ?_) (a' := ?_) #[true, true, true, true, true, true, true, true, true, true, true, true, true, true, true, true, true] rfl rfl (any_of HT_.out (by kernel_rfl)) (fun _ _ _ h => h) (Or.inl ⟨by rfl, ?_⟩) ?_ ?_
                       rotate_left; focus (intro w'; go_simp; with_reducible rfl; done)
                       rotate_left; focus (simp only [Act.put, List.setIfInBounds_toArray, List.set_cons_zero, List.set_cons_succ, i64_w, i32_w, u8_w, u32_w]; rfl; done)
                       refine done_ (done_of HT_.out (by kernel_rfl)) ?_
                       try go_wp2
                       go_roundg kj24
                       case measure => have := HJ1.out; have := HJ9.out; have := HK3.out; have := HJ24.out; omega
                       case rel => exact ⟨(y135), (wrap64 ((ji34) + 1)), (by first | rfl | (simp; done) | (simp only [← hji34] <;> (first | rfl | simp)) | (simp [*]; done)), H', ⟨by have := HJ1.out; have := HJ9.out; have := HK3.out; have := HJ24.out; omega⟩, ⟨by (with_reducible repeat (first | apply Kd.R_alloc | apply Kd.R_drewN | apply Kd.R_drew)); exact HO137.out⟩, ⟨by (with_reducible repeat (first | refine blk_drewN ?_ _ | refine blk_drew ?_ | refine blk_alloc ?_ _)); exact BK120.out⟩, ⟨by repeat (first | (with_reducible first | exact HB.out | apply below_alloc | apply pw_below_drewN | apply below_drew1 | refine below_set ?_ GE120.out) | exact HB.out)⟩⟩
                      ·
                       rw [if_neg c39] at H
                       exact absurd H (by simp)
                     ·
                      rw [if_neg c36] at H
                      exact absurd H (by simp)
                    ·
                     rw [if_neg c35] at H
                     exact absurd H (by simp)
                   ·
                    rw [if_neg c31] at H
                    exact absurd H (by simp)
                  ·
                   rw [if_neg c30] at H
                   exact absurd H (by simp)
                 ·
                  replace c28 := Bool.eq_false_iff.mpr c28
                  subst c28
                  have H1 : (if 0 ≤ x6_3 then (if x6_3 < (a0.size : Int) then (if x5_3.length < 140737488355328 then (unisonref01_said.l1 kj24 a0 (x5_3 ++ [bt a0 x6_3]) (wrap64 (x6_3 + 1))) else (none)) else (none)) else (none)) = some (r1, r2, r3) := by rw [if_neg (show ¬ (false = true) by decide)] at H; exact H
                  clear H; have H := H1; clear H1
                  by_cases c42 : 0 ≤ x6_3
                  ·
                   rw [if_pos c42] at H
                   have c42b0 : decide (0 ≤ x6_3) = true := decide_eq_true c42; clear c42
                   by_cases c43 : x6_3 < (a0.size : Int)
                   ·
                    rw [if_pos c43] at H
                    have c43b0 : decide (x6_3 < (a0.size : Int)) = true := decide_eq_true c43; clear c43
                    by_cases c45 : x5_3.length < 140737488355328
                    ·
                     rw [if_pos c45] at H
                     have LMc45 := Aside0.mk c45; clear c45
                     obtain ⟨y138, hy138⟩ : ∃ y_ : List Int, y_ = (x5_3 ++ [bt a0 x6_3]) := ⟨_, rfl⟩
                     replace H : (unisonref01_said.l1 kj24 a0 y138 (wrap64 (x6_3 + 1))) = some (r1, r2, r3) := by first | (rw [hy138]; with_reducible exact H) | (have H2_ := (Option.bind_some _ _).symm.trans H; rw [hy138]; with_reducible exact H2_) | (have H2_ := (Option.bind_some _ _).symm.trans H; with_reducible exact H2_) | with_reducible exact H | (rw [hy138]; exact H) | exact H
                     have Ny138 := Aside0.mk hy138; clear hy138
                     have H' := Aside0.mk H
                     clear H; have p44 : 0 ≤ (x6_3 : Int) := of_decide_eq_true (by first | (with_reducible assumption) | assumption); have q44 : x6_3 < (a0.size : Int) := of_decide_eq_true (by first | (with_reducible assumption) | assumption); have hx44 := bt_at a0 x6_3; replace p44 := eq_true p44; replace q44 := eq_true q44
                     go_wp2_with (first | ((with_reducible refine gate_builtin (b := .append) (xs := #[.tmp 62, .tmp 66]) rfl ?_); (try (refine gate_guard (by rfl) ?_; dsimp only)); at_builtin; refine Kd.R_append (Kd.int .u8) (w0 := w) w.heap.size rfl (.tmp 62) (.tmp 66) 66 5 (.int .u8 0) 1 rfl Tryz.underlying66 info5 rfl (by decide) (by omega) u5 x5_3 (bt a0 x6_3) [.int .u8 (bt a0 x6_3)] (fun _ => True) (fun _ => False) rfl rfl ?aP (fun _ hk => hk.elim) ?aF ?aO ?aB ?aS ?aL ?_; (case aP => exact rfl); (case aB => exact bel); (case aF => exact (fun _ _ => trivial)); (case aO => exact (by (with_reducible repeat (first | apply Kd.R_alloc | apply Kd.R_drewN | apply Kd.R_drew)); exact HO_5.out)); (case aS => exact (below_size bel)); (case aL => have := LMc45.out; omega); intro v139 w46 ho hb hg hat; rw [← Ny138.out] at ho; have n0_ := Aside0.mk (blk_grown (g := gb120) (o := .cells #[.int .i64 0, .int .i64 0, .string (⟨#[]⟩ : ByteArray)] 48 (0, 0)) (by (with_reducible repeat (first | refine blk_drewN ?_ _ | refine blk_drew ?_ | refine blk_alloc ?_ _)); exact BK120.out) hg (Kd.R_ne HO_5.out BK120.out (by decide))); have n1_ := Aside0.mk (hb); have n2_ := Aside0.mk (ho); clear BK120; clear HB; clear HO_5; have BK120 := n0_; have HB := n1_; have HO140 := n2_; clear n0_ n1_ n2_; clear ho hb hg hat))
                     go_roundg kj24
                     case measure => have := HJ1.out; have := HJ9.out; have := HK3.out; have := HJ24.out; omega
                     case rel => exact ⟨(y138), (wrap64 (x6_3 + 1)), (by first | rfl | (simp; done) | (simp [*]; done)), H', ⟨by have := HJ1.out; have := HJ9.out; have := HK3.out; have := HJ24.out; omega⟩, ⟨by (with_reducible repeat (first | apply Kd.R_alloc | apply Kd.R_drewN | apply Kd.R_drew)); exact HO140.out⟩, ⟨by (with_reducible repeat (first | refine blk_drewN ?_ _ | refine blk_drew ?_ | refine blk_alloc ?_ _)); exact BK120.out⟩, ⟨by repeat (first | (with_reducible first | exact HB.out | apply below_alloc | apply pw_below_drewN | apply below_drew1 | refine below_set ?_ GE120.out) | exact HB.out)⟩⟩
                    ·
                     rw [if_neg c45] at H
                     exact absurd H (by simp)
                   ·
                    rw [if_neg c43] at H
                    exact absurd H (by simp)
                  ·
                   rw [if_neg c42] at H
                   exact absurd H (by simp)
             ·
              rw [if_neg c20] at H
              exact absurd H (by simp)
            ·
             rw [if_neg c19] at H
             exact absurd H (by simp)
           ·
            rw [if_neg c18] at H
            have c18b0 : decide (x6_3 < (wrap64 ((a0.size : Int) - 1))) = false := decide_eq_false c18; clear c18
            simp only [Option.some.injEq, Prod.mk.injEq] at H
            obtain ⟨rfl, rfl, rfl⟩ := H
            have hcv47 := own_string (P := Tryz.prog) Tryz.underlying66 Tryz.underlying5 Tryz.underlying9 (Kd.own_of_R HO_5.out); have hcz48_0 : wr.cell? ⟨gb120, 0, none⟩ = some (.int .i64 0) := (blk_cell BK120.out 0).trans rfl; have hcz48_1 : wr.cell? ⟨gb120, 1, none⟩ = some (.int .i64 0) := (blk_cell BK120.out 1).trans rfl; have hcz48_2 : wr.cell? ⟨gb120, 2, none⟩ = some (.string (⟨#[]⟩ : ByteArray)) := (blk_cell BK120.out 2).trans rfl; have hfz48_0 := blk_frozen BK120.out 0; have hfz48_1 := blk_frozen BK120.out 1; have hfz48_2 := blk_frozen BK120.out 2
            go_wp2_with (first | ((with_reducible refine gate_store (t := 48) (p := 2) rfl ?_); refine store_event (t := 48) (p := 2) (v := ?vo_w49) (w1 := (((wr.setCell ⟨gb120, 0, none⟩ (.int .i64 3)).setCell ⟨gb120, 1, none⟩ (.int .i64 0)).setCell ⟨gb120, 2, none⟩ (.string (strOfNums x5_3)))) ?hg ?ho ?hn ?hr ?_; (case ho => rfl); (case hg => rfl); (case hn => rfl); (case hr => first | (go_simp; done) | (go_simp; rfl)); intro w49 hw; replace HO_5 : Aside0 (Kd.R (Kd.int .u8) 5 w49 w.heap.size (fun _ => True) u5 x5_3) := ⟨(by rw [hw]; exact (by (with_reducible repeat (first | apply Kd.R_alloc | apply Kd.R_drewN | apply Kd.R_drew)); exact Kd.R_mono (Kd.R_far (p := ⟨gb120, 2, none⟩) (Kd.R_far (p := ⟨gb120, 1, none⟩) (Kd.R_far (p := ⟨gb120, 0, none⟩) (Kd.R_types HO_5.out BK120.out (by decide)) (fun _ hk => hk.2) (.int .i64 3)) (fun _ hk => hk.2) (.int .i64 0)) (fun _ hk => hk.2) (.string (strOfNums x5_3))) (fun _ hk => trivial)))⟩; replace BK120 : Aside0 (w49.heap[gb120]? = some (.cells #[.int .i64 3, .int .i64 0, .string (strOfNums x5_3)] 48 (0, 0))) := bp BK120 hw; replace HB := bv hw; clear hw))
            refine bodyPost_ret (results_cell_row rfl _ _ gb120 48 #[.int .i64 3, .int .i64 0, .string (strOfNums x5_3)] (0, 0) _ rfl (by (with_reducible repeat (first | refine blk_drewN ?_ _ | refine blk_drew ?_ | refine blk_alloc ?_ _)); exact BK120.out) Tryz.underlying48 rfl (by kernel_rfl)) rfl ?_
            exact ⟨by first | rfl | (simp [errW_none, errW_some] <;> rfl) | (simp [*, errW_none, errW_some] <;> rfl), by repeat (first | (with_reducible first | exact HB.out | apply below_alloc | apply pw_below_drewN | apply below_drew1 | refine below_set ?_ GE120.out) | exact HB.out)⟩
        ·
         rw [if_neg c17] at H
         have c17b0 : ((bt a0 0) == 39) = false := beq_eq_false_iff_ne.mpr c17; have c17b1 : ((bt a0 0) != 39) = true := bne_iff_ne.mpr c17
         have H' := Aside0.mk H
         clear H; have p16 : 0 ≤ (0 : Int) := (by omega); have q16 : 0 < a0.size := (by have : (0 : Int) < (a0.size : Int) := of_decide_eq_true (by first | (with_reducible assumption) | assumption); omega); have hx16 : ∀ h : 0 < a0.size, ((a0[0]'h).toNat : Int) = bt a0 0 := bt_at a0 0; clear p16; have qi16 : (0 < (a0.size : Int)) = True := eq_true (of_decide_eq_true (by first | (with_reducible assumption) | assumption)); replace q16 := eq_true q16
         go_wp2
         go_loopg [3, 4] kj9 (fun kq v3 v4 w' => ∃ (x3_3 : Int) (x4_3 : Int), v3 = .int .i64 x3_3 ∧ v4 = .int .i64 x4_3 ∧ Aside0 (unisonref01_said.l0 kq a0 x3_3 x4_3 = some (r1, r2, r3)) ∧ Aside0 (kq ≤ kj9) ∧ Aside0 (w'.heap[gb120]? = some (.cells #[.int .i64 0, .int .i64 0, .string (⟨#[]⟩ : ByteArray)] 48 (0, 0))) ∧ Aside0 (Below w.heap.size w w'))
         case atStart => exact ⟨(0), (0), (by first | rfl | (simp; done) | (simp [*]; done)), (by first | rfl | (simp; done) | (simp [*]; done)), H', ⟨Nat.le_refl _⟩, ⟨by (with_reducible repeat (first | refine blk_drewN ?_ _ | refine blk_drew ?_ | refine blk_alloc ?_ _)); exact BK120.out⟩, ⟨by repeat (first | (with_reducible first | exact HB.out | apply below_alloc | apply pw_below_drewN | apply below_drew1 | refine below_set ?_ GE120.out) | exact HB.out)⟩⟩
         case round =>
          clear H'
          (try clear c1); (try clear p1); (try clear q1); (try clear hx1); (try clear qi1); (try clear c2); (try clear p2); (try clear q2); (try clear hx2); (try clear c3); (try clear p3); (try clear q3); (try clear hx3); (try clear c4); (try clear c4b0); (try clear c4b1); (try clear p4); (try clear q4); (try clear hx4); (try clear hcv4); (try clear c5); (try clear p6); (try clear c11); (try clear c11b0); (try clear c11b1); (try clear c12); (try clear c15); (try clear c15b0); (try clear c15b1); (try clear p16); (try clear q16); (try clear hx16); (try clear qi16); (try clear c17); (try clear c17b0); (try clear c17b1); (try clear c18); (try clear c18b0); (try clear c19); (try clear c19b0); (try clear c20); (try clear c20b0); (try clear p21); (try clear q21); (try clear hx21); (try clear c22); (try clear c22b0); (try clear c22b1); (try clear c23); (try clear p26); (try clear q26); (try clear hx26); (try clear c27); (try clear c27b0); (try clear c27b1); (try clear c28); (try clear c30); (try clear c30b0); (try clear c31); (try clear c31b0); (try clear p32); (try clear q32); (try clear hx32); (try clear c35); (try clear c35b0); (try clear c36); (try clear c36b0); (try clear p37); (try clear q37); (try clear hx37); (try clear c39); (try clear c42); (try clear c42b0); (try clear c43); (try clear c43b0); (try clear p44); (try clear q44); (try clear hx44); (try clear c45); (try clear hcv47); (try clear c49); (try clear hcz13_0); (try clear hcz13_1); (try clear hcz13_2); (try clear hcz48_0); (try clear hcz48_1); (try clear hcz48_2); (try clear hcz8_0); (try clear hcz8_1); (try clear hcz8_2); (try clear hfz13_0); (try clear hfz13_1); (try clear hfz13_2); (try clear hfz48_0); (try clear hfz48_1); (try clear hfz48_2); (try clear hfz8_0); (try clear hfz8_1); (try clear hfz8_2); (try clear p1); (try clear p16); (try clear p2); (try clear p21); (try clear p26); (try clear p32); (try clear p37); (try clear p44); (try clear p6); (try clear q1); (try clear q16); (try clear q2); (try clear q21); (try clear q26); (try clear q32); (try clear q37); (try clear q44)
          obtain ⟨x3_3, x4_3, rfl, rfl, HA, HK3, BK120, HB⟩ := hrel
          cases gk with
          | zero => exact absurd HA.out (by simp [unisonref01_said.l0])
          | succ k3 =>
           have H := HA.out; clear HA
           simp only [unisonref01_said.l0] at H
           have HC50 := Aside0.mk H; clear H
           go_upto_region 8 with (fail)
           go_cut [33] (fun v33 wc => ∃ (kq : Nat) (x33_49 : Bool), v33 = .bool x33_49 ∧ Aside0 (unisonref01_said.j3 kq a0 x3_3 x4_3 x33_49 = some (r1, r2, r3)) ∧ Aside0 (kq ≤ k3) ∧ Aside0 (wc.heap[gb120]? = some (.cells #[.int .i64 0, .int .i64 0, .string (⟨#[]⟩ : ByteArray)] 48 (0, 0))) ∧ Aside0 (Below w.heap.size w wc))
           case first =>
            have H := HC50.out; clear HC50
            by_cases c51 : x4_3 < (a0.size : Int)
            ·
             rw [if_pos c51] at H
             have c51b0 : decide (x4_3 < (a0.size : Int)) = true := decide_eq_true c51; clear c51
             (first | rw [c51b0] | (simp only [i64_w, i32_w, u8_w, u32_w]; rw [c51b0]) | rw [c51b1] | skip)
             have H' := Aside0.mk H
             clear H
             go_wp2
             go_meet
             case rel => exact ⟨_, (decide (x4_3 < 20)), (by first | rfl | (simp; done) | (simp [*]; done)), H', ⟨by have := HJ1.out; have := HJ9.out; have := HK3.out; first | omega | exact Nat.le_refl _⟩, ⟨by (with_reducible repeat (first | refine blk_drewN ?_ _ | refine blk_drew ?_ | refine blk_alloc ?_ _)); exact BK120.out⟩, ⟨by repeat (first | (with_reducible first | exact HB.out | apply below_alloc | apply pw_below_drewN | apply below_drew1 | refine below_set ?_ GE120.out) | exact HB.out)⟩⟩
            ·
             rw [if_neg c51] at H
             have c51b0 : decide (x4_3 < (a0.size : Int)) = false := decide_eq_false c51; clear c51
             (first | rw [c51b0] | (simp only [i64_w, i32_w, u8_w, u32_w]; rw [c51b0]) | rw [c51b1] | skip)
             have H' := Aside0.mk H
             clear H
             go_wp2
             go_meet
             case rel => exact ⟨_, (false), (by first | rfl | (simp; done) | (simp [*]; done)), H', ⟨by have := HJ1.out; have := HJ9.out; have := HK3.out; first | omega | exact Nat.le_refl _⟩, ⟨by (with_reducible repeat (first | refine blk_drewN ?_ _ | refine blk_drew ?_ | refine blk_alloc ?_ _)); exact BK120.out⟩, ⟨by repeat (first | (with_reducible first | exact HB.out | apply below_alloc | apply pw_below_drewN | apply below_drew1 | refine below_set ?_ GE120.out) | exact HB.out)⟩⟩
           case rest =>
            clear HC50; (try clear c1); (try clear p1); (try clear q1); (try clear hx1); (try clear qi1); (try clear c2); (try clear p2); (try clear q2); (try clear hx2); (try clear c3); (try clear p3); (try clear q3); (try clear hx3); (try clear c4); (try clear c4b0); (try clear c4b1); (try clear p4); (try clear q4); (try clear hx4); (try clear hcv4); (try clear c5); (try clear p6); (try clear c11); (try clear c11b0); (try clear c11b1); (try clear c12); (try clear c15); (try clear c15b0); (try clear c15b1); (try clear p16); (try clear q16); (try clear hx16); (try clear qi16); (try clear c17); (try clear c17b0); (try clear c17b1); (try clear c18); (try clear c18b0); (try clear c19); (try clear c19b0); (try clear c20); (try clear c20b0); (try clear p21); (try clear q21); (try clear hx21); (try clear c22); (try clear c22b0); (try clear c22b1); (try clear c23); (try clear p26); (try clear q26); (try clear hx26); (try clear c27); (try clear c27b0); (try clear c27b1); (try clear c28); (try clear c30); (try clear c30b0); (try clear c31); (try clear c31b0); (try clear p32); (try clear q32); (try clear hx32); (try clear c35); (try clear c35b0); (try clear c36); (try clear c36b0); (try clear p37); (try clear q37); (try clear hx37); (try clear c39); (try clear c42); (try clear c42b0); (try clear c43); (try clear c43b0); (try clear p44); (try clear q44); (try clear hx44); (try clear c45); (try clear hcv47); (try clear c49); (try clear c51); (try clear c51b0); (try clear c51b1); (try clear hcz13_0); (try clear hcz13_1); (try clear hcz13_2); (try clear hcz48_0); (try clear hcz48_1); (try clear hcz48_2); (try clear hcz8_0); (try clear hcz8_1); (try clear hcz8_2); (try clear hfz13_0); (try clear hfz13_1); (try clear hfz13_2); (try clear hfz48_0); (try clear hfz48_1); (try clear hfz48_2); (try clear hfz8_0); (try clear hfz8_1); (try clear hfz8_2); (try clear p1); (try clear p16); (try clear p2); (try clear p21); (try clear p26); (try clear p3); (try clear p32); (try clear p37); (try clear p4); (try clear p44); (try clear p6); (try clear q1); (try clear q16); (try clear q2); (try clear q21); (try clear q26); (try clear q3); (try clear q32); (try clear q37); (try clear q4); (try clear q44)
            obtain ⟨kq, x33_49, rfl, HA, HJ49, BK120, HB⟩ := hcut
            cases kq with
            | zero => exact absurd HA.out (by simp [unisonref01_said.j3])
            | succ kj49 =>
             have H := HA.out; clear HA
             simp only [unisonref01_said.j3] at H
             by_cases c52 : x33_49 = true
             ·
              subst c52
              have H1 : (if 0 ≤ x4_3 then (if x4_3 < (a0.size : Int) then (if (bt a0 x4_3) = 45 then (unisonref01_said.l0 kj49 a0 x3_3 (wrap64 (x4_3 + 1))) else (unisonref01_said.l0 kj49 a0 (wrap64 ((wrap64 ((wrap64 (10 * x3_3)) - (wrap64 (bt a0 x4_3)))) + 48)) (wrap64 (x4_3 + 1)))) else (none)) else (none)) = some (r1, r2, r3) := by rw [if_pos rfl] at H; exact H
              clear H; have H := H1; clear H1
              by_cases c53 : 0 ≤ x4_3
              ·
               rw [if_pos c53] at H
               have c53b0 : decide (0 ≤ x4_3) = true := decide_eq_true c53; clear c53
               by_cases c54 : x4_3 < (a0.size : Int)
               ·
                rw [if_pos c54] at H
                have c54b0 : decide (x4_3 < (a0.size : Int)) = true := decide_eq_true c54; clear c54
                by_cases c56 : (bt a0 x4_3) = 45
                ·
                 rw [if_pos c56] at H
                 have c56b0 : ((bt a0 x4_3) == 45) = true := beq_iff_eq.mpr c56; have c56b1 : ((bt a0 x4_3) != 45) = false := bne_eq_false_iff_eq.mpr c56; clear c56
                 have H' := Aside0.mk H
                 clear H; have p55 : 0 ≤ (x4_3 : Int) := of_decide_eq_true (by first | (with_reducible assumption) | assumption); have q55 : x4_3 < (a0.size : Int) := of_decide_eq_true (by first | (with_reducible assumption) | assumption); have hx55 := bt_at a0 x4_3; replace p55 := eq_true p55; replace q55 := eq_true q55
                 go_wp2
                 go_roundg kj49
                 case measure => have := HJ1.out; have := HJ9.out; have := HK3.out; have := HJ49.out; omega
                 case rel => exact ⟨(x3_3), (wrap64 (x4_3 + 1)), (by first | rfl | (simp; done) | (simp [*]; done)), (by first | rfl | (simp; done) | (simp [*]; done)), H', ⟨by have := HJ1.out; have := HJ9.out; have := HK3.out; have := HJ49.out; omega⟩, ⟨by (with_reducible repeat (first | refine blk_drewN ?_ _ | refine blk_drew ?_ | refine blk_alloc ?_ _)); exact BK120.out⟩, ⟨by repeat (first | (with_reducible first | exact HB.out | apply below_alloc | apply pw_below_drewN | apply below_drew1 | refine below_set ?_ GE120.out) | exact HB.out)⟩⟩
                ·
                 rw [if_neg c56] at H
                 have c56b0 : ((bt a0 x4_3) == 45) = false := beq_eq_false_iff_ne.mpr c56; have c56b1 : ((bt a0 x4_3) != 45) = true := bne_iff_ne.mpr c56
                 have H' := Aside0.mk H
                 clear H; have p55 : 0 ≤ (x4_3 : Int) := of_decide_eq_true (by first | (with_reducible assumption) | assumption); have q55 : x4_3 < (a0.size : Int) := of_decide_eq_true (by first | (with_reducible assumption) | assumption); have hx55 := bt_at a0 x4_3; replace p55 := eq_true p55; replace q55 := eq_true q55; have p57 : 0 ≤ (x4_3 : Int) := of_decide_eq_true (by first | (with_reducible assumption) | assumption); have q57 : x4_3 < (a0.size : Int) := of_decide_eq_true (by first | (with_reducible assumption) | assumption); have hx57 := bt_at a0 x4_3; replace p57 := eq_true p57; replace q57 := eq_true q57
                 go_wp2
                 go_roundg kj49
                 case measure => have := HJ1.out; have := HJ9.out; have := HK3.out; have := HJ49.out; omega
                 case rel => exact ⟨(wrap64 ((wrap64 ((wrap64 (10 * x3_3)) - (wrap64 (bt a0 x4_3)))) + 48)), (wrap64 (x4_3 + 1)), (by first | rfl | (simp; done) | (simp [*]; done)), (by first | rfl | (simp; done) | (simp [*]; done)), H', ⟨by have := HJ1.out; have := HJ9.out; have := HK3.out; have := HJ49.out; omega⟩, ⟨by (with_reducible repeat (first | refine blk_drewN ?_ _ | refine blk_drew ?_ | refine blk_alloc ?_ _)); exact BK120.out⟩, ⟨by repeat (first | (with_reducible first | exact HB.out | apply below_alloc | apply pw_below_drewN | apply below_drew1 | refine below_set ?_ GE120.out) | exact HB.out)⟩⟩
               ·
                rw [if_neg c54] at H
                exact absurd H (by simp)
              ·
               rw [if_neg c53] at H
               exact absurd H (by simp)
             ·
              replace c52 := Bool.eq_false_iff.mpr c52
              subst c52
              have H1 : (if 0 < (a0.size : Int) then (if (bt a0 0) = 45 then ((unisonref01_Number.f x3_3).bind fun bt124 => (some (bt124.1, bt124.2.1, bt124.2.2))) else ((unisonref01_Number.f (wrap64 (-x3_3))).bind fun bt127 => (some (bt127.1, bt127.2.1, bt127.2.2)))) else (none)) = some (r1, r2, r3) := by rw [if_neg (show ¬ (false = true) by decide)] at H; exact H
              clear H; have H := H1; clear H1
              by_cases c58 : 0 < (a0.size : Int)
              ·
               rw [if_pos c58] at H
               have c58b0 : decide (0 < (a0.size : Int)) = true := decide_eq_true c58; have c58b1 : decide (0 < a0.size) = true := decide_eq_true (by omega); clear c58
               by_cases c60 : (bt a0 0) = 45
               ·
                rw [if_pos c60] at H
                have c60b0 : ((bt a0 0) == 45) = true := beq_iff_eq.mpr c60; have c60b1 : ((bt a0 0) != 45) = false := bne_eq_false_iff_eq.mpr c60; clear c60; replace H := Option.bind_eq_some_iff.mp H
                obtain ⟨⟨t124, t125, t126⟩, A610, H⟩ := H
                replace H : (some (t124, t125, t126)) = some (r1, r2, r3) := H; have A61 := Aside0.mk A610; clear A610
                simp only [Option.some.injEq, Prod.mk.injEq] at H
                obtain ⟨rfl, rfl, rfl⟩ := H
                have p59 : 0 ≤ (0 : Int) := (by omega); have q59 : 0 < a0.size := (by have : (0 : Int) < (a0.size : Int) := of_decide_eq_true (by first | (with_reducible assumption) | assumption); omega); have hx59 : ∀ h : 0 < a0.size, ((a0[0]'h).toNat : Int) = bt a0 0 := bt_at a0 0; clear p59; have qi59 : (0 < (a0.size : Int)) = True := eq_true (of_decide_eq_true (by first | (with_reducible assumption) | assumption)); replace q59 := eq_true q59
                go_wp2_with (first | ((with_reducible refine gate_callee (f := 48) rfl ?_); refine gL (some 54) Tryz.func48 #[.int .i64 x3_3] ?_; (with_reducible refine (unisonref01_Number.calls x3_3 t124 t125 t126 _ A61.out).mono ?_); rintro e w62 ⟨rfl, hb⟩; refine ⟨_, rfl, ?_⟩; replace BK120 := bb BK120 hb; replace HB := bs hb; (try clear hb); (try clear hb2); (try clear hk); (try clear hi); have hcz63_0 : w62.cell? ⟨gb120, 0, none⟩ = some (.int .i64 0) := (blk_cell BK120.out 0).trans rfl; have hcz63_1 : w62.cell? ⟨gb120, 1, none⟩ = some (.int .i64 0) := (blk_cell BK120.out 1).trans rfl; have hcz63_2 : w62.cell? ⟨gb120, 2, none⟩ = some (.string (⟨#[]⟩ : ByteArray)) := (blk_cell BK120.out 2).trans rfl; have hfz63_0 := blk_frozen BK120.out 0; have hfz63_1 := blk_frozen BK120.out 1; have hfz63_2 := blk_frozen BK120.out 2) | ((with_reducible refine gate_store (t := 48) (p := 2) rfl ?_); refine store_event (t := 48) (p := 2) (v := ?vo_w64) (w1 := (((w62.setCell ⟨gb120, 0, none⟩ (.int .i64 t124)).setCell ⟨gb120, 1, none⟩ (.int .i64 t125)).setCell ⟨gb120, 2, none⟩ (.string t126))) ?hg ?ho ?hn ?hr ?_; (case ho => rfl); (case hg => rfl); (case hn => rfl); (case hr => first | (go_simp; done) | (go_simp; rfl)); intro w64 hw; replace BK120 : Aside0 (w64.heap[gb120]? = some (.cells #[.int .i64 t124, .int .i64 t125, .string t126] 48 (0, 0))) := bp BK120 hw; replace HB := bv hw; clear hw))
                refine bodyPost_ret (results_cell_row rfl _ _ gb120 48 #[.int .i64 t124, .int .i64 t125, .string t126] (0, 0) _ rfl (by (with_reducible repeat (first | refine blk_drewN ?_ _ | refine blk_drew ?_ | refine blk_alloc ?_ _)); exact BK120.out) Tryz.underlying48 rfl (by kernel_rfl)) rfl ?_
                exact ⟨by first | rfl | (simp [errW_none, errW_some] <;> rfl) | (simp [*, errW_none, errW_some] <;> rfl), by repeat (first | (with_reducible first | exact HB.out | apply below_alloc | apply pw_below_drewN | apply below_drew1 | refine below_set ?_ GE120.out) | exact HB.out)⟩
               ·
                rw [if_neg c60] at H
                have c60b0 : ((bt a0 0) == 45) = false := beq_eq_false_iff_ne.mpr c60; have c60b1 : ((bt a0 0) != 45) = true := bne_iff_ne.mpr c60; replace H := Option.bind_eq_some_iff.mp H
                obtain ⟨⟨t127, t128, t129⟩, A650, H⟩ := H
                replace H : (some (t127, t128, t129)) = some (r1, r2, r3) := H; have A65 := Aside0.mk A650; clear A650
                simp only [Option.some.injEq, Prod.mk.injEq] at H
                obtain ⟨rfl, rfl, rfl⟩ := H
                have p59 : 0 ≤ (0 : Int) := (by omega); have q59 : 0 < a0.size := (by have : (0 : Int) < (a0.size : Int) := of_decide_eq_true (by first | (with_reducible assumption) | assumption); omega); have hx59 : ∀ h : 0 < a0.size, ((a0[0]'h).toNat : Int) = bt a0 0 := bt_at a0 0; clear p59; have qi59 : (0 < (a0.size : Int)) = True := eq_true (of_decide_eq_true (by first | (with_reducible assumption) | assumption)); replace q59 := eq_true q59
                go_wp2_with (first | ((with_reducible refine gate_callee (f := 48) rfl ?_); refine gL (some 54) Tryz.func48 #[.int .i64 (wrap64 (-x3_3))] ?_; (with_reducible refine (unisonref01_Number.calls (wrap64 (-x3_3)) t127 t128 t129 _ A65.out).mono ?_); rintro e w66 ⟨rfl, hb⟩; refine ⟨_, rfl, ?_⟩; replace BK120 := bb BK120 hb; replace HB := bs hb; (try clear hb); (try clear hb2); (try clear hk); (try clear hi); have hcz67_0 : w66.cell? ⟨gb120, 0, none⟩ = some (.int .i64 0) := (blk_cell BK120.out 0).trans rfl; have hcz67_1 : w66.cell? ⟨gb120, 1, none⟩ = some (.int .i64 0) := (blk_cell BK120.out 1).trans rfl; have hcz67_2 : w66.cell? ⟨gb120, 2, none⟩ = some (.string (⟨#[]⟩ : ByteArray)) := (blk_cell BK120.out 2).trans rfl; have hfz67_0 := blk_frozen BK120.out 0; have hfz67_1 := blk_frozen BK120.out 1; have hfz67_2 := blk_frozen BK120.out 2) | ((with_reducible refine gate_store (t := 48) (p := 2) rfl ?_); refine store_event (t := 48) (p := 2) (v := ?vo_w68) (w1 := (((w66.setCell ⟨gb120, 0, none⟩ (.int .i64 t127)).setCell ⟨gb120, 1, none⟩ (.int .i64 t128)).setCell ⟨gb120, 2, none⟩ (.string t129))) ?hg ?ho ?hn ?hr ?_; (case ho => rfl); (case hg => rfl); (case hn => rfl); (case hr => first | (go_simp; done) | (go_simp; rfl)); intro w68 hw; replace BK120 : Aside0 (w68.heap[gb120]? = some (.cells #[.int .i64 t127, .int .i64 t128, .string t129] 48 (0, 0))) := bp BK120 hw; replace HB := bv hw; clear hw))
                refine bodyPost_ret (results_cell_row rfl _ _ gb120 48 #[.int .i64 t127, .int .i64 t128, .string t129] (0, 0) _ rfl (by (with_reducible repeat (first | refine blk_drewN ?_ _ | refine blk_drew ?_ | refine blk_alloc ?_ _)); exact BK120.out) Tryz.underlying48 rfl (by kernel_rfl)) rfl ?_
                exact ⟨by first | rfl | (simp [errW_none, errW_some] <;> rfl) | (simp [*, errW_none, errW_some] <;> rfl), by repeat (first | (with_reducible first | exact HB.out | apply below_alloc | apply pw_below_drewN | apply below_drew1 | refine below_set ?_ GE120.out) | exact HB.out)⟩
              ·
               rw [if_neg c58] at H
               exact absurd H (by simp)
       ·
        rw [if_neg c15] at H
        exact absurd H (by simp)
end Go.Proofs.YtllehkjebikgpaaGreatDoor.PA
end
section
namespace Go.Proofs.YtllehkjebikgpaaGreatDoor.PA
open Go.RowKit Go.Proofs.YtllehkjebikgpaaGreatDoorW.PrintWords Go.Proofs.YtllehkjebikgpaaGreatDoorW.PrintLast Go.Proofs.YtllehkjebikgpaaGreatDoorW.PrintMore Go.Proofs.YtllehkjebikgpaaGreatDoorX
attribute [local go_sem] max2_int min2_int max_two min_two max_three min_three max_four min_four   -- for this text's walks alone
set_option linter.unusedVariables false
set_option linter.unusedSimpArgs false

/-! ### unisonref01_Right: function 50 -/
def unisonref01_Right.f (a0_0 : Int) (a0_1 : Int) (a0_2 : ByteArray) : Option (Bool) := if a0_0 = 0 then (if a0_1 = 0 then (some (a0_2.toList == ([] : List UInt8))) else (some false)) else (if a0_0 = 1 then (if a0_1 ≥ (-4611686018427387904) then (if a0_1 ≤ 4611686018427387904 then (some (a0_2.toList == ([] : List UInt8))) else (some false)) else (some false)) else (if a0_0 = 2 then (if a0_1 = 0 then (some (a0_2.toList == ([] : List UInt8))) else (if a0_1 = 1 then (some (a0_2.toList == ([] : List UInt8))) else (some false))) else (if a0_0 = 3 then (if a0_1 = 0 then (some (decide ((a0_2.size : Int) ≤ 64))) else (some false)) else (some false))))
set_option maxHeartbeats 8000000 in
set_option maxRecDepth 100000 in
theorem unisonref01_Right.calls (a0_0 : Int) (a0_1 : Int) (a0_2 : ByteArray) (r : Bool) (w : World) (h : unisonref01_Right.f a0_0 a0_1 a0_2 = some r) :
  Calls Tryz.prog 50 #[.agg #[.int .i64 a0_0, .int .i64 a0_1, .string a0_2]] w fun e w' => e = .returned (.bool r) ∧ Below w.heap.size w w' := by
 have hu48 := Tryz.underlying48; have HB := Aside0.mk (Below.refl w.heap.size w); have H : (if a0_0 = 0 then (if a0_1 = 0 then (some (a0_2.toList == ([] : List UInt8))) else (some false)) else (if a0_0 = 1 then (if a0_1 ≥ (-4611686018427387904) then (if a0_1 ≤ 4611686018427387904 then (some (a0_2.toList == ([] : List UInt8))) else (some false)) else (some false)) else (if a0_0 = 2 then (if a0_1 = 0 then (some (a0_2.toList == ([] : List UInt8))) else (if a0_1 = 1 then (some (a0_2.toList == ([] : List UInt8))) else (some false))) else (if a0_0 = 3 then (if a0_1 = 0 then (some (decide ((a0_2.size : Int) ≤ 64))) else (some false)) else (some false))))) = some r := h; clear h
 by_cases c2 : a0_0 = 0
 ·
  rw [if_pos c2] at H
  have c2b0 : (a0_0 == 0) = true := beq_iff_eq.mpr c2; have c2b1 : (a0_0 != 0) = false := bne_eq_false_iff_eq.mpr c2; clear c2
  by_cases c3 : a0_1 = 0
  ·
   rw [if_pos c3] at H
   have c3b0 : (a0_1 == 0) = true := beq_iff_eq.mpr c3; have c3b1 : (a0_1 != 0) = false := bne_eq_false_iff_eq.mpr c3; clear c3
   obtain rfl := Option.some.inj H
   go_enter Tryz.func50, Tryz.ntmps50
   go_wp2_with (first | ((with_reducible refine gate_dst (N := 1) rfl ?_); (try (refine gate_guard (by rfl) ?_; dsimp only)); refine box_event ?hg (N := 1) ?hd (cs := #[.int .i64 a0_0, .int .i64 a0_1, .string a0_2]) (t := 48) ?hr ?_; (case hd => rfl); (case hg => rfl); (case hr => first | (go_simp; done) | (go_simp; rfl)); intro gb141 hg w4 hbox hb; have BK141 := Aside0.mk (hbox); have GW141 := bz hg; have GE141 := bz hg; replace HB := bs hb; clear hb hbox hg; have hcz5_0 : w4.cell? ⟨gb141, 0, none⟩ = some (.int .i64 a0_0) := (blk_cell BK141.out 0).trans rfl; have hcz5_1 : w4.cell? ⟨gb141, 1, none⟩ = some (.int .i64 a0_1) := (blk_cell BK141.out 1).trans rfl; have hcz5_2 : w4.cell? ⟨gb141, 2, none⟩ = some (.string a0_2) := (blk_cell BK141.out 2).trans rfl; have hfz5_0 := blk_frozen BK141.out 0; have hfz5_1 := blk_frozen BK141.out 1; have hfz5_2 := blk_frozen BK141.out 2))
   go_ret
   exact ⟨by first | rfl | (simp [errW_none, errW_some] <;> rfl) | (simp [*, errW_none, errW_some] <;> rfl), by repeat (first | (with_reducible first | exact HB.out | apply below_alloc | apply pw_below_drewN | apply below_drew1 | refine below_set ?_ GE141.out) | exact HB.out)⟩
  ·
   rw [if_neg c3] at H
   have c3b0 : (a0_1 == 0) = false := beq_eq_false_iff_ne.mpr c3; have c3b1 : (a0_1 != 0) = true := bne_iff_ne.mpr c3
   obtain rfl := Option.some.inj H
   go_enter Tryz.func50, Tryz.ntmps50
   go_wp2_with (first | ((with_reducible refine gate_dst (N := 1) rfl ?_); (try (refine gate_guard (by rfl) ?_; dsimp only)); refine box_event ?hg (N := 1) ?hd (cs := #[.int .i64 a0_0, .int .i64 a0_1, .string a0_2]) (t := 48) ?hr ?_; (case hd => rfl); (case hg => rfl); (case hr => first | (go_simp; done) | (go_simp; rfl)); intro gb141 hg w6 hbox hb; have BK141 := Aside0.mk (hbox); have GW141 := bz hg; have GE141 := bz hg; replace HB := bs hb; clear hb hbox hg; have hcz7_0 : w6.cell? ⟨gb141, 0, none⟩ = some (.int .i64 a0_0) := (blk_cell BK141.out 0).trans rfl; have hcz7_1 : w6.cell? ⟨gb141, 1, none⟩ = some (.int .i64 a0_1) := (blk_cell BK141.out 1).trans rfl; have hcz7_2 : w6.cell? ⟨gb141, 2, none⟩ = some (.string a0_2) := (blk_cell BK141.out 2).trans rfl; have hfz7_0 := blk_frozen BK141.out 0; have hfz7_1 := blk_frozen BK141.out 1; have hfz7_2 := blk_frozen BK141.out 2))
   go_ret
   exact ⟨by first | rfl | (simp [errW_none, errW_some] <;> rfl) | (simp [*, errW_none, errW_some] <;> rfl), by repeat (first | (with_reducible first | exact HB.out | apply below_alloc | apply pw_below_drewN | apply below_drew1 | refine below_set ?_ GE141.out) | exact HB.out)⟩
 ·
  rw [if_neg c2] at H
  have c2b0 : (a0_0 == 0) = false := beq_eq_false_iff_ne.mpr c2; have c2b1 : (a0_0 != 0) = true := bne_iff_ne.mpr c2
  by_cases c8 : a0_0 = 1
  ·
   rw [if_pos c8] at H
   have c8b0 : (a0_0 == 1) = true := beq_iff_eq.mpr c8; have c8b1 : (a0_0 != 1) = false := bne_eq_false_iff_eq.mpr c8; clear c8
   by_cases c9 : a0_1 ≥ (-4611686018427387904)
   ·
    rw [if_pos c9] at H
    have c9b0 : decide ((-4611686018427387904) ≤ a0_1) = true := decide_eq_true c9; clear c9
    by_cases c10 : a0_1 ≤ 4611686018427387904
    ·
     rw [if_pos c10] at H
     have c10b0 : decide (a0_1 ≤ 4611686018427387904) = true := decide_eq_true c10; clear c10
     obtain rfl := Option.some.inj H
     go_enter Tryz.func50, Tryz.ntmps50
     go_wp2_with (first | ((with_reducible refine gate_dst (N := 1) rfl ?_); (try (refine gate_guard (by rfl) ?_; dsimp only)); refine box_event ?hg (N := 1) ?hd (cs := #[.int .i64 a0_0, .int .i64 a0_1, .string a0_2]) (t := 48) ?hr ?_; (case hd => rfl); (case hg => rfl); (case hr => first | (go_simp; done) | (go_simp; rfl)); intro gb141 hg w11 hbox hb; have BK141 := Aside0.mk (hbox); have GW141 := bz hg; have GE141 := bz hg; replace HB := bs hb; clear hb hbox hg; have hcz12_0 : w11.cell? ⟨gb141, 0, none⟩ = some (.int .i64 a0_0) := (blk_cell BK141.out 0).trans rfl; have hcz12_1 : w11.cell? ⟨gb141, 1, none⟩ = some (.int .i64 a0_1) := (blk_cell BK141.out 1).trans rfl; have hcz12_2 : w11.cell? ⟨gb141, 2, none⟩ = some (.string a0_2) := (blk_cell BK141.out 2).trans rfl; have hfz12_0 := blk_frozen BK141.out 0; have hfz12_1 := blk_frozen BK141.out 1; have hfz12_2 := blk_frozen BK141.out 2))
     go_ret
     exact ⟨by first | rfl | (simp [errW_none, errW_some] <;> rfl) | (simp [*, errW_none, errW_some] <;> rfl), by repeat (first | (with_reducible first | exact HB.out | apply below_alloc | apply pw_below_drewN | apply below_drew1 | refine below_set ?_ GE141.out) | exact HB.out)⟩
    ·
     rw [if_neg c10] at H
     have c10b0 : decide (a0_1 ≤ 4611686018427387904) = false := decide_eq_false c10; clear c10
     obtain rfl := Option.some.inj H
     go_enter Tryz.func50, Tryz.ntmps50
     go_wp2_with (first | ((with_reducible refine gate_dst (N := 1) rfl ?_); (try (refine gate_guard (by rfl) ?_; dsimp only)); refine box_event ?hg (N := 1) ?hd (cs := #[.int .i64 a0_0, .int .i64 a0_1, .string a0_2]) (t := 48) ?hr ?_; (case hd => rfl); (case hg => rfl); (case hr => first | (go_simp; done) | (go_simp; rfl)); intro gb141 hg w13 hbox hb; have BK141 := Aside0.mk (hbox); have GW141 := bz hg; have GE141 := bz hg; replace HB := bs hb; clear hb hbox hg; have hcz14_0 : w13.cell? ⟨gb141, 0, none⟩ = some (.int .i64 a0_0) := (blk_cell BK141.out 0).trans rfl; have hcz14_1 : w13.cell? ⟨gb141, 1, none⟩ = some (.int .i64 a0_1) := (blk_cell BK141.out 1).trans rfl; have hcz14_2 : w13.cell? ⟨gb141, 2, none⟩ = some (.string a0_2) := (blk_cell BK141.out 2).trans rfl; have hfz14_0 := blk_frozen BK141.out 0; have hfz14_1 := blk_frozen BK141.out 1; have hfz14_2 := blk_frozen BK141.out 2))
     go_ret
     exact ⟨by first | rfl | (simp [errW_none, errW_some] <;> rfl) | (simp [*, errW_none, errW_some] <;> rfl), by repeat (first | (with_reducible first | exact HB.out | apply below_alloc | apply pw_below_drewN | apply below_drew1 | refine below_set ?_ GE141.out) | exact HB.out)⟩
   ·
    rw [if_neg c9] at H
    have c9b0 : decide ((-4611686018427387904) ≤ a0_1) = false := decide_eq_false c9; clear c9
    obtain rfl := Option.some.inj H
    go_enter Tryz.func50, Tryz.ntmps50
    go_wp2_with (first | ((with_reducible refine gate_dst (N := 1) rfl ?_); (try (refine gate_guard (by rfl) ?_; dsimp only)); refine box_event ?hg (N := 1) ?hd (cs := #[.int .i64 a0_0, .int .i64 a0_1, .string a0_2]) (t := 48) ?hr ?_; (case hd => rfl); (case hg => rfl); (case hr => first | (go_simp; done) | (go_simp; rfl)); intro gb141 hg w15 hbox hb; have BK141 := Aside0.mk (hbox); have GW141 := bz hg; have GE141 := bz hg; replace HB := bs hb; clear hb hbox hg; have hcz16_0 : w15.cell? ⟨gb141, 0, none⟩ = some (.int .i64 a0_0) := (blk_cell BK141.out 0).trans rfl; have hcz16_1 : w15.cell? ⟨gb141, 1, none⟩ = some (.int .i64 a0_1) := (blk_cell BK141.out 1).trans rfl; have hcz16_2 : w15.cell? ⟨gb141, 2, none⟩ = some (.string a0_2) := (blk_cell BK141.out 2).trans rfl; have hfz16_0 := blk_frozen BK141.out 0; have hfz16_1 := blk_frozen BK141.out 1; have hfz16_2 := blk_frozen BK141.out 2))
    go_ret
    exact ⟨by first | rfl | (simp [errW_none, errW_some] <;> rfl) | (simp [*, errW_none, errW_some] <;> rfl), by repeat (first | (with_reducible first | exact HB.out | apply below_alloc | apply pw_below_drewN | apply below_drew1 | refine below_set ?_ GE141.out) | exact HB.out)⟩
  ·
   rw [if_neg c8] at H
   have c8b0 : (a0_0 == 1) = false := beq_eq_false_iff_ne.mpr c8; have c8b1 : (a0_0 != 1) = true := bne_iff_ne.mpr c8
   by_cases c17 : a0_0 = 2
   ·
    rw [if_pos c17] at H
    have c17b0 : (a0_0 == 2) = true := beq_iff_eq.mpr c17; have c17b1 : (a0_0 != 2) = false := bne_eq_false_iff_eq.mpr c17; clear c17
    by_cases c18 : a0_1 = 0
    ·
     rw [if_pos c18] at H
     have c18b0 : (a0_1 == 0) = true := beq_iff_eq.mpr c18; have c18b1 : (a0_1 != 0) = false := bne_eq_false_iff_eq.mpr c18; clear c18
     obtain rfl := Option.some.inj H
     go_enter Tryz.func50, Tryz.ntmps50
     go_wp2_with (first | ((with_reducible refine gate_dst (N := 1) rfl ?_); (try (refine gate_guard (by rfl) ?_; dsimp only)); refine box_event ?hg (N := 1) ?hd (cs := #[.int .i64 a0_0, .int .i64 a0_1, .string a0_2]) (t := 48) ?hr ?_; (case hd => rfl); (case hg => rfl); (case hr => first | (go_simp; done) | (go_simp; rfl)); intro gb141 hg w19 hbox hb; have BK141 := Aside0.mk (hbox); have GW141 := bz hg; have GE141 := bz hg; replace HB := bs hb; clear hb hbox hg; have hcz20_0 : w19.cell? ⟨gb141, 0, none⟩ = some (.int .i64 a0_0) := (blk_cell BK141.out 0).trans rfl; have hcz20_1 : w19.cell? ⟨gb141, 1, none⟩ = some (.int .i64 a0_1) := (blk_cell BK141.out 1).trans rfl; have hcz20_2 : w19.cell? ⟨gb141, 2, none⟩ = some (.string a0_2) := (blk_cell BK141.out 2).trans rfl; have hfz20_0 := blk_frozen BK141.out 0; have hfz20_1 := blk_frozen BK141.out 1; have hfz20_2 := blk_frozen BK141.out 2))
     go_ret
     exact ⟨by first | rfl | (simp [errW_none, errW_some] <;> rfl) | (simp [*, errW_none, errW_some] <;> rfl), by repeat (first | (with_reducible first | exact HB.out | apply below_alloc | apply pw_below_drewN | apply below_drew1 | refine below_set ?_ GE141.out) | exact HB.out)⟩
    ·
     rw [if_neg c18] at H
     have c18b0 : (a0_1 == 0) = false := beq_eq_false_iff_ne.mpr c18; have c18b1 : (a0_1 != 0) = true := bne_iff_ne.mpr c18
     by_cases c21 : a0_1 = 1
     ·
      rw [if_pos c21] at H
      have c21b0 : (a0_1 == 1) = true := beq_iff_eq.mpr c21; have c21b1 : (a0_1 != 1) = false := bne_eq_false_iff_eq.mpr c21; clear c21
      obtain rfl := Option.some.inj H
      go_enter Tryz.func50, Tryz.ntmps50
      go_wp2_with (first | ((with_reducible refine gate_dst (N := 1) rfl ?_); (try (refine gate_guard (by rfl) ?_; dsimp only)); refine box_event ?hg (N := 1) ?hd (cs := #[.int .i64 a0_0, .int .i64 a0_1, .string a0_2]) (t := 48) ?hr ?_; (case hd => rfl); (case hg => rfl); (case hr => first | (go_simp; done) | (go_simp; rfl)); intro gb141 hg w22 hbox hb; have BK141 := Aside0.mk (hbox); have GW141 := bz hg; have GE141 := bz hg; replace HB := bs hb; clear hb hbox hg; have hcz23_0 : w22.cell? ⟨gb141, 0, none⟩ = some (.int .i64 a0_0) := (blk_cell BK141.out 0).trans rfl; have hcz23_1 : w22.cell? ⟨gb141, 1, none⟩ = some (.int .i64 a0_1) := (blk_cell BK141.out 1).trans rfl; have hcz23_2 : w22.cell? ⟨gb141, 2, none⟩ = some (.string a0_2) := (blk_cell BK141.out 2).trans rfl; have hfz23_0 := blk_frozen BK141.out 0; have hfz23_1 := blk_frozen BK141.out 1; have hfz23_2 := blk_frozen BK141.out 2))
      go_ret
      exact ⟨by first | rfl | (simp [errW_none, errW_some] <;> rfl) | (simp [*, errW_none, errW_some] <;> rfl), by repeat (first | (with_reducible first | exact HB.out | apply below_alloc | apply pw_below_drewN | apply below_drew1 | refine below_set ?_ GE141.out) | exact HB.out)⟩
     ·
      rw [if_neg c21] at H
      have c21b0 : (a0_1 == 1) = false := beq_eq_false_iff_ne.mpr c21; have c21b1 : (a0_1 != 1) = true := bne_iff_ne.mpr c21
      obtain rfl := Option.some.inj H
      go_enter Tryz.func50, Tryz.ntmps50
      go_wp2_with (first | ((with_reducible refine gate_dst (N := 1) rfl ?_); (try (refine gate_guard (by rfl) ?_; dsimp only)); refine box_event ?hg (N := 1) ?hd (cs := #[.int .i64 a0_0, .int .i64 a0_1, .string a0_2]) (t := 48) ?hr ?_; (case hd => rfl); (case hg => rfl); (case hr => first | (go_simp; done) | (go_simp; rfl)); intro gb141 hg w24 hbox hb; have BK141 := Aside0.mk (hbox); have GW141 := bz hg; have GE141 := bz hg; replace HB := bs hb; clear hb hbox hg; have hcz25_0 : w24.cell? ⟨gb141, 0, none⟩ = some (.int .i64 a0_0) := (blk_cell BK141.out 0).trans rfl; have hcz25_1 : w24.cell? ⟨gb141, 1, none⟩ = some (.int .i64 a0_1) := (blk_cell BK141.out 1).trans rfl; have hcz25_2 : w24.cell? ⟨gb141, 2, none⟩ = some (.string a0_2) := (blk_cell BK141.out 2).trans rfl; have hfz25_0 := blk_frozen BK141.out 0; have hfz25_1 := blk_frozen BK141.out 1; have hfz25_2 := blk_frozen BK141.out 2))
      go_ret
      exact ⟨by first | rfl | (simp [errW_none, errW_some] <;> rfl) | (simp [*, errW_none, errW_some] <;> rfl), by repeat (first | (with_reducible first | exact HB.out | apply below_alloc | apply pw_below_drewN | apply below_drew1 | refine below_set ?_ GE141.out) | exact HB.out)⟩
   ·
    rw [if_neg c17] at H
    have c17b0 : (a0_0 == 2) = false := beq_eq_false_iff_ne.mpr c17; have c17b1 : (a0_0 != 2) = true := bne_iff_ne.mpr c17
    by_cases c26 : a0_0 = 3
    ·
     rw [if_pos c26] at H
     have c26b0 : (a0_0 == 3) = true := beq_iff_eq.mpr c26; have c26b1 : (a0_0 != 3) = false := bne_eq_false_iff_eq.mpr c26; clear c26
     by_cases c27 : a0_1 = 0
     ·
      rw [if_pos c27] at H
      have c27b0 : (a0_1 == 0) = true := beq_iff_eq.mpr c27; have c27b1 : (a0_1 != 0) = false := bne_eq_false_iff_eq.mpr c27; clear c27
      obtain rfl := Option.some.inj H
      go_enter Tryz.func50, Tryz.ntmps50
      go_wp2_with (first | ((with_reducible refine gate_dst (N := 1) rfl ?_); (try (refine gate_guard (by rfl) ?_; dsimp only)); refine box_event ?hg (N := 1) ?hd (cs := #[.int .i64 a0_0, .int .i64 a0_1, .string a0_2]) (t := 48) ?hr ?_; (case hd => rfl); (case hg => rfl); (case hr => first | (go_simp; done) | (go_simp; rfl)); intro gb141 hg w28 hbox hb; have BK141 := Aside0.mk (hbox); have GW141 := bz hg; have GE141 := bz hg; replace HB := bs hb; clear hb hbox hg; have hcz29_0 : w28.cell? ⟨gb141, 0, none⟩ = some (.int .i64 a0_0) := (blk_cell BK141.out 0).trans rfl; have hcz29_1 : w28.cell? ⟨gb141, 1, none⟩ = some (.int .i64 a0_1) := (blk_cell BK141.out 1).trans rfl; have hcz29_2 : w28.cell? ⟨gb141, 2, none⟩ = some (.string a0_2) := (blk_cell BK141.out 2).trans rfl; have hfz29_0 := blk_frozen BK141.out 0; have hfz29_1 := blk_frozen BK141.out 1; have hfz29_2 := blk_frozen BK141.out 2))
      go_ret
      exact ⟨by first | rfl | (simp [errW_none, errW_some] <;> rfl) | (simp [*, errW_none, errW_some] <;> rfl), by repeat (first | (with_reducible first | exact HB.out | apply below_alloc | apply pw_below_drewN | apply below_drew1 | refine below_set ?_ GE141.out) | exact HB.out)⟩
     ·
      rw [if_neg c27] at H
      have c27b0 : (a0_1 == 0) = false := beq_eq_false_iff_ne.mpr c27; have c27b1 : (a0_1 != 0) = true := bne_iff_ne.mpr c27
      obtain rfl := Option.some.inj H
      go_enter Tryz.func50, Tryz.ntmps50
      go_wp2_with (first | ((with_reducible refine gate_dst (N := 1) rfl ?_); (try (refine gate_guard (by rfl) ?_; dsimp only)); refine box_event ?hg (N := 1) ?hd (cs := #[.int .i64 a0_0, .int .i64 a0_1, .string a0_2]) (t := 48) ?hr ?_; (case hd => rfl); (case hg => rfl); (case hr => first | (go_simp; done) | (go_simp; rfl)); intro gb141 hg w30 hbox hb; have BK141 := Aside0.mk (hbox); have GW141 := bz hg; have GE141 := bz hg; replace HB := bs hb; clear hb hbox hg; have hcz31_0 : w30.cell? ⟨gb141, 0, none⟩ = some (.int .i64 a0_0) := (blk_cell BK141.out 0).trans rfl; have hcz31_1 : w30.cell? ⟨gb141, 1, none⟩ = some (.int .i64 a0_1) := (blk_cell BK141.out 1).trans rfl; have hcz31_2 : w30.cell? ⟨gb141, 2, none⟩ = some (.string a0_2) := (blk_cell BK141.out 2).trans rfl; have hfz31_0 := blk_frozen BK141.out 0; have hfz31_1 := blk_frozen BK141.out 1; have hfz31_2 := blk_frozen BK141.out 2))
      go_ret
      exact ⟨by first | rfl | (simp [errW_none, errW_some] <;> rfl) | (simp [*, errW_none, errW_some] <;> rfl), by repeat (first | (with_reducible first | exact HB.out | apply below_alloc | apply pw_below_drewN | apply below_drew1 | refine below_set ?_ GE141.out) | exact HB.out)⟩
    ·
     rw [if_neg c26] at H
     have c26b0 : (a0_0 == 3) = false := beq_eq_false_iff_ne.mpr c26; have c26b1 : (a0_0 != 3) = true := bne_iff_ne.mpr c26
     obtain rfl := Option.some.inj H
     go_enter Tryz.func50, Tryz.ntmps50
     go_wp2_with (first | ((with_reducible refine gate_dst (N := 1) rfl ?_); (try (refine gate_guard (by rfl) ?_; dsimp only)); refine box_event ?hg (N := 1) ?hd (cs := #[.int .i64 a0_0, .int .i64 a0_1, .string a0_2]) (t := 48) ?hr ?_; (case hd => rfl); (case hg => rfl); (case hr => first | (go_simp; done) | (go_simp; rfl)); intro gb141 hg w32 hbox hb; have BK141 := Aside0.mk (hbox); have GW141 := bz hg; have GE141 := bz hg; replace HB := bs hb; clear hb hbox hg; have hcz33_0 : w32.cell? ⟨gb141, 0, none⟩ = some (.int .i64 a0_0) := (blk_cell BK141.out 0).trans rfl; have hcz33_1 : w32.cell? ⟨gb141, 1, none⟩ = some (.int .i64 a0_1) := (blk_cell BK141.out 1).trans rfl; have hcz33_2 : w32.cell? ⟨gb141, 2, none⟩ = some (.string a0_2) := (blk_cell BK141.out 2).trans rfl; have hfz33_0 := blk_frozen BK141.out 0; have hfz33_1 := blk_frozen BK141.out 1; have hfz33_2 := blk_frozen BK141.out 2))
     go_ret
     exact ⟨by first | rfl | (simp [errW_none, errW_some] <;> rfl) | (simp [*, errW_none, errW_some] <;> rfl), by repeat (first | (with_reducible first | exact HB.out | apply below_alloc | apply pw_below_drewN | apply below_drew1 | refine below_set ?_ GE141.out) | exact HB.out)⟩
end Go.Proofs.YtllehkjebikgpaaGreatDoor.PA
end
section
namespace Go.Proofs.YtllehkjebikgpaaGreatDoor.PA
open Go.RowKit Go.Proofs.YtllehkjebikgpaaGreatDoorW.PrintWords Go.Proofs.YtllehkjebikgpaaGreatDoorW.PrintLast Go.Proofs.YtllehkjebikgpaaGreatDoorW.PrintMore Go.Proofs.YtllehkjebikgpaaGreatDoorX
attribute [local go_sem] max2_int min2_int max_two min_two max_three min_three max_four min_four   -- for this text's walks alone
set_option linter.unusedVariables false
set_option linter.unusedSimpArgs false
/-! ### unisonref01_Digits: function 51 -/
mutual
def unisonref01_Digits.j0 : Nat → Int → Int → Int → Option (ByteArray)
 | 0, _, _, _ => none
 | k + 1, x0, x3, x4 => if 0 ≤ x4 then (if x4 ≤ (wrap64 (x4 + 1)) then (if (wrap64 (x4 + 1)) ≤ 10 then (unisonref01_Digits.l0 k x0 x3 ((⟨#[48, 49, 50, 51, 52, 53, 54, 55, 56, 57]⟩ : ByteArray).extract (x4 : Int).toNat ((wrap64 (x4 + 1)) : Int).toNat)) else (none)) else (none)) else (none)
def unisonref01_Digits.l0 : Nat → Int → Int → ByteArray → Option (ByteArray)
 | 0, _, _, _ => none
 | k + 1, x0, x3, x5 => if x3 = 0 then (if x0 < 0 then (if 1 + x5.size ≤ 9223372036854775807 then (some ((⟨#[45]⟩ : ByteArray) ++ x5)) else (none)) else (some x5)) else (if (Int.tmod x3 10) < 0 then (if 0 ≤ (wrap64 (-(Int.tmod x3 10))) then (if (wrap64 (-(Int.tmod x3 10))) ≤ (wrap64 ((wrap64 (-(Int.tmod x3 10))) + 1)) then (if (wrap64 ((wrap64 (-(Int.tmod x3 10))) + 1)) ≤ 10 then (if ((⟨#[48, 49, 50, 51, 52, 53, 54, 55, 56, 57]⟩ : ByteArray).extract ((wrap64 (-(Int.tmod x3 10))) : Int).toNat ((wrap64 ((wrap64 (-(Int.tmod x3 10))) + 1)) : Int).toNat).size + x5.size ≤ 9223372036854775807 then (unisonref01_Digits.l0 k x0 (wrap64 (Int.tdiv x3 10)) (((⟨#[48, 49, 50, 51, 52, 53, 54, 55, 56, 57]⟩ : ByteArray).extract ((wrap64 (-(Int.tmod x3 10))) : Int).toNat ((wrap64 ((wrap64 (-(Int.tmod x3 10))) + 1)) : Int).toNat) ++ x5)) else (none)) else (none)) else (none)) else (none)) else (if 0 ≤ (Int.tmod x3 10) then (if (Int.tmod x3 10) ≤ (wrap64 ((Int.tmod x3 10) + 1)) then (if (wrap64 ((Int.tmod x3 10) + 1)) ≤ 10 then (if ((⟨#[48, 49, 50, 51, 52, 53, 54, 55, 56, 57]⟩ : ByteArray).extract ((Int.tmod x3 10) : Int).toNat ((wrap64 ((Int.tmod x3 10) + 1)) : Int).toNat).size + x5.size ≤ 9223372036854775807 then (unisonref01_Digits.l0 k x0 (wrap64 (Int.tdiv x3 10)) (((⟨#[48, 49, 50, 51, 52, 53, 54, 55, 56, 57]⟩ : ByteArray).extract ((Int.tmod x3 10) : Int).toNat ((wrap64 ((Int.tmod x3 10) + 1)) : Int).toNat) ++ x5)) else (none)) else (none)) else (none)) else (none)))
end
def unisonref01_Digits.f (k : Nat) (a0 : Int) : Option (ByteArray) := if (Int.tmod a0 10) < 0 then (unisonref01_Digits.j0 k a0 (wrap64 (Int.tdiv a0 10)) (wrap64 (-(Int.tmod a0 10)))) else (unisonref01_Digits.j0 k a0 (wrap64 (Int.tdiv a0 10)) (Int.tmod a0 10))
theorem unisonref01_Digits.mono_l : ∀ k, (∀ y0 y1 y2, LeO (unisonref01_Digits.j0 k y0 y1 y2) (unisonref01_Digits.j0 (k + 1) y0 y1 y2)) ∧ (∀ y0 y1 y2, LeO (unisonref01_Digits.l0 k y0 y1 y2) (unisonref01_Digits.l0 (k + 1) y0 y1 y2))
 | 0 => ⟨fun _ _ _ r h => by simp [unisonref01_Digits.j0] at h, fun _ _ _ r h => by simp [unisonref01_Digits.l0] at h⟩
 | k + 1 => by
  obtain ⟨ih0, ih1⟩ := unisonref01_Digits.mono_l k
  refine ⟨?_, ?_⟩
  ·
   intro y0 y1 y2
   unfold unisonref01_Digits.j0
   repeat' first
   | (with_reducible exact ih0 _ _ _)
   | (with_reducible exact ih1 _ _ _)
   | (with_reducible exact LeO.refl _)
   | (with_reducible exact LeO.none _)
   | (with_reducible refine LeO.ite ?_ ?_)
   | (with_reducible refine LeO.bind ?_ (fun _ => ?_))
   | exact ih0 _ _ _
   | exact ih1 _ _ _
   | exact LeO.none _
   | refine LeO.ite ?_ ?_
   | refine LeO.bind ?_ (fun _ => ?_)
  ·
   intro y0 y1 y2
   unfold unisonref01_Digits.l0
   repeat' first
   | (with_reducible exact ih0 _ _ _)
   | (with_reducible exact ih1 _ _ _)
   | (with_reducible exact LeO.refl _)
   | (with_reducible exact LeO.none _)
   | (with_reducible refine LeO.ite ?_ ?_)
   | (with_reducible refine LeO.bind ?_ (fun _ => ?_))
   | exact ih0 _ _ _
   | exact ih1 _ _ _
   | exact LeO.none _
   | refine LeO.ite ?_ ?_
   | refine LeO.bind ?_ (fun _ => ?_)
theorem unisonref01_Digits.mono : ∀ a0 k, LeO (unisonref01_Digits.f k a0) (unisonref01_Digits.f (k + 1) a0) := by
 intro a0 k
 obtain ⟨ih0, ih1⟩ := unisonref01_Digits.mono_l k
 unfold unisonref01_Digits.f
 repeat' first
   | (with_reducible exact ih0 _ _ _)
   | (with_reducible exact ih1 _ _ _)
   | (with_reducible exact LeO.refl _)
   | (with_reducible exact LeO.none _)
   | (with_reducible refine LeO.ite ?_ ?_)
   | (with_reducible refine LeO.bind ?_ (fun _ => ?_))
   | exact ih0 _ _ _
   | exact ih1 _ _ _
   | exact LeO.none _
   | refine LeO.ite ?_ ?_
   | refine LeO.bind ?_ (fun _ => ?_)
set_option maxHeartbeats 8000000 in
set_option maxRecDepth 100000 in
theorem unisonref01_Digits.calls (k : Nat) (a0 : Int) (r : ByteArray) (w : World) (h : unisonref01_Digits.f k a0 = some r) :
  Calls Tryz.prog 51 #[.int .i64 a0] w fun e w' => e = .returned (.string r) ∧ Drawn0 w w' := by
 have H : (if (Int.tmod a0 10) < 0 then (unisonref01_Digits.j0 k a0 (wrap64 (Int.tdiv a0 10)) (wrap64 (-(Int.tmod a0 10)))) else (unisonref01_Digits.j0 k a0 (wrap64 (Int.tdiv a0 10)) (Int.tmod a0 10))) = some r := h; clear h; have HC2 := Aside0.mk H; clear H
 go_enter Tryz.func51, Tryz.ntmps51
 go_upto_if 11 with (fail)
 go_cut [4] (fun v4 wc => ∃ (kq : Nat) (x4_1 : Int), v4 = .int .i64 x4_1 ∧ Aside0 (unisonref01_Digits.j0 kq a0 (wrap64 (Int.tdiv a0 10)) x4_1 = some r) ∧ Aside0 (kq ≤ k) ∧ Drawn0 w wc)
 case first =>
  have H := HC2.out; clear HC2
  by_cases c3 : (Int.tmod a0 10) < 0
  ·
   rw [if_pos c3] at H
   have c3b0 : decide ((Int.tmod a0 10) < 0) = true := decide_eq_true c3; clear c3
   (first | rw [c3b0] | (simp only [i64_w, i32_w, u8_w, u32_w]; rw [c3b0]) | rw [c3b1] | skip)
   have H' := Aside0.mk H
   clear H
   go_wp2
   go_meet
   case rel => exact ⟨_, (wrap64 (-(Int.tmod a0 10))), (by first | rfl | (simp; done) | (simp [*]; done)), H', ⟨by first | omega | exact Nat.le_refl _⟩, by repeat (first | exact Drawn0.refl _ | apply Drawn0.step)⟩
  ·
   rw [if_neg c3] at H
   have c3b0 : decide ((Int.tmod a0 10) < 0) = false := decide_eq_false c3; clear c3
   (first | rw [c3b0] | (simp only [i64_w, i32_w, u8_w, u32_w]; rw [c3b0]) | rw [c3b1] | skip)
   have H' := Aside0.mk H
   clear H
   go_wp2
   go_meet
   case rel => exact ⟨_, (Int.tmod a0 10), (by first | rfl | (simp; done) | (simp [*]; done)), H', ⟨by first | omega | exact Nat.le_refl _⟩, by repeat (first | exact Drawn0.refl _ | apply Drawn0.step)⟩
 case rest =>
  clear HC2; (try clear p2); (try clear c3); (try clear c3b0); (try clear c3b1)
  obtain ⟨kq, x4_1, rfl, HA, HJ1, ⟨mc1, rfl⟩⟩ := hcut
  cases kq with
  | zero => exact absurd HA.out (by simp [unisonref01_Digits.j0])
  | succ kj1 =>
   have H := HA.out; clear HA
   simp only [unisonref01_Digits.j0] at H
   by_cases c4 : 0 ≤ x4_1
   ·
    rw [if_pos c4] at H
    have c4b0 := eq_true c4; have c4b1 : decide (0 ≤ x4_1) = true := decide_eq_true c4; clear c4
    by_cases c5 : x4_1 ≤ (wrap64 (x4_1 + 1))
    ·
     rw [if_pos c5] at H
     have c5b0 := eq_true c5; have c5b1 : decide (x4_1 ≤ (wrap64 (x4_1 + 1))) = true := decide_eq_true c5
     by_cases c6 : (wrap64 (x4_1 + 1)) ≤ 10
     ·
      rw [if_pos c6] at H
      have c6b0 := eq_true c6; have c6b1 : decide ((wrap64 (x4_1 + 1)) ≤ 10) = true := decide_eq_true c6
      have H' := Aside0.mk H
      clear H
      go_wp2
      go_loopg [3, 5] kj1 (fun kq v3 v5 w' => ∃ (x3_2 : Int) (x5_2 : ByteArray), v3 = .int .i64 x3_2 ∧ v5 = .string x5_2 ∧ Aside0 (unisonref01_Digits.l0 kq a0 x3_2 x5_2 = some r) ∧ Aside0 (kq ≤ kj1) ∧ Drawn0 w w')
      case atStart => exact ⟨((wrap64 (Int.tdiv a0 10))), ((⟨#[48, 49, 50, 51, 52, 53, 54, 55, 56, 57]⟩ : ByteArray).extract (x4_1 : Int).toNat ((wrap64 (x4_1 + 1)) : Int).toNat), (by first | rfl | (simp; done) | (simp [*]; done)), (by first | rfl | (simp; done) | (simp [*]; done)), H', ⟨Nat.le_refl _⟩, by repeat (first | exact Drawn0.refl _ | apply Drawn0.step)⟩
      case round =>
       clear H'
       (try clear c1); (try clear p2); (try clear c3); (try clear c3b0); (try clear c3b1); (try clear c4); (try clear c4b0); (try clear c4b1); (try clear c5); (try clear c5b0); (try clear c5b1); (try clear c6); (try clear c6b0); (try clear c6b1); (try clear p6); (try clear p2)
       obtain ⟨x3_2, x5_2, rfl, rfl, HA, HK2, ⟨m2, rfl⟩⟩ := hrel
       cases gk with
       | zero => exact absurd HA.out (by simp [unisonref01_Digits.l0])
       | succ k2 =>
        have H := HA.out; clear HA
        simp only [unisonref01_Digits.l0] at H
        by_cases c7 : x3_2 = 0
        ·
         rw [if_pos c7] at H
         have c7b0 : (x3_2 == 0) = true := beq_iff_eq.mpr c7; have c7b1 : (x3_2 != 0) = false := bne_eq_false_iff_eq.mpr c7; clear c7
         by_cases c8 : a0 < 0
         ·
          rw [if_pos c8] at H
          have c8b0 : decide (a0 < 0) = true := decide_eq_true c8; clear c8
          by_cases c9 : 1 + x5_2.size ≤ 9223372036854775807
          ·
           rw [if_pos c9] at H
           have c9b0 := eq_true c9; have c9b1 : decide (1 + x5_2.size ≤ 9223372036854775807) = true := decide_eq_true c9
           try have c9b2 : (9223372036854775807 < 1 + x5_2.size) = False := eq_false (Nat.not_lt.2 c9)
           obtain rfl := Option.some.inj H
           go_wp2
           go_ret
           exact ⟨by first | rfl | (simp; done) | (simp [*]; done), by repeat (first | exact Drawn0.refl _ | apply Drawn0.step)⟩
          ·
           rw [if_neg c9] at H
           exact absurd H (by simp)
         ·
          rw [if_neg c8] at H
          have c8b0 : decide (a0 < 0) = false := decide_eq_false c8; clear c8
          obtain rfl := Option.some.inj H
          go_wp2
          go_ret
          exact ⟨by first | rfl | (simp; done) | (simp [*]; done), by repeat (first | exact Drawn0.refl _ | apply Drawn0.step)⟩
        ·
         rw [if_neg c7] at H
         have c7b0 : (x3_2 == 0) = false := beq_eq_false_iff_ne.mpr c7; have c7b1 : (x3_2 != 0) = true := bne_iff_ne.mpr c7
         by_cases c10 : (Int.tmod x3_2 10) < 0
         ·
          rw [if_pos c10] at H
          have c10b0 : decide ((Int.tmod x3_2 10) < 0) = true := decide_eq_true c10; clear c10
          obtain ⟨ji11, hji11⟩ : ∃ j_ : Int, (wrap64 (-(Int.tmod x3_2 10))) = j_ := ⟨_, rfl⟩
          replace H : (if 0 ≤ (ji11) then (if (ji11) ≤ (wrap64 ((ji11) + 1)) then (if (wrap64 ((ji11) + 1)) ≤ 10 then (if ((⟨#[48, 49, 50, 51, 52, 53, 54, 55, 56, 57]⟩ : ByteArray).extract ((ji11) : Int).toNat ((wrap64 ((ji11) + 1)) : Int).toNat).size + x5_2.size ≤ 9223372036854775807 then (unisonref01_Digits.l0 k2 a0 (wrap64 (Int.tdiv x3_2 10)) (((⟨#[48, 49, 50, 51, 52, 53, 54, 55, 56, 57]⟩ : ByteArray).extract ((ji11) : Int).toNat ((wrap64 ((ji11) + 1)) : Int).toNat) ++ x5_2)) else (none)) else (none)) else (none)) else (none)) = some r := by first | (rw [hji11] at H; exact H) | (simp only [hji11] at H ⊢; exact H)
          have hji11w : (IntKind.i64.wrap (-(Int.tmod x3_2 10))) = ji11 := (i64_w _).trans hji11
          by_cases c12 : 0 ≤ (ji11)
          ·
           rw [if_pos c12] at H
           have c12b0 := eq_true c12; have c12b1 : decide (0 ≤ (ji11)) = true := decide_eq_true c12; clear c12
           by_cases c13 : (ji11) ≤ (wrap64 ((ji11) + 1))
           ·
            rw [if_pos c13] at H
            have c13b0 := eq_true c13; have c13b1 : decide ((ji11) ≤ (wrap64 ((ji11) + 1))) = true := decide_eq_true c13
            by_cases c14 : (wrap64 ((ji11) + 1)) ≤ 10
            ·
             rw [if_pos c14] at H
             have c14b0 := eq_true c14; have c14b1 : decide ((wrap64 ((ji11) + 1)) ≤ 10) = true := decide_eq_true c14
             by_cases c15 : ((⟨#[48, 49, 50, 51, 52, 53, 54, 55, 56, 57]⟩ : ByteArray).extract ((ji11) : Int).toNat ((wrap64 ((ji11) + 1)) : Int).toNat).size + x5_2.size ≤ 9223372036854775807
             ·
              rw [if_pos c15] at H
              have c15b0 := eq_true c15; have c15b1 : decide (((⟨#[48, 49, 50, 51, 52, 53, 54, 55, 56, 57]⟩ : ByteArray).extract ((ji11) : Int).toNat ((wrap64 ((ji11) + 1)) : Int).toNat).size + x5_2.size ≤ 9223372036854775807) = true := decide_eq_true c15
              try have c15b2 : (9223372036854775807 < ((⟨#[48, 49, 50, 51, 52, 53, 54, 55, 56, 57]⟩ : ByteArray).extract ((ji11) : Int).toNat ((wrap64 ((ji11) + 1)) : Int).toNat).size + x5_2.size) = False := eq_false (Nat.not_lt.2 c15)
              have H' := Aside0.mk H
              clear H
              go_wp2
              go_roundg k2
              case measure => have := HJ1.out; have := HK2.out; omega
              case rel => exact ⟨(wrap64 (Int.tdiv x3_2 10)), (((⟨#[48, 49, 50, 51, 52, 53, 54, 55, 56, 57]⟩ : ByteArray).extract ((ji11) : Int).toNat ((wrap64 ((ji11) + 1)) : Int).toNat) ++ x5_2), (by first | rfl | (simp; done) | (simp [*]; done)), (by first | rfl | (simp; done) | (simp only [← hji11] <;> (first | rfl | simp)) | (simp [*]; done)), H', ⟨by have := HJ1.out; have := HK2.out; omega⟩, by repeat (first | exact Drawn0.refl _ | apply Drawn0.step)⟩
             ·
              rw [if_neg c15] at H
              exact absurd H (by simp)
            ·
             rw [if_neg c14] at H
             exact absurd H (by simp)
           ·
            rw [if_neg c13] at H
            exact absurd H (by simp)
          ·
           rw [if_neg c12] at H
           exact absurd H (by simp)
         ·
          rw [if_neg c10] at H
          have c10b0 : decide ((Int.tmod x3_2 10) < 0) = false := decide_eq_false c10; clear c10
          obtain ⟨ji16, hji16⟩ : ∃ j_ : Int, (Int.tmod x3_2 10) = j_ := ⟨_, rfl⟩
          replace H : (if 0 ≤ (ji16) then (if (ji16) ≤ (wrap64 ((ji16) + 1)) then (if (wrap64 ((ji16) + 1)) ≤ 10 then (if ((⟨#[48, 49, 50, 51, 52, 53, 54, 55, 56, 57]⟩ : ByteArray).extract ((ji16) : Int).toNat ((wrap64 ((ji16) + 1)) : Int).toNat).size + x5_2.size ≤ 9223372036854775807 then (unisonref01_Digits.l0 k2 a0 (wrap64 (Int.tdiv x3_2 10)) (((⟨#[48, 49, 50, 51, 52, 53, 54, 55, 56, 57]⟩ : ByteArray).extract ((ji16) : Int).toNat ((wrap64 ((ji16) + 1)) : Int).toNat) ++ x5_2)) else (none)) else (none)) else (none)) else (none)) = some r := by first | (rw [hji16] at H; exact H) | (simp only [hji16] at H ⊢; exact H)
          (try rw [hji16] at c10b0)
          by_cases c17 : 0 ≤ (ji16)
          ·
           rw [if_pos c17] at H
           have c17b0 := eq_true c17; have c17b1 : decide (0 ≤ (ji16)) = true := decide_eq_true c17; clear c17
           by_cases c18 : (ji16) ≤ (wrap64 ((ji16) + 1))
           ·
            rw [if_pos c18] at H
            have c18b0 := eq_true c18; have c18b1 : decide ((ji16) ≤ (wrap64 ((ji16) + 1))) = true := decide_eq_true c18
            by_cases c19 : (wrap64 ((ji16) + 1)) ≤ 10
            ·
             rw [if_pos c19] at H
             have c19b0 := eq_true c19; have c19b1 : decide ((wrap64 ((ji16) + 1)) ≤ 10) = true := decide_eq_true c19
             by_cases c20 : ((⟨#[48, 49, 50, 51, 52, 53, 54, 55, 56, 57]⟩ : ByteArray).extract ((ji16) : Int).toNat ((wrap64 ((ji16) + 1)) : Int).toNat).size + x5_2.size ≤ 9223372036854775807
             ·
              rw [if_pos c20] at H
              have c20b0 := eq_true c20; have c20b1 : decide (((⟨#[48, 49, 50, 51, 52, 53, 54, 55, 56, 57]⟩ : ByteArray).extract ((ji16) : Int).toNat ((wrap64 ((ji16) + 1)) : Int).toNat).size + x5_2.size ≤ 9223372036854775807) = true := decide_eq_true c20
              try have c20b2 : (9223372036854775807 < ((⟨#[48, 49, 50, 51, 52, 53, 54, 55, 56, 57]⟩ : ByteArray).extract ((ji16) : Int).toNat ((wrap64 ((ji16) + 1)) : Int).toNat).size + x5_2.size) = False := eq_false (Nat.not_lt.2 c20)
              have H' := Aside0.mk H
              clear H
              go_wp2
              go_roundg k2
              case measure => have := HJ1.out; have := HK2.out; omega
              case rel => exact ⟨(wrap64 (Int.tdiv x3_2 10)), (((⟨#[48, 49, 50, 51, 52, 53, 54, 55, 56, 57]⟩ : ByteArray).extract ((ji16) : Int).toNat ((wrap64 ((ji16) + 1)) : Int).toNat) ++ x5_2), (by first | rfl | (simp; done) | (simp [*]; done)), (by first | rfl | (simp; done) | (simp only [← hji16] <;> (first | rfl | simp)) | (simp [*]; done)), H', ⟨by have := HJ1.out; have := HK2.out; omega⟩, by repeat (first | exact Drawn0.refl _ | apply Drawn0.step)⟩
             ·
              rw [if_neg c20] at H
              exact absurd H (by simp)
            ·
             rw [if_neg c19] at H
             exact absurd H (by simp)
           ·
            rw [if_neg c18] at H
            exact absurd H (by simp)
          ·
           rw [if_neg c17] at H
           exact absurd H (by simp)
     ·
      rw [if_neg c6] at H
      exact absurd H (by simp)
    ·
     rw [if_neg c5] at H
     exact absurd H (by simp)
   ·
    rw [if_neg c4] at H
    exact absurd H (by simp)
end Go.Proofs.YtllehkjebikgpaaGreatDoor.PA
end
section
namespace Go.Proofs.YtllehkjebikgpaaGreatDoor.PA
open Go.RowKit Go.Proofs.YtllehkjebikgpaaGreatDoorW.PrintWords Go.Proofs.YtllehkjebikgpaaGreatDoorW.PrintLast Go.Proofs.YtllehkjebikgpaaGreatDoorW.PrintMore Go.Proofs.YtllehkjebikgpaaGreatDoorX
attribute [local go_sem] max2_int min2_int max_two min_two max_three min_three max_four min_four   -- for this text's walks alone
set_option linter.unusedVariables false
set_option linter.unusedSimpArgs false

/-! ### unisonref01_quoted: function 52 -/
def unisonref01_quoted.l0 : Nat → ByteArray → List Int → Int → Option (ByteArray)
 | 0, _, _, _ => none
 | k + 1, x0, x3, x4 => if x4 < (x0.size : Int) then (if 0 ≤ x4 then (if (bt x0 x4) = 39 then ((some (([39, 39] : List Int) : List Int)).bind fun y148 => (if x3.length + y148.length < 140737488355328 then (unisonref01_quoted.l0 k x0 (x3 ++ y148) (wrap64 (x4 + 1))) else (none))) else (if (bt x0 x4) < 32 then (if 0 ≤ ((Int.tdiv (bt x0 x4) 16) % 256) then (if ((Int.tdiv (bt x0 x4) 16) % 256) < 16 then (if 0 ≤ (Int.tmod (bt x0 x4) 16) then (if (Int.tmod (bt x0 x4) 16) < 16 then ((some (([92, bt (⟨#[48, 49, 50, 51, 52, 53, 54, 55, 56, 57, 97, 98, 99, 100, 101, 102]⟩ : ByteArray) ((Int.tdiv (bt x0 x4) 16) % 256), bt (⟨#[48, 49, 50, 51, 52, 53, 54, 55, 56, 57, 97, 98, 99, 100, 101, 102]⟩ : ByteArray) (Int.tmod (bt x0 x4) 16)] : List Int) : List Int)).bind fun y154 => (if x3.length + y154.length < 140737488355328 then (unisonref01_quoted.l0 k x0 (x3 ++ y154) (wrap64 (x4 + 1))) else (none))) else (none)) else (none)) else (none)) else (none)) else (if (bt x0 x4) > 126 then (if 0 ≤ ((Int.tdiv (bt x0 x4) 16) % 256) then (if ((Int.tdiv (bt x0 x4) 16) % 256) < 16 then (if 0 ≤ (Int.tmod (bt x0 x4) 16) then (if (Int.tmod (bt x0 x4) 16) < 16 then ((some (([92, bt (⟨#[48, 49, 50, 51, 52, 53, 54, 55, 56, 57, 97, 98, 99, 100, 101, 102]⟩ : ByteArray) ((Int.tdiv (bt x0 x4) 16) % 256), bt (⟨#[48, 49, 50, 51, 52, 53, 54, 55, 56, 57, 97, 98, 99, 100, 101, 102]⟩ : ByteArray) (Int.tmod (bt x0 x4) 16)] : List Int) : List Int)).bind fun y160 => (if x3.length + y160.length < 140737488355328 then (unisonref01_quoted.l0 k x0 (x3 ++ y160) (wrap64 (x4 + 1))) else (none))) else (none)) else (none)) else (none)) else (none)) else (if (bt x0 x4) = 92 then (if 0 ≤ ((Int.tdiv (bt x0 x4) 16) % 256) then (if ((Int.tdiv (bt x0 x4) 16) % 256) < 16 then (if 0 ≤ (Int.tmod (bt x0 x4) 16) then (if (Int.tmod (bt x0 x4) 16) < 16 then ((some (([92, bt (⟨#[48, 49, 50, 51, 52, 53, 54, 55, 56, 57, 97, 98, 99, 100, 101, 102]⟩ : ByteArray) ((Int.tdiv (bt x0 x4) 16) % 256), bt (⟨#[48, 49, 50, 51, 52, 53, 54, 55, 56, 57, 97, 98, 99, 100, 101, 102]⟩ : ByteArray) (Int.tmod (bt x0 x4) 16)] : List Int) : List Int)).bind fun y166 => (if x3.length + y166.length < 140737488355328 then (unisonref01_quoted.l0 k x0 (x3 ++ y166) (wrap64 (x4 + 1))) else (none))) else (none)) else (none)) else (none)) else (none)) else (if x3.length < 140737488355328 then (unisonref01_quoted.l0 k x0 (x3 ++ [bt x0 x4]) (wrap64 (x4 + 1))) else (none)))))) else (none)) else (if x3.length < 140737488355328 then (some (strOfNums (x3 ++ [39]))) else (none))
def unisonref01_quoted.f (k : Nat) (a0 : ByteArray) : Option (ByteArray) := unisonref01_quoted.l0 k a0 (([39] : List Int)) 0
theorem unisonref01_quoted.mono_l : ∀ k, (∀ y0 y1 y2, LeO (unisonref01_quoted.l0 k y0 y1 y2) (unisonref01_quoted.l0 (k + 1) y0 y1 y2))
 | 0 => fun _ _ _ r h => by simp [unisonref01_quoted.l0] at h
 | k + 1 => by
  have ih0 := unisonref01_quoted.mono_l k
  ·
   intro y0 y1 y2
   unfold unisonref01_quoted.l0
   repeat' first
   | (with_reducible exact ih0 _ _ _)
   | (with_reducible exact LeO.refl _)
   | (with_reducible exact LeO.none _)
   | (with_reducible refine LeO.ite ?_ ?_)
   | (with_reducible refine LeO.bind ?_ (fun _ => ?_))
   | exact ih0 _ _ _
   | exact LeO.none _
   | refine LeO.ite ?_ ?_
   | refine LeO.bind ?_ (fun _ => ?_)
theorem unisonref01_quoted.mono : ∀ a0 k, LeO (unisonref01_quoted.f k a0) (unisonref01_quoted.f (k + 1) a0) := by
 intro a0 k
 have ih0 := unisonref01_quoted.mono_l k
 unfold unisonref01_quoted.f
 repeat' first
   | (with_reducible exact ih0 _ _ _)
   | (with_reducible exact LeO.refl _)
   | (with_reducible exact LeO.none _)
   | (with_reducible refine LeO.ite ?_ ?_)
   | (with_reducible refine LeO.bind ?_ (fun _ => ?_))
   | exact ih0 _ _ _
   | exact LeO.none _
   | refine LeO.ite ?_ ?_
   | refine LeO.bind ?_ (fun _ => ?_)
def unisonref01_quoted.T10 : Bool × List (List Nat × List Nat) := (true, [([], []), ([], []), ([1], [1]), ([2], [2]), ([], []), ([4], [4]), ([5], [5]), ([3, 6], [3, 6]), ([0, 7], [0, 7]), ([8, 8, 0, 1, 2, 3, 4, 5, 6, 7, 8], [0, 8])])
def unisonref01_quoted.B10 : List Nat := [0, 0, 2, 6, 0, 16, 48, 126, 255, 511]
theorem unisonref01_quoted.tab10 : rtab .any (opsOf Tryz.f52 10) = unisonref01_quoted.T10 := by kernel_rfl
theorem unisonref01_quoted.bits10 : waitsOk unisonref01_quoted.T10.2 unisonref01_quoted.B10 = true := by kernel_rfl
set_option maxHeartbeats 8000000 in
set_option maxRecDepth 100000 in
theorem unisonref01_quoted.calls (k : Nat) (a0 : ByteArray) (r : ByteArray) (w : World) (h : unisonref01_quoted.f k a0 = some r) :
  Calls Tryz.prog 52 #[.string a0] w fun e w' => e = .returned (.string r) ∧ Below w.heap.size w w' := by
 have HB := Aside0.mk (Below.refl w.heap.size w); have H : (unisonref01_quoted.l0 k a0 (([39] : List Int)) 0) = some r := h; clear h
 obtain ⟨y142, hy142⟩ : ∃ y_ : List Int, y_ = (([39] : List Int)) := ⟨_, rfl⟩
 replace H : (unisonref01_quoted.l0 k a0 y142 0) = some r := by first | (rw [hy142]; with_reducible exact H) | (have H2_ := (Option.bind_some _ _).symm.trans H; rw [hy142]; with_reducible exact H2_) | (have H2_ := (Option.bind_some _ _).symm.trans H; with_reducible exact H2_) | with_reducible exact H | (rw [hy142]; exact H) | exact H
 have Ny142 := Aside0.mk hy142; clear hy142
 have H' := Aside0.mk H
 clear H
 go_enter Tryz.func52, Tryz.ntmps52
 go_wp2_with (first | ((with_reducible refine gate_dst (N := 6) rfl ?_); refine Kd.R_lit (Kd.int .u8) _ 5 ?hg (N := 6) ?hd (xs := ([39] : List Int)) (inner := [.int .u8 39]) (ok := fun _ => True) (okp := fun _ => True) ?hr ?hp (fun _ hk => hk) trivial (Below.refl _ _) (Nat.le_refl _) (by simp) ?_; (case hd => rfl); (case hg => rfl); (case hr => first | (go_simp; done) | (go_simp; rfl)); (case hp => exact (Reps.one (show Kd.M (Kd.int .u8) _ _ _ 39 [.int .u8 39] from rfl) (Reps.none _ _))); intro v143 w2 ho3 hb hg_ hnew_; clear hg_ hnew_; (first | rw [← Ny142.out] at ho3 | (simp only [Int.reduceToNat] at ho3; rw [← Ny142.out] at ho3)); have HO144 := Aside0.mk (Kd.R_lower ho3 (below_size bel)); replace HB := bs hb; clear hb ho3))
 go_loopg [3, 4] k (fun kq v3 v4 w' => ∃ (x3_1 : List Int) (x4_1 : Int), v4 = .int .i64 x4_1 ∧ Aside0 (unisonref01_quoted.l0 kq a0 x3_1 x4_1 = some r) ∧ Aside0 (kq ≤ k) ∧ Aside0 (Kd.R (Kd.int .u8) 5 w' w.heap.size (fun _ => True) v3 x3_1) ∧ Aside0 (Below w.heap.size w w'))
 case atStart => exact ⟨(y142), (0), (by first | rfl | (simp; done) | (simp [*]; done)), H', ⟨Nat.le_refl _⟩, ⟨by (with_reducible repeat (first | apply Kd.R_alloc | apply Kd.R_drewN | apply Kd.R_drew)); exact HO144.out⟩, ⟨by repeat (first | (with_reducible first | exact HB.out | apply below_alloc | apply pw_below_drewN | apply below_drew1) | exact HB.out)⟩⟩
 case round =>
  clear H'
  (try clear p2)
  obtain ⟨x3_1, x4_1, rfl, HA, HK1, HO_3, HB⟩ := hrel
  cases gk with
  | zero => exact absurd HA.out (by simp [unisonref01_quoted.l0])
  | succ k1 =>
   have H := HA.out; clear HA
   simp only [unisonref01_quoted.l0] at H
   by_cases c4 : x4_1 < (a0.size : Int)
   ·
    rw [if_pos c4] at H
    have c4b0 : decide (x4_1 < (a0.size : Int)) = true := decide_eq_true c4; clear c4
    by_cases c5 : 0 ≤ x4_1
    ·
     rw [if_pos c5] at H
     have c5b0 : decide (0 ≤ x4_1) = true := decide_eq_true c5; clear c5
     by_cases c7 : (bt a0 x4_1) = 39
     ·
      rw [if_pos c7] at H
      have c7b0 : ((bt a0 x4_1) == 39) = true := beq_iff_eq.mpr c7; have c7b1 : ((bt a0 x4_1) != 39) = false := bne_eq_false_iff_eq.mpr c7; clear c7
      obtain ⟨y148, hy148⟩ : ∃ y_ : List Int, y_ = (([39, 39] : List Int)) := ⟨_, rfl⟩
      replace H : (if x3_1.length + y148.length < 140737488355328 then (unisonref01_quoted.l0 k1 a0 (x3_1 ++ y148) (wrap64 (x4_1 + 1))) else (none)) = some r := by first | (rw [hy148]; with_reducible exact H) | (have H2_ := (Option.bind_some _ _).symm.trans H; rw [hy148]; with_reducible exact H2_) | (have H2_ := (Option.bind_some _ _).symm.trans H; with_reducible exact H2_) | with_reducible exact H | (rw [hy148]; exact H) | exact H
      have Ny148 := Aside0.mk hy148; clear hy148
      by_cases c8 : x3_1.length + y148.length < 140737488355328
      ·
       rw [if_pos c8] at H
       have LMc8 := Aside0.mk c8; clear c8
       obtain ⟨y151, hy151⟩ : ∃ y_ : List Int, y_ = (x3_1 ++ y148) := ⟨_, rfl⟩
       replace H : (unisonref01_quoted.l0 k1 a0 y151 (wrap64 (x4_1 + 1))) = some r := by first | (rw [hy151]; with_reducible exact H) | (have H2_ := (Option.bind_some _ _).symm.trans H; rw [hy151]; with_reducible exact H2_) | (have H2_ := (Option.bind_some _ _).symm.trans H; with_reducible exact H2_) | with_reducible exact H | (rw [hy151]; exact H) | exact H
       have Ny151 := Aside0.mk hy151; clear hy151
       have H' := Aside0.mk H
       clear H; have p6 : 0 ≤ (x4_1 : Int) := of_decide_eq_true (by first | (with_reducible assumption) | assumption); have q6 : x4_1 < (a0.size : Int) := of_decide_eq_true (by first | (with_reducible assumption) | assumption); have hx6 := bt_at a0 x4_1; replace p6 := eq_true p6; replace q6 := eq_true q6
       go_wp2_with (first | ((with_reducible refine gate_dst (N := 24) rfl ?_); refine Kd.R_lit (Kd.int .u8) _ 5 ?hg (N := 24) ?hd (xs := ([39, 39] : List Int)) (inner := [.int .u8 39, .int .u8 39]) (ok := fun _ => True) (okp := fun _ => True) ?hr ?hp (fun _ hk => hk) trivial (Below.refl _ _) (Nat.le_refl _) (by simp) ?_; (case hd => rfl); (case hg => rfl); (case hr => first | (go_simp; done) | (go_simp; rfl)); (case hp => exact (Reps.one (show Kd.M (Kd.int .u8) _ _ _ 39 [.int .u8 39] from rfl) (Reps.one (show Kd.M (Kd.int .u8) _ _ _ 39 [.int .u8 39] from rfl) (Reps.none _ _)))); intro v149 w9 ho10 hb hg_ hnew_; clear hg_ hnew_; (first | rw [← Ny148.out] at ho10 | (simp only [Int.reduceToNat] at ho10; rw [← Ny148.out] at ho10)); have HO150 := Aside0.mk (Kd.R_lower (Kd.R_new' ho10 (Kd.R_lt (by (with_reducible repeat (first | apply Kd.R_alloc | apply Kd.R_drewN | apply Kd.R_drew)); exact HO_3.out))) (below_size bel)); replace HO_3 := Aside0.mk (Kd.R_elder' (by (with_reducible repeat (first | apply Kd.R_alloc | apply Kd.R_drewN | apply Kd.R_drew)); exact HO_3.out) (Kd.R_base ho10) hb); replace HB := bs hb; clear hb ho10; obtain ⟨Ao12, co12, eo12⟩ := Kd.R_slice HO150.out; subst eo12) | ((with_reducible refine gate_builtin (b := .append) (xs := #[.tmp 23, .tmp 24]) rfl ?_); at_builtin; refine Kd.R_append_rows (Kd.int .u8) (w0 := w) w.heap.size rfl (.tmp 23) (.tmp 24) 66 5 (.int .u8 0) 1 rfl Tryz.underlying66 info5 rfl (by decide) (by omega) u3 x3_1 y148 _ _ _ (fun k_ => some k_ ≠ (.slice Ao12 y148.length co12 : Value).ownBlock) (fun _ => False) rfl rfl ?aO ?aR (fun _ _ h => h) (fun _ h => h.elim) ?aF ?aB ?aS ?aL ?_; (case aR => repeat (first | exact (Kd.R_reads' HO150.out).2.2 | (with_reducible refine Kd.C_alloc ?_ _) | (with_reducible refine Kd.C_drewN ?_ _) | (with_reducible refine Kd.C_drew ?_))); (case aB => exact bel); (case aF => exact (fun k_ hk => Kd.fresh' (Kd.R_lt (by (with_reducible repeat (first | apply Kd.R_alloc | apply Kd.R_drewN | apply Kd.R_drew)); exact HO150.out)) k_ hk)); (case aO => exact (by (with_reducible repeat (first | apply Kd.R_alloc | apply Kd.R_drewN | apply Kd.R_drew)); exact Kd.R_mono HO_3.out (fun _ hk => hk.2))); (case aS => exact (below_size bel)); (case aL => have := LMc8.out; omega); intro v152 w11 ho hb hg hat; rw [← Ny151.out] at ho; have n0_ := Aside0.mk (Kd.R_after (ok := (fun _ => True)) (by (with_reducible repeat (first | apply Kd.R_alloc | apply Kd.R_drewN | apply Kd.R_drew)); exact HO150.out) hg hat); have n1_ := Aside0.mk (hb); have n2_ := Aside0.mk (ho); clear HO150; clear HB; clear HO_3; have HO150 := n0_; have HB := n1_; have HO153 := n2_; clear n0_ n1_ n2_; clear ho hb hg hat))
       go_roundg k1
       case measure => have := HK1.out; omega
       case rel => exact ⟨(y151), (wrap64 (x4_1 + 1)), (by first | rfl | (simp; done) | (simp [*]; done)), H', ⟨by have := HK1.out; omega⟩, ⟨by (with_reducible repeat (first | apply Kd.R_alloc | apply Kd.R_drewN | apply Kd.R_drew)); exact Kd.R_mono HO153.out (fun _ hk => trivial)⟩, ⟨by repeat (first | (with_reducible first | exact HB.out | apply below_alloc | apply pw_below_drewN | apply below_drew1) | exact HB.out)⟩⟩
      ·
       rw [if_neg c8] at H
       exact absurd H (by simp)
     ·
      rw [if_neg c7] at H
      have c7b0 : ((bt a0 x4_1) == 39) = false := beq_eq_false_iff_ne.mpr c7; have c7b1 : ((bt a0 x4_1) != 39) = true := bne_iff_ne.mpr c7
      by_cases c13 : (bt a0 x4_1) < 32
      ·
       rw [if_pos c13] at H
       have c13b0 : decide ((bt a0 x4_1) < 32) = true := decide_eq_true c13; clear c13
       obtain ⟨ji14, hji14⟩ : ∃ j_ : Int, ((Int.tdiv (bt a0 x4_1) 16) % 256) = j_ := ⟨_, rfl⟩
       replace H : (if 0 ≤ (ji14) then (if (ji14) < 16 then (if 0 ≤ (Int.tmod (bt a0 x4_1) 16) then (if (Int.tmod (bt a0 x4_1) 16) < 16 then ((some (([92, bt (⟨#[48, 49, 50, 51, 52, 53, 54, 55, 56, 57, 97, 98, 99, 100, 101, 102]⟩ : ByteArray) (ji14), bt (⟨#[48, 49, 50, 51, 52, 53, 54, 55, 56, 57, 97, 98, 99, 100, 101, 102]⟩ : ByteArray) (Int.tmod (bt a0 x4_1) 16)] : List Int) : List Int)).bind fun y154 => (if x3_1.length + y154.length < 140737488355328 then (unisonref01_quoted.l0 k1 a0 (x3_1 ++ y154) (wrap64 (x4_1 + 1))) else (none))) else (none)) else (none)) else (none)) else (none)) = some r := by first | (rw [hji14] at H; exact H) | (simp only [hji14] at H ⊢; exact H)
       by_cases c15 : 0 ≤ (ji14)
       ·
        rw [if_pos c15] at H
        have c15b0 : decide (0 ≤ (ji14)) = true := decide_eq_true c15; clear c15
        by_cases c16 : (ji14) < 16
        ·
         rw [if_pos c16] at H
         have c16b0 : decide ((ji14) < 16) = true := decide_eq_true c16; clear c16
         obtain ⟨ji18, hji18⟩ : ∃ j_ : Int, (Int.tmod (bt a0 x4_1) 16) = j_ := ⟨_, rfl⟩
         replace H : (if 0 ≤ (ji18) then (if (ji18) < 16 then ((some (([92, bt (⟨#[48, 49, 50, 51, 52, 53, 54, 55, 56, 57, 97, 98, 99, 100, 101, 102]⟩ : ByteArray) (ji14), bt (⟨#[48, 49, 50, 51, 52, 53, 54, 55, 56, 57, 97, 98, 99, 100, 101, 102]⟩ : ByteArray) (ji18)] : List Int) : List Int)).bind fun y154 => (if x3_1.length + y154.length < 140737488355328 then (unisonref01_quoted.l0 k1 a0 (x3_1 ++ y154) (wrap64 (x4_1 + 1))) else (none))) else (none)) else (none)) = some r := by first | (rw [hji18] at H; exact H) | (simp only [hji18] at H ⊢; exact H)
         by_cases c19 : 0 ≤ (ji18)
         ·
          rw [if_pos c19] at H
          have c19b0 : decide (0 ≤ (ji18)) = true := decide_eq_true c19; clear c19
          by_cases c20 : (ji18) < 16
          ·
           rw [if_pos c20] at H
           have c20b0 : decide ((ji18) < 16) = true := decide_eq_true c20; clear c20
           obtain ⟨y154, hy154⟩ : ∃ y_ : List Int, y_ = (([92, bt (⟨#[48, 49, 50, 51, 52, 53, 54, 55, 56, 57, 97, 98, 99, 100, 101, 102]⟩ : ByteArray) (ji14), bt (⟨#[48, 49, 50, 51, 52, 53, 54, 55, 56, 57, 97, 98, 99, 100, 101, 102]⟩ : ByteArray) (ji18)] : List Int)) := ⟨_, rfl⟩
           replace H : (if x3_1.length + y154.length < 140737488355328 then (unisonref01_quoted.l0 k1 a0 (x3_1 ++ y154) (wrap64 (x4_1 + 1))) else (none)) = some r := by first | (rw [hy154]; with_reducible exact H) | (have H2_ := (Option.bind_some _ _).symm.trans H; rw [hy154]; with_reducible exact H2_) | (have H2_ := (Option.bind_some _ _).symm.trans H; with_reducible exact H2_) | with_reducible exact H | (rw [hy154]; exact H) | exact H
           have Ny154 := Aside0.mk hy154; clear hy154
           by_cases c22 : x3_1.length + y154.length < 140737488355328
           ·
            rw [if_pos c22] at H
            have LMc22 := Aside0.mk c22; clear c22
            obtain ⟨y157, hy157⟩ : ∃ y_ : List Int, y_ = (x3_1 ++ y154) := ⟨_, rfl⟩
            replace H : (unisonref01_quoted.l0 k1 a0 y157 (wrap64 (x4_1 + 1))) = some r := by first | (rw [hy157]; with_reducible exact H) | (have H2_ := (Option.bind_some _ _).symm.trans H; rw [hy157]; with_reducible exact H2_) | (have H2_ := (Option.bind_some _ _).symm.trans H; with_reducible exact H2_) | with_reducible exact H | (rw [hy157]; exact H) | exact H
            have Ny157 := Aside0.mk hy157; clear hy157
            have H' := Aside0.mk H
            clear H; have p6 : 0 ≤ (x4_1 : Int) := of_decide_eq_true (by first | (with_reducible assumption) | assumption); have q6 : x4_1 < (a0.size : Int) := of_decide_eq_true (by first | (with_reducible assumption) | assumption); have hx6 := bt_at a0 x4_1; replace p6 := eq_true p6; replace q6 := eq_true q6
            try go_wp2
            replace HO_3 := Aside0.mk (Kd.R_drew HO_3.out); replace HB := Aside0.mk (below_drew1 HB.out); have p17 : 0 ≤ ((ji14) : Int) := of_decide_eq_true (by first | (with_reducible assumption) | assumption); have q17 : (ji14) < (16 : Int) := of_decide_eq_true (by first | (with_reducible assumption) | assumption); have hx17 := bt_at (⟨#[48, 49, 50, 51, 52, 53, 54, 55, 56, 57, 97, 98, 99, 100, 101, 102]⟩ : ByteArray) (ji14); replace p17 := eq_true p17; replace q17 := eq_true q17; have p21 : 0 ≤ ((ji18) : Int) := of_decide_eq_true (by first | (with_reducible assumption) | assumption); have q21 : (ji18) < (16 : Int) := of_decide_eq_true (by first | (with_reducible assumption) | assumption); have hx21 := bt_at (⟨#[48, 49, 50, 51, 52, 53, 54, 55, 56, 57, 97, 98, 99, 100, 101, 102]⟩ : ByteArray) (ji18); replace p21 := eq_true p21; replace q21 := eq_true q21
            refine start_ (n := 10) (S := fun w' => True) (ds := []) #[false, false, false, false, false, false, false, false, false, false] (by kernel_rfl) rfl rfl trivial (fun hHeld => ?_); refine with_tabW unisonref01_quoted.tab10 unisonref01_quoted.bits10 (fun HT_ HW_ => ?_)
            generalize wr.drew = w23 at HO_3 HB hHeld ⊢
            refine pure_ (i := 0) (N := some 37) (v := ?_) (a' := ?_) #[true, false, false, false, false, false, false, false, false, false] rfl rfl (any_of HT_.out (by kernel_rfl)) (fun _ _ _ h => h) (Or.inl ⟨by rfl, ?_⟩) ?_ ?_
            rotate_left; focus (intro w'; go_simp; with_reducible rfl; done)
            rotate_left; focus (simp only [Act.put, List.setIfInBounds_toArray, List.set_cons_zero, List.set_cons_succ, i64_w, i32_w, u8_w, u32_w]; rfl; done)
            refine pure_ (i := 1) (N := some 38) (v := ?_) (a' := ?_) #[true, true, false, false, false, false, false, false, false, false] rfl rfl (any_of HT_.out (by kernel_rfl)) (fun _ _ _ h => h) (Or.inl ⟨by rfl, ?_⟩) ?_ ?_
            rotate_left; focus (intro w'; go_simp; with_reducible rfl; done)
            rotate_left; focus (simp only [Act.put, List.setIfInBounds_toArray, List.set_cons_zero, List.set_cons_succ, i64_w, i32_w, u8_w, u32_w]; rfl; done)
            refine pure_ (i := 2) (N := some 39) (v := ?_) (a' := ?_) #[true, true, true, false, false, false, false, false, false, false] rfl rfl (any_of HT_.out (by kernel_rfl)) (fun _ _ _ h => h) (Or.inl ⟨by rfl, ?_⟩) ?_ ?_
            rotate_left; focus (intro w'; go_simp; with_reducible rfl; done)
            rotate_left; focus (simp only [Act.put, List.setIfInBounds_toArray, List.set_cons_zero, List.set_cons_succ, i64_w, i32_w, u8_w, u32_w]; rfl; done)
            refine pure_ (i := 4) (N := some 41) (v := ?_) (a' := ?_) #[true, true, true, false, true, false, false, false, false, false] rfl rfl (any_of HT_.out (by kernel_rfl)) (fun _ _ _ h => h) (Or.inl ⟨by rfl, ?_⟩) ?_ ?_
            rotate_left; focus (intro w'; go_simp; with_reducible rfl; done)
            rotate_left; focus (simp only [Act.put, List.setIfInBounds_toArray, List.set_cons_zero, List.set_cons_succ, i64_w, i32_w, u8_w, u32_w]; rfl; done)
            refine pure_ (i := 5) (N := some 42) (v := ?_) (a' := ?_) #[true, true, true, false, true, true, false, false, false, false] rfl rfl (any_of HT_.out (by kernel_rfl)) (fun _ _ _ h => h) (Or.inl ⟨by rfl, ?_⟩) ?_ ?_
            rotate_left; focus (intro w'; go_simp; with_reducible rfl; done)
            rotate_left; focus (simp only [Act.put, List.setIfInBounds_toArray, List.set_cons_zero, List.set_cons_succ, i64_w, i32_w, u8_w, u32_w]; rfl; done)
            refine take_ (i := 3) (N := some 40) (v := ?_) (a' := ?_) #[true, true, true, true, true, true, false, false, false, false] rfl rfl (take_ofW HT_.out HW_.out (by kernel_rfl)) (fun _ _ _ h => h) (Or.inl ⟨by rfl, ?_⟩) hHeld ?_ ?_
            rotate_left; focus (intro w' _; go_simp; with_reducible rfl; done)
            rotate_left; focus (simp only [Act.put, List.setIfInBounds_toArray, List.set_cons_zero, List.set_cons_succ, i64_w, i32_w, u8_w, u32_w]; rfl; done)
            refine take_ (i := 6) (N := some 43) (v := ?_) (a' := ?_) #[true, true, true, true, true, true, true, false, false, false] rfl rfl (take_ofW HT_.out HW_.out (by kernel_rfl)) (fun _ _ _ h => h) (Or.inl ⟨by rfl, ?_⟩) hHeld ?_ ?_
            rotate_left; focus (intro w' _; go_simp; with_reducible rfl; done)
            rotate_left; focus (simp only [Act.put, List.setIfInBounds_toArray, List.set_cons_zero, List.set_cons_succ, i64_w, i32_w, u8_w, u32_w]; rfl; done)
            refine one_ (i := 7) (N := some 44) #[true, true, true, true, true, true, true, true, false, false] rfl rfl (one_of HT_.out (by kernel_rfl)) (by decide) (fun K hK => ?_)
            refine Kd.R_lit_step (Kd.int .u8) _ 5 ?hg (N := 44) ?hd (xs := ([92, bt (⟨#[48, 49, 50, 51, 52, 53, 54, 55, 56, 57, 97, 98, 99, 100, 101, 102]⟩ : ByteArray) (ji14), bt (⟨#[48, 49, 50, 51, 52, 53, 54, 55, 56, 57, 97, 98, 99, 100, 101, 102]⟩ : ByteArray) (ji18)] : List Int)) (inner := [.int .u8 92, .int .u8 (bt (⟨#[48, 49, 50, 51, 52, 53, 54, 55, 56, 57, 97, 98, 99, 100, 101, 102]⟩ : ByteArray) (ji14)), .int .u8 (bt (⟨#[48, 49, 50, 51, 52, 53, 54, 55, 56, 57, 97, 98, 99, 100, 101, 102]⟩ : ByteArray) (ji18))]) (ok := fun _ => True) (okp := fun _ => True) ?hr ?hp (fun _ hk => hk) trivial (Below.refl _ _) (Nat.le_refl _) (by simp) ?_; (case hd => rfl); (case hg => rfl); (case hr => first | (go_simp; done) | (go_simp; rfl)); (case hp => exact (Reps.one (show Kd.M (Kd.int .u8) _ _ _ 92 [.int .u8 92] from rfl) (Reps.one (show Kd.M (Kd.int .u8) _ _ _ (bt (⟨#[48, 49, 50, 51, 52, 53, 54, 55, 56, 57, 97, 98, 99, 100, 101, 102]⟩ : ByteArray) (ji14)) [.int .u8 (bt (⟨#[48, 49, 50, 51, 52, 53, 54, 55, 56, 57, 97, 98, 99, 100, 101, 102]⟩ : ByteArray) (ji14))] from rfl) (Reps.one (show Kd.M (Kd.int .u8) _ _ _ (bt (⟨#[48, 49, 50, 51, 52, 53, 54, 55, 56, 57, 97, 98, 99, 100, 101, 102]⟩ : ByteArray) (ji18)) [.int .u8 (bt (⟨#[48, 49, 50, 51, 52, 53, 54, 55, 56, 57, 97, 98, 99, 100, 101, 102]⟩ : ByteArray) (ji18))] from rfl) (Reps.none _ _)))))
            intro v155 w24 ho25 hb hg_ hnew_
            clear hg_ hnew_
            (first | rw [← Ny154.out] at ho25 | (simp only [Int.reduceToNat] at ho25; rw [← Ny154.out] at ho25))
            have HO156 := Aside0.mk (Kd.R_lower (Kd.R_new' ho25 (Kd.R_lt (by (with_reducible repeat (first | apply Kd.R_alloc | apply Kd.R_drewN | apply Kd.R_drew)); exact HO_3.out))) (below_size bel)); replace HO_3 := Aside0.mk (Kd.R_elder' (by (with_reducible repeat (first | apply Kd.R_alloc | apply Kd.R_drewN | apply Kd.R_drew)); exact HO_3.out) (Kd.R_base ho25) hb); replace HB := bs hb; clear hb ho25
            obtain ⟨Ao27, co27, eo27⟩ := Kd.R_slice HO156.out
            (first | subst eo27 | (injection eo27 with f1_ f2_ f3_; have f4_ := f1_.symm; have f5_ := f3_.symm; clear f1_ f2_ f3_; subst f4_; subst f5_))
            refine hK.out _ _ trivial (fun hHeld => ?_)
            clear hK K
            refine norm_ (a' := ?_) ?_ ?_
            rotate_left; focus (show Act.put _ (some 44) _ = _; simp only [Act.put, List.setIfInBounds_toArray, List.set_cons_zero, List.set_cons_succ, i64_w, i32_w, u8_w, u32_w]; rfl; done)
            refine one_ (i := 8) (N := some 45) #[true, true, true, true, true, true, true, true, true, false] rfl rfl (one_of HT_.out (by kernel_rfl)) (by decide) (fun K hK => ?_)
            refine Kd.R_append_rows_step (Kd.int .u8) (w0 := w) w.heap.size (by rfl) (.tmp 37) (.tmp 44) 66 5 (.int .u8 0) 1 rfl Tryz.underlying66 info5 rfl (by decide) (by omega) u3 x3_1 y154 _ _ _ (fun k_ => some k_ ≠ (.slice Ao27 y154.length co27 : Value).ownBlock) (fun _ => False) rfl rfl ?aO ?aR (fun _ _ h => h) (fun _ h => h.elim) ?aF ?aB ?aS ?aL ?_
            (case aR => repeat (first | exact (Kd.R_reads' HO156.out).2.2 | (with_reducible refine Kd.C_alloc ?_ _) | (with_reducible refine Kd.C_drewN ?_ _) | (with_reducible refine Kd.C_drew ?_)))
            (case aB => exact bel)
            (case aF => exact (fun k_ hk => Kd.fresh' (Kd.R_lt (by (with_reducible repeat (first | apply Kd.R_alloc | apply Kd.R_drewN | apply Kd.R_drew)); exact HO156.out)) k_ hk))
            (case aO => exact (by (with_reducible repeat (first | apply Kd.R_alloc | apply Kd.R_drewN | apply Kd.R_drew)); exact Kd.R_mono HO_3.out (fun _ hk => hk.2)))
            (case aS => exact (below_size bel))
            (case aL => have := LMc22.out; omega)
            intro v158 w26 ho hb hg hat
            rw [← Ny157.out] at ho
            have n0_ := Aside0.mk (Kd.R_after (ok := (fun _ => True)) (by (with_reducible repeat (first | apply Kd.R_alloc | apply Kd.R_drewN | apply Kd.R_drew)); exact HO156.out) hg hat); have n1_ := Aside0.mk (hb); have n2_ := Aside0.mk (ho); clear HO156; clear HB; clear HO_3; have HO156 := n0_; have HB := n1_; have HO159 := n2_; clear n0_ n1_ n2_; clear ho hb hg hat
            refine hK.out _ _ trivial (fun hHeld => ?_)
            clear hK K
            refine norm_ (a' := ?_) ?_ ?_
            rotate_left; focus (show Act.put _ (some 45) _ = _; simp only [Act.put, List.setIfInBounds_toArray, List.set_cons_zero, List.set_cons_succ, i64_w, i32_w, u8_w, u32_w]; rfl; done)
            refine pure_ (i := 9) (N := some 3) (v := ?_) (a' := ?_) #[true, true, true, true, true, true, true, true, true, true] rfl rfl (any_of HT_.out (by kernel_rfl)) (fun _ _ _ h => h) (Or.inl ⟨by rfl, ?_⟩) ?_ ?_
            rotate_left; focus (intro w'; go_simp; with_reducible rfl; done)
            rotate_left; focus (simp only [Act.put, List.setIfInBounds_toArray, List.set_cons_zero, List.set_cons_succ, i64_w, i32_w, u8_w, u32_w]; rfl; done)
            refine done_ (done_of HT_.out (by kernel_rfl)) ?_
            try go_wp2
            go_roundg k1
            case measure => have := HK1.out; omega
            case rel => exact ⟨(y157), (wrap64 (x4_1 + 1)), (by first | rfl | (simp; done) | (simp [*]; done)), H', ⟨by have := HK1.out; omega⟩, ⟨by (with_reducible repeat (first | apply Kd.R_alloc | apply Kd.R_drewN | apply Kd.R_drew)); exact Kd.R_mono HO159.out (fun _ hk => trivial)⟩, ⟨by repeat (first | (with_reducible first | exact HB.out | apply below_alloc | apply pw_below_drewN | apply below_drew1) | exact HB.out)⟩⟩
           ·
            rw [if_neg c22] at H
            exact absurd H (by simp)
          ·
           rw [if_neg c20] at H
           exact absurd H (by simp)
         ·
          rw [if_neg c19] at H
          exact absurd H (by simp)
        ·
         rw [if_neg c16] at H
         exact absurd H (by simp)
       ·
        rw [if_neg c15] at H
        exact absurd H (by simp)
      ·
       rw [if_neg c13] at H
       have c13b0 : decide ((bt a0 x4_1) < 32) = false := decide_eq_false c13; clear c13
       by_cases c28 : (bt a0 x4_1) > 126
       ·
        rw [if_pos c28] at H
        have c28b0 : decide (126 < (bt a0 x4_1)) = true := decide_eq_true c28; clear c28
        obtain ⟨ji29, hji29⟩ : ∃ j_ : Int, ((Int.tdiv (bt a0 x4_1) 16) % 256) = j_ := ⟨_, rfl⟩
        replace H : (if 0 ≤ (ji29) then (if (ji29) < 16 then (if 0 ≤ (Int.tmod (bt a0 x4_1) 16) then (if (Int.tmod (bt a0 x4_1) 16) < 16 then ((some (([92, bt (⟨#[48, 49, 50, 51, 52, 53, 54, 55, 56, 57, 97, 98, 99, 100, 101, 102]⟩ : ByteArray) (ji29), bt (⟨#[48, 49, 50, 51, 52, 53, 54, 55, 56, 57, 97, 98, 99, 100, 101, 102]⟩ : ByteArray) (Int.tmod (bt a0 x4_1) 16)] : List Int) : List Int)).bind fun y160 => (if x3_1.length + y160.length < 140737488355328 then (unisonref01_quoted.l0 k1 a0 (x3_1 ++ y160) (wrap64 (x4_1 + 1))) else (none))) else (none)) else (none)) else (none)) else (none)) = some r := by first | (rw [hji29] at H; exact H) | (simp only [hji29] at H ⊢; exact H)
        by_cases c30 : 0 ≤ (ji29)
        ·
         rw [if_pos c30] at H
         have c30b0 : decide (0 ≤ (ji29)) = true := decide_eq_true c30; clear c30
         by_cases c31 : (ji29) < 16
         ·
          rw [if_pos c31] at H
          have c31b0 : decide ((ji29) < 16) = true := decide_eq_true c31; clear c31
          obtain ⟨ji33, hji33⟩ : ∃ j_ : Int, (Int.tmod (bt a0 x4_1) 16) = j_ := ⟨_, rfl⟩
          replace H : (if 0 ≤ (ji33) then (if (ji33) < 16 then ((some (([92, bt (⟨#[48, 49, 50, 51, 52, 53, 54, 55, 56, 57, 97, 98, 99, 100, 101, 102]⟩ : ByteArray) (ji29), bt (⟨#[48, 49, 50, 51, 52, 53, 54, 55, 56, 57, 97, 98, 99, 100, 101, 102]⟩ : ByteArray) (ji33)] : List Int) : List Int)).bind fun y160 => (if x3_1.length + y160.length < 140737488355328 then (unisonref01_quoted.l0 k1 a0 (x3_1 ++ y160) (wrap64 (x4_1 + 1))) else (none))) else (none)) else (none)) = some r := by first | (rw [hji33] at H; exact H) | (simp only [hji33] at H ⊢; exact H)
          by_cases c34 : 0 ≤ (ji33)
          ·
           rw [if_pos c34] at H
           have c34b0 : decide (0 ≤ (ji33)) = true := decide_eq_true c34; clear c34
           by_cases c35 : (ji33) < 16
           ·
            rw [if_pos c35] at H
            have c35b0 : decide ((ji33) < 16) = true := decide_eq_true c35; clear c35
            obtain ⟨y160, hy160⟩ : ∃ y_ : List Int, y_ = (([92, bt (⟨#[48, 49, 50, 51, 52, 53, 54, 55, 56, 57, 97, 98, 99, 100, 101, 102]⟩ : ByteArray) (ji29), bt (⟨#[48, 49, 50, 51, 52, 53, 54, 55, 56, 57, 97, 98, 99, 100, 101, 102]⟩ : ByteArray) (ji33)] : List Int)) := ⟨_, rfl⟩
            replace H : (if x3_1.length + y160.length < 140737488355328 then (unisonref01_quoted.l0 k1 a0 (x3_1 ++ y160) (wrap64 (x4_1 + 1))) else (none)) = some r := by first | (rw [hy160]; with_reducible exact H) | (have H2_ := (Option.bind_some _ _).symm.trans H; rw [hy160]; with_reducible exact H2_) | (have H2_ := (Option.bind_some _ _).symm.trans H; with_reducible exact H2_) | with_reducible exact H | (rw [hy160]; exact H) | exact H
            have Ny160 := Aside0.mk hy160; clear hy160
            by_cases c37 : x3_1.length + y160.length < 140737488355328
            ·
             rw [if_pos c37] at H
             have LMc37 := Aside0.mk c37; clear c37
             obtain ⟨y163, hy163⟩ : ∃ y_ : List Int, y_ = (x3_1 ++ y160) := ⟨_, rfl⟩
             replace H : (unisonref01_quoted.l0 k1 a0 y163 (wrap64 (x4_1 + 1))) = some r := by first | (rw [hy163]; with_reducible exact H) | (have H2_ := (Option.bind_some _ _).symm.trans H; rw [hy163]; with_reducible exact H2_) | (have H2_ := (Option.bind_some _ _).symm.trans H; with_reducible exact H2_) | with_reducible exact H | (rw [hy163]; exact H) | exact H
             have Ny163 := Aside0.mk hy163; clear hy163
             have H' := Aside0.mk H
             clear H; have p6 : 0 ≤ (x4_1 : Int) := of_decide_eq_true (by first | (with_reducible assumption) | assumption); have q6 : x4_1 < (a0.size : Int) := of_decide_eq_true (by first | (with_reducible assumption) | assumption); have hx6 := bt_at a0 x4_1; replace p6 := eq_true p6; replace q6 := eq_true q6
             try go_wp2
             replace HO_3 := Aside0.mk (Kd.R_drew HO_3.out); replace HB := Aside0.mk (below_drew1 HB.out); have p32 : 0 ≤ ((ji29) : Int) := of_decide_eq_true (by first | (with_reducible assumption) | assumption); have q32 : (ji29) < (16 : Int) := of_decide_eq_true (by first | (with_reducible assumption) | assumption); have hx32 := bt_at (⟨#[48, 49, 50, 51, 52, 53, 54, 55, 56, 57, 97, 98, 99, 100, 101, 102]⟩ : ByteArray) (ji29); replace p32 := eq_true p32; replace q32 := eq_true q32; have p36 : 0 ≤ ((ji33) : Int) := of_decide_eq_true (by first | (with_reducible assumption) | assumption); have q36 : (ji33) < (16 : Int) := of_decide_eq_true (by first | (with_reducible assumption) | assumption); have hx36 := bt_at (⟨#[48, 49, 50, 51, 52, 53, 54, 55, 56, 57, 97, 98, 99, 100, 101, 102]⟩ : ByteArray) (ji33); replace p36 := eq_true p36; replace q36 := eq_true q36
             refine start_ (n := 10) (S := fun w' => True) (ds := []) #[false, false, false, false, false, false, false, false, false, false] (by kernel_rfl) rfl rfl trivial (fun hHeld => ?_); refine with_tabW unisonref01_quoted.tab10 unisonref01_quoted.bits10 (fun HT_ HW_ => ?_)
             generalize wr.drew = w38 at HO_3 HB hHeld ⊢
             refine pure_ (i := 0) (N := some 37) (v := ?_) (a' := ?_) #[true, false, false, false, false, false, false, false, false, false] rfl rfl (any_of HT_.out (by kernel_rfl)) (fun _ _ _ h => h) (Or.inl ⟨by rfl, ?_⟩) ?_ ?_
             rotate_left; focus (intro w'; go_simp; with_reducible rfl; done)
             rotate_left; focus (simp only [Act.put, List.setIfInBounds_toArray, List.set_cons_zero, List.set_cons_succ, i64_w, i32_w, u8_w, u32_w]; rfl; done)
             refine pure_ (i := 1) (N := some 38) (v := ?_) (a' := ?_) #[true, true, false, false, false, false, false, false, false, false] rfl rfl (any_of HT_.out (by kernel_rfl)) (fun _ _ _ h => h) (Or.inl ⟨by rfl, ?_⟩) ?_ ?_
             rotate_left; focus (intro w'; go_simp; with_reducible rfl; done)
             rotate_left; focus (simp only [Act.put, List.setIfInBounds_toArray, List.set_cons_zero, List.set_cons_succ, i64_w, i32_w, u8_w, u32_w]; rfl; done)
             refine pure_ (i := 2) (N := some 39) (v := ?_) (a' := ?_) #[true, true, true, false, false, false, false, false, false, false] rfl rfl (any_of HT_.out (by kernel_rfl)) (fun _ _ _ h => h) (Or.inl ⟨by rfl, ?_⟩) ?_ ?_
             rotate_left; focus (intro w'; go_simp; with_reducible rfl; done)
             rotate_left; focus (simp only [Act.put, List.setIfInBounds_toArray, List.set_cons_zero, List.set_cons_succ, i64_w, i32_w, u8_w, u32_w]; rfl; done)
             refine pure_ (i := 4) (N := some 41) (v := ?_) (a' := ?_) #[true, true, true, false, true, false, false, false, false, false] rfl rfl (any_of HT_.out (by kernel_rfl)) (fun _ _ _ h => h) (Or.inl ⟨by rfl, ?_⟩) ?_ ?_
             rotate_left; focus (intro w'; go_simp; with_reducible rfl; done)
             rotate_left; focus (simp only [Act.put, List.setIfInBounds_toArray, List.set_cons_zero, List.set_cons_succ, i64_w, i32_w, u8_w, u32_w]; rfl; done)
             refine pure_ (i := 5) (N := some 42) (v := ?_) (a' := ?_) #[true, true, true, false, true, true, false, false, false, false] rfl rfl (any_of HT_.out (by kernel_rfl)) (fun _ _ _ h => h) (Or.inl ⟨by rfl, ?_⟩) ?_ ?_
             rotate_left; focus (intro w'; go_simp; with_reducible rfl; done)
             rotate_left; focus (simp only [Act.put, List.setIfInBounds_toArray, List.set_cons_zero, List.set_cons_succ, i64_w, i32_w, u8_w, u32_w]; rfl; done)
             refine take_ (i := 3) (N := some 40) (v := ?_) (a' := ?_) #[true, true, true, true, true, true, false, false, false, false] rfl rfl (take_ofW HT_.out HW_.out (by kernel_rfl)) (fun _ _ _ h => h) (Or.inl ⟨by rfl, ?_⟩) hHeld ?_ ?_
             rotate_left; focus (intro w' _; go_simp; with_reducible rfl; done)
             rotate_left; focus (simp only [Act.put, List.setIfInBounds_toArray, List.set_cons_zero, List.set_cons_succ, i64_w, i32_w, u8_w, u32_w]; rfl; done)
             refine take_ (i := 6) (N := some 43) (v := ?_) (a' := ?_) #[true, true, true, true, true, true, true, false, false, false] rfl rfl (take_ofW HT_.out HW_.out (by kernel_rfl)) (fun _ _ _ h => h) (Or.inl ⟨by rfl, ?_⟩) hHeld ?_ ?_
             rotate_left; focus (intro w' _; go_simp; with_reducible rfl; done)
             rotate_left; focus (simp only [Act.put, List.setIfInBounds_toArray, List.set_cons_zero, List.set_cons_succ, i64_w, i32_w, u8_w, u32_w]; rfl; done)
             refine one_ (i := 7) (N := some 44) #[true, true, true, true, true, true, true, true, false, false] rfl rfl (one_of HT_.out (by kernel_rfl)) (by decide) (fun K hK => ?_)
             refine Kd.R_lit_step (Kd.int .u8) _ 5 ?hg (N := 44) ?hd (xs := ([92, bt (⟨#[48, 49, 50, 51, 52, 53, 54, 55, 56, 57, 97, 98, 99, 100, 101, 102]⟩ : ByteArray) (ji29), bt (⟨#[48, 49, 50, 51, 52, 53, 54, 55, 56, 57, 97, 98, 99, 100, 101, 102]⟩ : ByteArray) (ji33)] : List Int)) (inner := [.int .u8 92, .int .u8 (bt (⟨#[48, 49, 50, 51, 52, 53, 54, 55, 56, 57, 97, 98, 99, 100, 101, 102]⟩ : ByteArray) (ji29)), .int .u8 (bt (⟨#[48, 49, 50, 51, 52, 53, 54, 55, 56, 57, 97, 98, 99, 100, 101, 102]⟩ : ByteArray) (ji33))]) (ok := fun _ => True) (okp := fun _ => True) ?hr ?hp (fun _ hk => hk) trivial (Below.refl _ _) (Nat.le_refl _) (by simp) ?_; (case hd => rfl); (case hg => rfl); (case hr => first | (go_simp; done) | (go_simp; rfl)); (case hp => exact (Reps.one (show Kd.M (Kd.int .u8) _ _ _ 92 [.int .u8 92] from rfl) (Reps.one (show Kd.M (Kd.int .u8) _ _ _ (bt (⟨#[48, 49, 50, 51, 52, 53, 54, 55, 56, 57, 97, 98, 99, 100, 101, 102]⟩ : ByteArray) (ji29)) [.int .u8 (bt (⟨#[48, 49, 50, 51, 52, 53, 54, 55, 56, 57, 97, 98, 99, 100, 101, 102]⟩ : ByteArray) (ji29))] from rfl) (Reps.one (show Kd.M (Kd.int .u8) _ _ _ (bt (⟨#[48, 49, 50, 51, 52, 53, 54, 55, 56, 57, 97, 98, 99, 100, 101, 102]⟩ : ByteArray) (ji33)) [.int .u8 (bt (⟨#[48, 49, 50, 51, 52, 53, 54, 55, 56, 57, 97, 98, 99, 100, 101, 102]⟩ : ByteArray) (ji33))] from rfl) (Reps.none _ _)))))
             intro v161 w39 ho40 hb hg_ hnew_
             clear hg_ hnew_
             (first | rw [← Ny160.out] at ho40 | (simp only [Int.reduceToNat] at ho40; rw [← Ny160.out] at ho40))
             have HO162 := Aside0.mk (Kd.R_lower (Kd.R_new' ho40 (Kd.R_lt (by (with_reducible repeat (first | apply Kd.R_alloc | apply Kd.R_drewN | apply Kd.R_drew)); exact HO_3.out))) (below_size bel)); replace HO_3 := Aside0.mk (Kd.R_elder' (by (with_reducible repeat (first | apply Kd.R_alloc | apply Kd.R_drewN | apply Kd.R_drew)); exact HO_3.out) (Kd.R_base ho40) hb); replace HB := bs hb; clear hb ho40
             obtain ⟨Ao42, co42, eo42⟩ := Kd.R_slice HO162.out
             (first | subst eo42 | (injection eo42 with f1_ f2_ f3_; have f4_ := f1_.symm; have f5_ := f3_.symm; clear f1_ f2_ f3_; subst f4_; subst f5_))
             refine hK.out _ _ trivial (fun hHeld => ?_)
             clear hK K
             refine norm_ (a' := ?_) ?_ ?_
             rotate_left; focus (show Act.put _ (some 44) _ = _; simp only [Act.put, List.setIfInBounds_toArray, List.set_cons_zero, List.set_cons_succ, i64_w, i32_w, u8_w, u32_w]; rfl; done)
             refine one_ (i := 8) (N := some 45) #[true, true, true, true, true, true, true, true, true, false] rfl rfl (one_of HT_.out (by kernel_rfl)) (by decide) (fun K hK => ?_)
             refine Kd.R_append_rows_step (Kd.int .u8) (w0 := w) w.heap.size (by rfl) (.tmp 37) (.tmp 44) 66 5 (.int .u8 0) 1 rfl Tryz.underlying66 info5 rfl (by decide) (by omega) u3 x3_1 y160 _ _ _ (fun k_ => some k_ ≠ (.slice Ao42 y160.length co42 : Value).ownBlock) (fun _ => False) rfl rfl ?aO ?aR (fun _ _ h => h) (fun _ h => h.elim) ?aF ?aB ?aS ?aL ?_
             (case aR => repeat (first | exact (Kd.R_reads' HO162.out).2.2 | (with_reducible refine Kd.C_alloc ?_ _) | (with_reducible refine Kd.C_drewN ?_ _) | (with_reducible refine Kd.C_drew ?_)))
             (case aB => exact bel)
             (case aF => exact (fun k_ hk => Kd.fresh' (Kd.R_lt (by (with_reducible repeat (first | apply Kd.R_alloc | apply Kd.R_drewN | apply Kd.R_drew)); exact HO162.out)) k_ hk))
             (case aO => exact (by (with_reducible repeat (first | apply Kd.R_alloc | apply Kd.R_drewN | apply Kd.R_drew)); exact Kd.R_mono HO_3.out (fun _ hk => hk.2)))
             (case aS => exact (below_size bel))
             (case aL => have := LMc37.out; omega)
             intro v164 w41 ho hb hg hat
             rw [← Ny163.out] at ho
             have n0_ := Aside0.mk (Kd.R_after (ok := (fun _ => True)) (by (with_reducible repeat (first | apply Kd.R_alloc | apply Kd.R_drewN | apply Kd.R_drew)); exact HO162.out) hg hat); have n1_ := Aside0.mk (hb); have n2_ := Aside0.mk (ho); clear HO162; clear HB; clear HO_3; have HO162 := n0_; have HB := n1_; have HO165 := n2_; clear n0_ n1_ n2_; clear ho hb hg hat
             refine hK.out _ _ trivial (fun hHeld => ?_)
             clear hK K
             refine norm_ (a' := ?_) ?_ ?_
             rotate_left; focus (show Act.put _ (some 45) _ = _; simp only [Act.put, List.setIfInBounds_toArray, List.set_cons_zero, List.set_cons_succ, i64_w, i32_w, u8_w, u32_w]; rfl; done)
             refine pure_ (i := 9) (N := some 3) (v := ?_) (a' := ?_) #[true, true, true, true, true, true, true, true, true, true] rfl rfl (any_of HT_.out (by kernel_rfl)) (fun _ _ _ h => h) (Or.inl ⟨by rfl, ?_⟩) ?_ ?_
             rotate_left; focus (intro w'; go_simp; with_reducible rfl; done)
             rotate_left; focus (simp only [Act.put, List.setIfInBounds_toArray, List.set_cons_zero, List.set_cons_succ, i64_w, i32_w, u8_w, u32_w]; rfl; done)
             refine done_ (done_of HT_.out (by kernel_rfl)) ?_
             try go_wp2
             go_roundg k1
             case measure => have := HK1.out; omega
             case rel => exact ⟨(y163), (wrap64 (x4_1 + 1)), (by first | rfl | (simp; done) | (simp [*]; done)), H', ⟨by have := HK1.out; omega⟩, ⟨by (with_reducible repeat (first | apply Kd.R_alloc | apply Kd.R_drewN | apply Kd.R_drew)); exact Kd.R_mono HO165.out (fun _ hk => trivial)⟩, ⟨by repeat (first | (with_reducible first | exact HB.out | apply below_alloc | apply pw_below_drewN | apply below_drew1) | exact HB.out)⟩⟩
            ·
             rw [if_neg c37] at H
             exact absurd H (by simp)
           ·
            rw [if_neg c35] at H
            exact absurd H (by simp)
          ·
           rw [if_neg c34] at H
           exact absurd H (by simp)
         ·
          rw [if_neg c31] at H
          exact absurd H (by simp)
        ·
         rw [if_neg c30] at H
         exact absurd H (by simp)
       ·
        rw [if_neg c28] at H
        have c28b0 : decide (126 < (bt a0 x4_1)) = false := decide_eq_false c28; clear c28
        by_cases c43 : (bt a0 x4_1) = 92
        ·
         rw [if_pos c43] at H
         have c43b0 : ((bt a0 x4_1) == 92) = true := beq_iff_eq.mpr c43; have c43b1 : ((bt a0 x4_1) != 92) = false := bne_eq_false_iff_eq.mpr c43; clear c43
         obtain ⟨ji44, hji44⟩ : ∃ j_ : Int, ((Int.tdiv (bt a0 x4_1) 16) % 256) = j_ := ⟨_, rfl⟩
         replace H : (if 0 ≤ (ji44) then (if (ji44) < 16 then (if 0 ≤ (Int.tmod (bt a0 x4_1) 16) then (if (Int.tmod (bt a0 x4_1) 16) < 16 then ((some (([92, bt (⟨#[48, 49, 50, 51, 52, 53, 54, 55, 56, 57, 97, 98, 99, 100, 101, 102]⟩ : ByteArray) (ji44), bt (⟨#[48, 49, 50, 51, 52, 53, 54, 55, 56, 57, 97, 98, 99, 100, 101, 102]⟩ : ByteArray) (Int.tmod (bt a0 x4_1) 16)] : List Int) : List Int)).bind fun y166 => (if x3_1.length + y166.length < 140737488355328 then (unisonref01_quoted.l0 k1 a0 (x3_1 ++ y166) (wrap64 (x4_1 + 1))) else (none))) else (none)) else (none)) else (none)) else (none)) = some r := by first | (rw [hji44] at H; exact H) | (simp only [hji44] at H ⊢; exact H)
         by_cases c45 : 0 ≤ (ji44)
         ·
          rw [if_pos c45] at H
          have c45b0 : decide (0 ≤ (ji44)) = true := decide_eq_true c45; clear c45
          by_cases c46 : (ji44) < 16
          ·
           rw [if_pos c46] at H
           have c46b0 : decide ((ji44) < 16) = true := decide_eq_true c46; clear c46
           obtain ⟨ji48, hji48⟩ : ∃ j_ : Int, (Int.tmod (bt a0 x4_1) 16) = j_ := ⟨_, rfl⟩
           replace H : (if 0 ≤ (ji48) then (if (ji48) < 16 then ((some (([92, bt (⟨#[48, 49, 50, 51, 52, 53, 54, 55, 56, 57, 97, 98, 99, 100, 101, 102]⟩ : ByteArray) (ji44), bt (⟨#[48, 49, 50, 51, 52, 53, 54, 55, 56, 57, 97, 98, 99, 100, 101, 102]⟩ : ByteArray) (ji48)] : List Int) : List Int)).bind fun y166 => (if x3_1.length + y166.length < 140737488355328 then (unisonref01_quoted.l0 k1 a0 (x3_1 ++ y166) (wrap64 (x4_1 + 1))) else (none))) else (none)) else (none)) = some r := by first | (rw [hji48] at H; exact H) | (simp only [hji48] at H ⊢; exact H)
           by_cases c49 : 0 ≤ (ji48)
           ·
            rw [if_pos c49] at H
            have c49b0 : decide (0 ≤ (ji48)) = true := decide_eq_true c49; clear c49
            by_cases c50 : (ji48) < 16
            ·
             rw [if_pos c50] at H
             have c50b0 : decide ((ji48) < 16) = true := decide_eq_true c50; clear c50
             obtain ⟨y166, hy166⟩ : ∃ y_ : List Int, y_ = (([92, bt (⟨#[48, 49, 50, 51, 52, 53, 54, 55, 56, 57, 97, 98, 99, 100, 101, 102]⟩ : ByteArray) (ji44), bt (⟨#[48, 49, 50, 51, 52, 53, 54, 55, 56, 57, 97, 98, 99, 100, 101, 102]⟩ : ByteArray) (ji48)] : List Int)) := ⟨_, rfl⟩
             replace H : (if x3_1.length + y166.length < 140737488355328 then (unisonref01_quoted.l0 k1 a0 (x3_1 ++ y166) (wrap64 (x4_1 + 1))) else (none)) = some r := by first | (rw [hy166]; with_reducible exact H) | (have H2_ := (Option.bind_some _ _).symm.trans H; rw [hy166]; with_reducible exact H2_) | (have H2_ := (Option.bind_some _ _).symm.trans H; with_reducible exact H2_) | with_reducible exact H | (rw [hy166]; exact H) | exact H
             have Ny166 := Aside0.mk hy166; clear hy166
             by_cases c52 : x3_1.length + y166.length < 140737488355328
             ·
              rw [if_pos c52] at H
              have LMc52 := Aside0.mk c52; clear c52
              obtain ⟨y169, hy169⟩ : ∃ y_ : List Int, y_ = (x3_1 ++ y166) := ⟨_, rfl⟩
              replace H : (unisonref01_quoted.l0 k1 a0 y169 (wrap64 (x4_1 + 1))) = some r := by first | (rw [hy169]; with_reducible exact H) | (have H2_ := (Option.bind_some _ _).symm.trans H; rw [hy169]; with_reducible exact H2_) | (have H2_ := (Option.bind_some _ _).symm.trans H; with_reducible exact H2_) | with_reducible exact H | (rw [hy169]; exact H) | exact H
              have Ny169 := Aside0.mk hy169; clear hy169
              have H' := Aside0.mk H
              clear H; have p6 : 0 ≤ (x4_1 : Int) := of_decide_eq_true (by first | (with_reducible assumption) | assumption); have q6 : x4_1 < (a0.size : Int) := of_decide_eq_true (by first | (with_reducible assumption) | assumption); have hx6 := bt_at a0 x4_1; replace p6 := eq_true p6; replace q6 := eq_true q6
              try go_wp2
              replace HO_3 := Aside0.mk (Kd.R_drew HO_3.out); replace HB := Aside0.mk (below_drew1 HB.out); have p47 : 0 ≤ ((ji44) : Int) := of_decide_eq_true (by first | (with_reducible assumption) | assumption); have q47 : (ji44) < (16 : Int) := of_decide_eq_true (by first | (with_reducible assumption) | assumption); have hx47 := bt_at (⟨#[48, 49, 50, 51, 52, 53, 54, 55, 56, 57, 97, 98, 99, 100, 101, 102]⟩ : ByteArray) (ji44); replace p47 := eq_true p47; replace q47 := eq_true q47; have p51 : 0 ≤ ((ji48) : Int) := of_decide_eq_true (by first | (with_reducible assumption) | assumption); have q51 : (ji48) < (16 : Int) := of_decide_eq_true (by first | (with_reducible assumption) | assumption); have hx51 := bt_at (⟨#[48, 49, 50, 51, 52, 53, 54, 55, 56, 57, 97, 98, 99, 100, 101, 102]⟩ : ByteArray) (ji48); replace p51 := eq_true p51; replace q51 := eq_true q51
              refine start_ (n := 10) (S := fun w' => True) (ds := []) #[false, false, false, false, false, false, false, false, false, false] (by kernel_rfl) rfl rfl trivial (fun hHeld => ?_); refine with_tabW unisonref01_quoted.tab10 unisonref01_quoted.bits10 (fun HT_ HW_ => ?_)
              generalize wr.drew = w53 at HO_3 HB hHeld ⊢
              refine pure_ (i := 0) (N := some 37) (v := ?_) (a' := ?_) #[true, false, false, false, false, false, false, false, false, false] rfl rfl (any_of HT_.out (by kernel_rfl)) (fun _ _ _ h => h) (Or.inl ⟨by rfl, ?_⟩) ?_ ?_
              rotate_left; focus (intro w'; go_simp; with_reducible rfl; done)
              rotate_left; focus (simp only [Act.put, List.setIfInBounds_toArray, List.set_cons_zero, List.set_cons_succ, i64_w, i32_w, u8_w, u32_w]; rfl; done)
              refine pure_ (i := 1) (N := some 38) (v := ?_) (a' := ?_) #[true, true, false, false, false, false, false, false, false, false] rfl rfl (any_of HT_.out (by kernel_rfl)) (fun _ _ _ h => h) (Or.inl ⟨by rfl, ?_⟩) ?_ ?_
              rotate_left; focus (intro w'; go_simp; with_reducible rfl; done)
              rotate_left; focus (simp only [Act.put, List.setIfInBounds_toArray, List.set_cons_zero, List.set_cons_succ, i64_w, i32_w, u8_w, u32_w]; rfl; done)
              refine pure_ (i := 2) (N := some 39) (v := ?_) (a' := ?_) #[true, true, true, false, false, false, false, false, false, false] rfl rfl (any_of HT_.out (by kernel_rfl)) (fun _ _ _ h => h) (Or.inl ⟨by rfl, ?_⟩) ?_ ?_
              rotate_left; focus (intro w'; go_simp; with_reducible rfl; done)
              rotate_left; focus (simp only [Act.put, List.setIfInBounds_toArray, List.set_cons_zero, List.set_cons_succ, i64_w, i32_w, u8_w, u32_w]; rfl; done)
              refine pure_ (i := 4) (N := some 41) (v := ?_) (a' := ?_) #[true, true, true, false, true, false, false, false, false, false] rfl rfl (any_of HT_.out (by kernel_rfl)) (fun _ _ _ h => h) (Or.inl ⟨by rfl, ?_⟩) ?_ ?_
              rotate_left; focus (intro w'; go_simp; with_reducible rfl; done)
              rotate_left; focus (simp only [Act.put, List.setIfInBounds_toArray, List.set_cons_zero, List.set_cons_succ, i64_w, i32_w, u8_w, u32_w]; rfl; done)
              refine pure_ (i := 5) (N := some 42) (v := ?_) (a' := ?_) #[true, true, true, false, true, true, false, false, false, false] rfl rfl (any_of HT_.out (by kernel_rfl)) (fun _ _ _ h => h) (Or.inl ⟨by rfl, ?_⟩) ?_ ?_
              rotate_left; focus (intro w'; go_simp; with_reducible rfl; done)
              rotate_left; focus (simp only [Act.put, List.setIfInBounds_toArray, List.set_cons_zero, List.set_cons_succ, i64_w, i32_w, u8_w, u32_w]; rfl; done)
              refine take_ (i := 3) (N := some 40) (v := ?_) (a' := ?_) #[true, true, true, true, true, true, false, false, false, false] rfl rfl (take_ofW HT_.out HW_.out (by kernel_rfl)) (fun _ _ _ h => h) (Or.inl ⟨by rfl, ?_⟩) hHeld ?_ ?_
              rotate_left; focus (intro w' _; go_simp; with_reducible rfl; done)
              rotate_left; focus (simp only [Act.put, List.setIfInBounds_toArray, List.set_cons_zero, List.set_cons_succ, i64_w, i32_w, u8_w, u32_w]; rfl; done)
              refine take_ (i := 6) (N := some 43) (v := ?_) (a' := ?_) #[true, true, true, true, true, true, true, false, false, false] rfl rfl (take_ofW HT_.out HW_.out (by kernel_rfl)) (fun _ _ _ h => h) (Or.inl ⟨by rfl, ?_⟩) hHeld ?_ ?_
              rotate_left; focus (intro w' _; go_simp; with_reducible rfl; done)
              rotate_left; focus (simp only [Act.put, List.setIfInBounds_toArray, List.set_cons_zero, List.set_cons_succ, i64_w, i32_w, u8_w, u32_w]; rfl; done)
              refine one_ (i := 7) (N := some 44) #[true, true, true, true, true, true, true, true, false, false] rfl rfl (one_of HT_.out (by kernel_rfl)) (by decide) (fun K hK => ?_)
              refine Kd.R_lit_step (Kd.int .u8) _ 5 ?hg (N := 44) ?hd (xs := ([92, bt (⟨#[48, 49, 50, 51, 52, 53, 54, 55, 56, 57, 97, 98, 99, 100, 101, 102]⟩ : ByteArray) (ji44), bt (⟨#[48, 49, 50, 51, 52, 53, 54, 55, 56, 57, 97, 98, 99, 100, 101, 102]⟩ : ByteArray) (ji48)] : List Int)) (inner := [.int .u8 92, .int .u8 (bt (⟨#[48, 49, 50, 51, 52, 53, 54, 55, 56, 57, 97, 98, 99, 100, 101, 102]⟩ : ByteArray) (ji44)), .int .u8 (bt (⟨#[48, 49, 50, 51, 52, 53, 54, 55, 56, 57, 97, 98, 99, 100, 101, 102]⟩ : ByteArray) (ji48))]) (ok := fun _ => True) (okp := fun _ => True) ?hr ?hp (fun _ hk => hk) trivial (Below.refl _ _) (Nat.le_refl _) (by simp) ?_; (case hd => rfl); (case hg => rfl); (case hr => first | (go_simp; done) | (go_simp; rfl)); (case hp => exact (Reps.one (show Kd.M (Kd.int .u8) _ _ _ 92 [.int .u8 92] from rfl) (Reps.one (show Kd.M (Kd.int .u8) _ _ _ (bt (⟨#[48, 49, 50, 51, 52, 53, 54, 55, 56, 57, 97, 98, 99, 100, 101, 102]⟩ : ByteArray) (ji44)) [.int .u8 (bt (⟨#[48, 49, 50, 51, 52, 53, 54, 55, 56, 57, 97, 98, 99, 100, 101, 102]⟩ : ByteArray) (ji44))] from rfl) (Reps.one (show Kd.M (Kd.int .u8) _ _ _ (bt (⟨#[48, 49, 50, 51, 52, 53, 54, 55, 56, 57, 97, 98, 99, 100, 101, 102]⟩ : ByteArray) (ji48)) [.int .u8 (bt (⟨#[48, 49, 50, 51, 52, 53, 54, 55, 56, 57, 97, 98, 99, 100, 101, 102]⟩ : ByteArray) (ji48))] from rfl) (Reps.none _ _)))))
              intro v167 w54 ho55 hb hg_ hnew_
              clear hg_ hnew_
              (first | rw [← Ny166.out] at ho55 | (simp only [Int.reduceToNat] at ho55; rw [← Ny166.out] at ho55))
              have HO168 := Aside0.mk (Kd.R_lower (Kd.R_new' ho55 (Kd.R_lt (by (with_reducible repeat (first | apply Kd.R_alloc | apply Kd.R_drewN | apply Kd.R_drew)); exact HO_3.out))) (below_size bel)); replace HO_3 := Aside0.mk (Kd.R_elder' (by (with_reducible repeat (first | apply Kd.R_alloc | apply Kd.R_drewN | apply Kd.R_drew)); exact HO_3.out) (Kd.R_base ho55) hb); replace HB := bs hb; clear hb ho55
              obtain ⟨Ao57, co57, eo57⟩ := Kd.R_slice HO168.out
              (first | subst eo57 | (injection eo57 with f1_ f2_ f3_; have f4_ := f1_.symm; have f5_ := f3_.symm; clear f1_ f2_ f3_; subst f4_; subst f5_))
              refine hK.out _ _ trivial (fun hHeld => ?_)
              clear hK K
              refine norm_ (a' := ?_) ?_ ?_
              rotate_left; focus (show Act.put _ (some 44) _ = _; simp only [Act.put, List.setIfInBounds_toArray, List.set_cons_zero, List.set_cons_succ, i64_w, i32_w, u8_w, u32_w]; rfl; done)
              refine one_ (i := 8) (N := some 45) #[true, true, true, true, true, true, true, true, true, false] rfl rfl (one_of HT_.out (by kernel_rfl)) (by decide) (fun K hK => ?_)
              refine Kd.R_append_rows_step (Kd.int .u8) (w0 := w) w.heap.size (by rfl) (.tmp 37) (.tmp 44) 66 5 (.int .u8 0) 1 rfl Tryz.underlying66 info5 rfl (by decide) (by omega) u3 x3_1 y166 _ _ _ (fun k_ => some k_ ≠ (.slice Ao57 y166.length co57 : Value).ownBlock) (fun _ => False) rfl rfl ?aO ?aR (fun _ _ h => h) (fun _ h => h.elim) ?aF ?aB ?aS ?aL ?_
              (case aR => repeat (first | exact (Kd.R_reads' HO168.out).2.2 | (with_reducible refine Kd.C_alloc ?_ _) | (with_reducible refine Kd.C_drewN ?_ _) | (with_reducible refine Kd.C_drew ?_)))
              (case aB => exact bel)
              (case aF => exact (fun k_ hk => Kd.fresh' (Kd.R_lt (by (with_reducible repeat (first | apply Kd.R_alloc | apply Kd.R_drewN | apply Kd.R_drew)); exact HO168.out)) k_ hk))
              (case aO => exact (by (with_reducible repeat (first | apply Kd.R_alloc | apply Kd.R_drewN | apply Kd.R_drew)); exact Kd.R_mono HO_3.out (fun _ hk => hk.2)))
              (case aS => exact (below_size bel))
              (case aL => have := LMc52.out; omega)
              intro v170 w56 ho hb hg hat
              rw [← Ny169.out] at ho
              have n0_ := Aside0.mk (Kd.R_after (ok := (fun _ => True)) (by (with_reducible repeat (first | apply Kd.R_alloc | apply Kd.R_drewN | apply Kd.R_drew)); exact HO168.out) hg hat); have n1_ := Aside0.mk (hb); have n2_ := Aside0.mk (ho); clear HO168; clear HB; clear HO_3; have HO168 := n0_; have HB := n1_; have HO171 := n2_; clear n0_ n1_ n2_; clear ho hb hg hat
              refine hK.out _ _ trivial (fun hHeld => ?_)
              clear hK K
              refine norm_ (a' := ?_) ?_ ?_
              rotate_left; focus (show Act.put _ (some 45) _ = _; simp only [Act.put, List.setIfInBounds_toArray, List.set_cons_zero, List.set_cons_succ, i64_w, i32_w, u8_w, u32_w]; rfl; done)
              refine pure_ (i := 9) (N := some 3) (v := ?_) (a' := ?_) #[true, true, true, true, true, true, true, true, true, true] rfl rfl (any_of HT_.out (by kernel_rfl)) (fun _ _ _ h => h) (Or.inl ⟨by rfl, ?_⟩) ?_ ?_
              rotate_left; focus (intro w'; go_simp; with_reducible rfl; done)
              rotate_left; focus (simp only [Act.put, List.setIfInBounds_toArray, List.set_cons_zero, List.set_cons_succ, i64_w, i32_w, u8_w, u32_w]; rfl; done)
              refine done_ (done_of HT_.out (by kernel_rfl)) ?_
              try go_wp2
              go_roundg k1
              case measure => have := HK1.out; omega
              case rel => exact ⟨(y169), (wrap64 (x4_1 + 1)), (by first | rfl | (simp; done) | (simp [*]; done)), H', ⟨by have := HK1.out; omega⟩, ⟨by (with_reducible repeat (first | apply Kd.R_alloc | apply Kd.R_drewN | apply Kd.R_drew)); exact Kd.R_mono HO171.out (fun _ hk => trivial)⟩, ⟨by repeat (first | (with_reducible first | exact HB.out | apply below_alloc | apply pw_below_drewN | apply below_drew1) | exact HB.out)⟩⟩
             ·
              rw [if_neg c52] at H
              exact absurd H (by simp)
            ·
             rw [if_neg c50] at H
             exact absurd H (by simp)
           ·
            rw [if_neg c49] at H
            exact absurd H (by simp)
          ·
           rw [if_neg c46] at H
           exact absurd H (by simp)
         ·
          rw [if_neg c45] at H
          exact absurd H (by simp)
        ·
         rw [if_neg c43] at H
         have c43b0 : ((bt a0 x4_1) == 92) = false := beq_eq_false_iff_ne.mpr c43; have c43b1 : ((bt a0 x4_1) != 92) = true := bne_iff_ne.mpr c43
         by_cases c58 : x3_1.length < 140737488355328
         ·
          rw [if_pos c58] at H
          have LMc58 := Aside0.mk c58; clear c58
          obtain ⟨y172, hy172⟩ : ∃ y_ : List Int, y_ = (x3_1 ++ [bt a0 x4_1]) := ⟨_, rfl⟩
          replace H : (unisonref01_quoted.l0 k1 a0 y172 (wrap64 (x4_1 + 1))) = some r := by first | (rw [hy172]; with_reducible exact H) | (have H2_ := (Option.bind_some _ _).symm.trans H; rw [hy172]; with_reducible exact H2_) | (have H2_ := (Option.bind_some _ _).symm.trans H; with_reducible exact H2_) | with_reducible exact H | (rw [hy172]; exact H) | exact H
          have Ny172 := Aside0.mk hy172; clear hy172
          have H' := Aside0.mk H
          clear H; have p6 : 0 ≤ (x4_1 : Int) := of_decide_eq_true (by first | (with_reducible assumption) | assumption); have q6 : x4_1 < (a0.size : Int) := of_decide_eq_true (by first | (with_reducible assumption) | assumption); have hx6 := bt_at a0 x4_1; replace p6 := eq_true p6; replace q6 := eq_true q6
          go_wp2_with (first | ((with_reducible refine gate_builtin (b := .append) (xs := #[.tmp 16, .tmp 18]) rfl ?_); at_builtin; refine Kd.R_append (Kd.int .u8) (w0 := w) w.heap.size rfl (.tmp 16) (.tmp 18) 66 5 (.int .u8 0) 1 rfl Tryz.underlying66 info5 rfl (by decide) (by omega) u3 x3_1 (bt a0 x4_1) [.int .u8 (bt a0 x4_1)] (fun _ => True) (fun _ => False) rfl rfl ?aP (fun _ hk => hk.elim) ?aF ?aO ?aB ?aS ?aL ?_; (case aP => exact rfl); (case aB => exact bel); (case aF => exact (fun _ _ => trivial)); (case aO => exact (by (with_reducible repeat (first | apply Kd.R_alloc | apply Kd.R_drewN | apply Kd.R_drew)); exact HO_3.out)); (case aS => exact (below_size bel)); (case aL => have := LMc58.out; omega); intro v173 w59 ho hb hg hat; rw [← Ny172.out] at ho; have n0_ := Aside0.mk (hb); have n1_ := Aside0.mk (ho); clear HB; clear HO_3; have HB := n0_; have HO174 := n1_; clear n0_ n1_; clear ho hb hg hat))
          go_roundg k1
          case measure => have := HK1.out; omega
          case rel => exact ⟨(y172), (wrap64 (x4_1 + 1)), (by first | rfl | (simp; done) | (simp [*]; done)), H', ⟨by have := HK1.out; omega⟩, ⟨by (with_reducible repeat (first | apply Kd.R_alloc | apply Kd.R_drewN | apply Kd.R_drew)); exact HO174.out⟩, ⟨by repeat (first | (with_reducible first | exact HB.out | apply below_alloc | apply pw_below_drewN | apply below_drew1) | exact HB.out)⟩⟩
         ·
          rw [if_neg c58] at H
          exact absurd H (by simp)
    ·
     rw [if_neg c5] at H
     exact absurd H (by simp)
   ·
    rw [if_neg c4] at H
    have c4b0 : decide (x4_1 < (a0.size : Int)) = false := decide_eq_false c4; clear c4
    by_cases c60 : x3_1.length < 140737488355328
    ·
     rw [if_pos c60] at H
     have LMc60 := Aside0.mk c60; clear c60
     obtain ⟨y145, hy145⟩ : ∃ y_ : List Int, y_ = (x3_1 ++ [39]) := ⟨_, rfl⟩
     replace H : (some (strOfNums y145)) = some r := by first | (rw [hy145]; with_reducible exact H) | (have H2_ := (Option.bind_some _ _).symm.trans H; rw [hy145]; with_reducible exact H2_) | (have H2_ := (Option.bind_some _ _).symm.trans H; with_reducible exact H2_) | with_reducible exact H | (rw [hy145]; exact H) | exact H
     have Ny145 := Aside0.mk hy145; clear hy145
     obtain rfl := Option.some.inj H
     go_wp2_with (first | ((with_reducible refine gate_builtin (b := .append) (xs := #[.tmp 46, .tmp 47]) rfl ?_); at_builtin; refine Kd.R_append (Kd.int .u8) (w0 := w) w.heap.size rfl (.tmp 46) (.tmp 47) 66 5 (.int .u8 0) 1 rfl Tryz.underlying66 info5 rfl (by decide) (by omega) u3 x3_1 39 [.int .u8 39] (fun _ => True) (fun _ => False) rfl rfl ?aP (fun _ hk => hk.elim) ?aF ?aO ?aB ?aS ?aL ?_; (case aP => exact rfl); (case aB => exact bel); (case aF => exact (fun _ _ => trivial)); (case aO => exact (by (with_reducible repeat (first | apply Kd.R_alloc | apply Kd.R_drewN | apply Kd.R_drew)); exact HO_3.out)); (case aS => exact (below_size bel)); (case aL => have := LMc60.out; omega); intro v146 w61 ho hb hg hat; rw [← Ny145.out] at ho; have n0_ := Aside0.mk (hb); have n1_ := Aside0.mk (ho); clear HB; clear HO_3; have HB := n0_; have HO147 := n1_; clear n0_ n1_; clear ho hb hg hat; have hcv62 := own_string (P := Tryz.prog) Tryz.underlying66 Tryz.underlying5 Tryz.underlying9 (Kd.own_of_R HO147.out)))
     go_ret
     exact ⟨by first | rfl | (simp [errW_none, errW_some] <;> rfl) | (simp [*, errW_none, errW_some] <;> rfl), by repeat (first | (with_reducible first | exact HB.out | apply below_alloc | apply pw_below_drewN | apply below_drew1) | exact HB.out)⟩
    ·
     rw [if_neg c60] at H
     exact absurd H (by simp)
end Go.Proofs.YtllehkjebikgpaaGreatDoor.PA
end
section
namespace Go.Proofs.YtllehkjebikgpaaGreatDoor.PA
open Go.RowKit Go.Proofs.YtllehkjebikgpaaGreatDoorW.PrintWords Go.Proofs.YtllehkjebikgpaaGreatDoorW.PrintLast Go.Proofs.YtllehkjebikgpaaGreatDoorW.PrintMore Go.Proofs.YtllehkjebikgpaaGreatDoorX
attribute [local go_sem] max2_int min2_int max_two min_two max_three min_three max_four min_four   -- for this text's walks alone
set_option linter.unusedVariables false
set_option linter.unusedSimpArgs false

/-! ### unisonref01_Print: function 39 -/
def unisonref01_Print.f (k : Nat) (a0_0 : Int) (a0_1 : Int) (a0_2 : ByteArray) : Option (ByteArray × Int) := (unisonref01_Right.f a0_0 a0_1 a0_2).bind fun t176 => (if t176 = true then (if a0_0 = 1 then ((unisonref01_Digits.f k a0_1).bind fun t177 => (some (t177, 0))) else (if a0_0 = 2 then (if a0_1 = 1 then (some ((⟨#[84, 82, 85, 69]⟩ : ByteArray), 0)) else (some ((⟨#[70, 65, 76, 83, 69]⟩ : ByteArray), 0))) else (if a0_0 = 3 then ((unisonref01_quoted.f k a0_2).bind fun t178 => (some (t178, 0))) else (some ((⟨#[78, 85, 76, 76]⟩ : ByteArray), 0))))) else (some ((⟨#[]⟩ : ByteArray), 10)))
theorem unisonref01_Print.mono : ∀ a0 a1 a2 k, LeO (unisonref01_Print.f k a0 a1 a2) (unisonref01_Print.f (k + 1) a0 a1 a2) := by
 intro a0 a1 a2 k
 unfold unisonref01_Print.f
 repeat' first
   | (with_reducible exact unisonref01_Digits.mono _ _)
   | (with_reducible exact unisonref01_quoted.mono _ _)
   | (with_reducible exact LeO.refl _)
   | (with_reducible exact LeO.none _)
   | (with_reducible refine LeO.ite ?_ ?_)
   | (with_reducible refine LeO.bind ?_ (fun _ => ?_))
   | exact unisonref01_Digits.mono _ _
   | exact unisonref01_quoted.mono _ _
   | exact LeO.none _
   | refine LeO.ite ?_ ?_
   | refine LeO.bind ?_ (fun _ => ?_)
set_option maxHeartbeats 8000000 in
set_option maxRecDepth 100000 in
theorem unisonref01_Print.calls (k : Nat) (a0_0 : Int) (a0_1 : Int) (a0_2 : ByteArray) (r1 : ByteArray) (r2 : Int) (w : World) (h : unisonref01_Print.f k a0_0 a0_1 a0_2 = some (r1, r2)) :
  Calls Tryz.prog 39 #[.agg #[.int .i64 a0_0, .int .i64 a0_1, .string a0_2]] w fun e w' => e = .returned (.tuple #[.string r1, .int .i64 r2]) ∧ Below w.heap.size w w' := by
 have hu48 := Tryz.underlying48; have HB := Aside0.mk (Below.refl w.heap.size w); have H : ((unisonref01_Right.f a0_0 a0_1 a0_2).bind fun t176 => (if t176 = true then (if a0_0 = 1 then ((unisonref01_Digits.f k a0_1).bind fun t177 => (some (t177, 0))) else (if a0_0 = 2 then (if a0_1 = 1 then (some ((⟨#[84, 82, 85, 69]⟩ : ByteArray), 0)) else (some ((⟨#[70, 65, 76, 83, 69]⟩ : ByteArray), 0))) else (if a0_0 = 3 then ((unisonref01_quoted.f k a0_2).bind fun t178 => (some (t178, 0))) else (some ((⟨#[78, 85, 76, 76]⟩ : ByteArray), 0))))) else (some ((⟨#[]⟩ : ByteArray), 10)))) = some (r1, r2) := h; clear h; replace H := Option.bind_eq_some_iff.mp H
 obtain ⟨t176, A20, H⟩ := H
 replace H : (if t176 = true then (if a0_0 = 1 then ((unisonref01_Digits.f k a0_1).bind fun t177 => (some (t177, 0))) else (if a0_0 = 2 then (if a0_1 = 1 then (some ((⟨#[84, 82, 85, 69]⟩ : ByteArray), 0)) else (some ((⟨#[70, 65, 76, 83, 69]⟩ : ByteArray), 0))) else (if a0_0 = 3 then ((unisonref01_quoted.f k a0_2).bind fun t178 => (some (t178, 0))) else (some ((⟨#[78, 85, 76, 76]⟩ : ByteArray), 0))))) else (some ((⟨#[]⟩ : ByteArray), 10))) = some (r1, r2) := H; have A2 := Aside0.mk A20; clear A20
 by_cases c3 : t176 = true
 ·
  subst c3
  have H1 : (if a0_0 = 1 then ((unisonref01_Digits.f k a0_1).bind fun t177 => (some (t177, 0))) else (if a0_0 = 2 then (if a0_1 = 1 then (some ((⟨#[84, 82, 85, 69]⟩ : ByteArray), 0)) else (some ((⟨#[70, 65, 76, 83, 69]⟩ : ByteArray), 0))) else (if a0_0 = 3 then ((unisonref01_quoted.f k a0_2).bind fun t178 => (some (t178, 0))) else (some ((⟨#[78, 85, 76, 76]⟩ : ByteArray), 0))))) = some (r1, r2) := by rw [if_pos rfl] at H; exact H
  clear H; have H := H1; clear H1
  by_cases c4 : a0_0 = 1
  ·
   rw [if_pos c4] at H
   have c4b0 : (a0_0 == 1) = true := beq_iff_eq.mpr c4; have c4b1 : (a0_0 != 1) = false := bne_eq_false_iff_eq.mpr c4; clear c4; replace H := Option.bind_eq_some_iff.mp H
   obtain ⟨t177, A50, H⟩ := H
   replace H : (some (t177, 0)) = some (r1, r2) := H; have A5 := Aside0.mk A50; clear A50
   simp only [Option.some.injEq, Prod.mk.injEq] at H
   obtain ⟨rfl, rfl⟩ := H
   go_enter Tryz.func39, Tryz.ntmps39
   go_wp2_with (first | ((with_reducible refine gate_dst (N := 1) rfl ?_); refine box_event ?hg (N := 1) ?hd (cs := #[.int .i64 a0_0, .int .i64 a0_1, .string a0_2]) (t := 48) ?hr ?_; (case hd => rfl); (case hg => rfl); (case hr => first | (go_simp; done) | (go_simp; rfl)); intro gb175 hg w6 hbox hb; have BK175 := Aside0.mk (hbox); have GW175 := bz hg; have GE175 := bz hg; replace HB := bs hb; clear hb hbox hg; have hcz7_0 : w6.cell? ⟨gb175, 0, none⟩ = some (.int .i64 a0_0) := (blk_cell BK175.out 0).trans rfl; have hcz7_1 : w6.cell? ⟨gb175, 1, none⟩ = some (.int .i64 a0_1) := (blk_cell BK175.out 1).trans rfl; have hcz7_2 : w6.cell? ⟨gb175, 2, none⟩ = some (.string a0_2) := (blk_cell BK175.out 2).trans rfl; have hfz7_0 := blk_frozen BK175.out 0; have hfz7_1 := blk_frozen BK175.out 1; have hfz7_2 := blk_frozen BK175.out 2) | ((with_reducible refine gate_callee (f := 50) rfl ?_); refine gL (some 6) Tryz.func50 #[.agg #[.int .i64 a0_0, .int .i64 a0_1, .string a0_2]] ?_; (with_reducible refine (unisonref01_Right.calls a0_0 a0_1 a0_2 true _ A2.out).mono ?_); rintro e w8 ⟨rfl, hb⟩; refine ⟨_, rfl, ?_⟩; replace BK175 := bb BK175 hb; replace HB := bs hb; (try clear hb); (try clear hb2); (try clear hk); (try clear hi); have hcz9_0 : w8.cell? ⟨gb175, 0, none⟩ = some (.int .i64 a0_0) := (blk_cell BK175.out 0).trans rfl; have hcz9_1 : w8.cell? ⟨gb175, 1, none⟩ = some (.int .i64 a0_1) := (blk_cell BK175.out 1).trans rfl; have hcz9_2 : w8.cell? ⟨gb175, 2, none⟩ = some (.string a0_2) := (blk_cell BK175.out 2).trans rfl; have hfz9_0 := blk_frozen BK175.out 0; have hfz9_1 := blk_frozen BK175.out 1; have hfz9_2 := blk_frozen BK175.out 2) | ((with_reducible refine gate_callee (f := 51) rfl ?_); refine gL (some 15) Tryz.func51 #[.int .i64 a0_1] ?_; (with_reducible refine (unisonref01_Digits.calls k a0_1 t177 _ A5.out).mono ?_); rintro e w' ⟨rfl, ⟨nd, rfl⟩⟩; refine ⟨_, rfl, ?_⟩))
   go_ret2
   exact ⟨by first | rfl | (simp [errW_none, errW_some] <;> rfl) | (simp [*, errW_none, errW_some] <;> rfl), by repeat (first | (with_reducible first | exact HB.out | apply below_alloc | apply pw_below_drewN | apply below_drew1 | refine below_set ?_ GE175.out) | exact HB.out)⟩
  ·
   rw [if_neg c4] at H
   have c4b0 : (a0_0 == 1) = false := beq_eq_false_iff_ne.mpr c4; have c4b1 : (a0_0 != 1) = true := bne_iff_ne.mpr c4
   by_cases c10 : a0_0 = 2
   ·
    rw [if_pos c10] at H
    have c10b0 : (a0_0 == 2) = true := beq_iff_eq.mpr c10; have c10b1 : (a0_0 != 2) = false := bne_eq_false_iff_eq.mpr c10; clear c10
    by_cases c11 : a0_1 = 1
    ·
     rw [if_pos c11] at H
     have c11b0 : (a0_1 == 1) = true := beq_iff_eq.mpr c11; have c11b1 : (a0_1 != 1) = false := bne_eq_false_iff_eq.mpr c11; clear c11
     simp only [Option.some.injEq, Prod.mk.injEq] at H
     obtain ⟨rfl, rfl⟩ := H
     go_enter Tryz.func39, Tryz.ntmps39
     go_wp2_with (first | ((with_reducible refine gate_dst (N := 1) rfl ?_); refine box_event ?hg (N := 1) ?hd (cs := #[.int .i64 a0_0, .int .i64 a0_1, .string a0_2]) (t := 48) ?hr ?_; (case hd => rfl); (case hg => rfl); (case hr => first | (go_simp; done) | (go_simp; rfl)); intro gb175 hg w12 hbox hb; have BK175 := Aside0.mk (hbox); have GW175 := bz hg; have GE175 := bz hg; replace HB := bs hb; clear hb hbox hg; have hcz13_0 : w12.cell? ⟨gb175, 0, none⟩ = some (.int .i64 a0_0) := (blk_cell BK175.out 0).trans rfl; have hcz13_1 : w12.cell? ⟨gb175, 1, none⟩ = some (.int .i64 a0_1) := (blk_cell BK175.out 1).trans rfl; have hcz13_2 : w12.cell? ⟨gb175, 2, none⟩ = some (.string a0_2) := (blk_cell BK175.out 2).trans rfl; have hfz13_0 := blk_frozen BK175.out 0; have hfz13_1 := blk_frozen BK175.out 1; have hfz13_2 := blk_frozen BK175.out 2) | ((with_reducible refine gate_callee (f := 50) rfl ?_); refine gL (some 6) Tryz.func50 #[.agg #[.int .i64 a0_0, .int .i64 a0_1, .string a0_2]] ?_; (with_reducible refine (unisonref01_Right.calls a0_0 a0_1 a0_2 true _ A2.out).mono ?_); rintro e w14 ⟨rfl, hb⟩; refine ⟨_, rfl, ?_⟩; replace BK175 := bb BK175 hb; replace HB := bs hb; (try clear hb); (try clear hb2); (try clear hk); (try clear hi); have hcz15_0 : w14.cell? ⟨gb175, 0, none⟩ = some (.int .i64 a0_0) := (blk_cell BK175.out 0).trans rfl; have hcz15_1 : w14.cell? ⟨gb175, 1, none⟩ = some (.int .i64 a0_1) := (blk_cell BK175.out 1).trans rfl; have hcz15_2 : w14.cell? ⟨gb175, 2, none⟩ = some (.string a0_2) := (blk_cell BK175.out 2).trans rfl; have hfz15_0 := blk_frozen BK175.out 0; have hfz15_1 := blk_frozen BK175.out 1; have hfz15_2 := blk_frozen BK175.out 2))
     go_ret2
     exact ⟨by first | rfl | (simp [errW_none, errW_some] <;> rfl) | (simp [*, errW_none, errW_some] <;> rfl), by repeat (first | (with_reducible first | exact HB.out | apply below_alloc | apply pw_below_drewN | apply below_drew1 | refine below_set ?_ GE175.out) | exact HB.out)⟩
    ·
     rw [if_neg c11] at H
     have c11b0 : (a0_1 == 1) = false := beq_eq_false_iff_ne.mpr c11; have c11b1 : (a0_1 != 1) = true := bne_iff_ne.mpr c11
     simp only [Option.some.injEq, Prod.mk.injEq] at H
     obtain ⟨rfl, rfl⟩ := H
     go_enter Tryz.func39, Tryz.ntmps39
     go_wp2_with (first | ((with_reducible refine gate_dst (N := 1) rfl ?_); refine box_event ?hg (N := 1) ?hd (cs := #[.int .i64 a0_0, .int .i64 a0_1, .string a0_2]) (t := 48) ?hr ?_; (case hd => rfl); (case hg => rfl); (case hr => first | (go_simp; done) | (go_simp; rfl)); intro gb175 hg w16 hbox hb; have BK175 := Aside0.mk (hbox); have GW175 := bz hg; have GE175 := bz hg; replace HB := bs hb; clear hb hbox hg; have hcz17_0 : w16.cell? ⟨gb175, 0, none⟩ = some (.int .i64 a0_0) := (blk_cell BK175.out 0).trans rfl; have hcz17_1 : w16.cell? ⟨gb175, 1, none⟩ = some (.int .i64 a0_1) := (blk_cell BK175.out 1).trans rfl; have hcz17_2 : w16.cell? ⟨gb175, 2, none⟩ = some (.string a0_2) := (blk_cell BK175.out 2).trans rfl; have hfz17_0 := blk_frozen BK175.out 0; have hfz17_1 := blk_frozen BK175.out 1; have hfz17_2 := blk_frozen BK175.out 2) | ((with_reducible refine gate_callee (f := 50) rfl ?_); refine gL (some 6) Tryz.func50 #[.agg #[.int .i64 a0_0, .int .i64 a0_1, .string a0_2]] ?_; (with_reducible refine (unisonref01_Right.calls a0_0 a0_1 a0_2 true _ A2.out).mono ?_); rintro e w18 ⟨rfl, hb⟩; refine ⟨_, rfl, ?_⟩; replace BK175 := bb BK175 hb; replace HB := bs hb; (try clear hb); (try clear hb2); (try clear hk); (try clear hi); have hcz19_0 : w18.cell? ⟨gb175, 0, none⟩ = some (.int .i64 a0_0) := (blk_cell BK175.out 0).trans rfl; have hcz19_1 : w18.cell? ⟨gb175, 1, none⟩ = some (.int .i64 a0_1) := (blk_cell BK175.out 1).trans rfl; have hcz19_2 : w18.cell? ⟨gb175, 2, none⟩ = some (.string a0_2) := (blk_cell BK175.out 2).trans rfl; have hfz19_0 := blk_frozen BK175.out 0; have hfz19_1 := blk_frozen BK175.out 1; have hfz19_2 := blk_frozen BK175.out 2))
     go_ret2
     exact ⟨by first | rfl | (simp [errW_none, errW_some] <;> rfl) | (simp [*, errW_none, errW_some] <;> rfl), by repeat (first | (with_reducible first | exact HB.out | apply below_alloc | apply pw_below_drewN | apply below_drew1 | refine below_set ?_ GE175.out) | exact HB.out)⟩
   ·
    rw [if_neg c10] at H
    have c10b0 : (a0_0 == 2) = false := beq_eq_false_iff_ne.mpr c10; have c10b1 : (a0_0 != 2) = true := bne_iff_ne.mpr c10
    by_cases c20 : a0_0 = 3
    ·
     rw [if_pos c20] at H
     have c20b0 : (a0_0 == 3) = true := beq_iff_eq.mpr c20; have c20b1 : (a0_0 != 3) = false := bne_eq_false_iff_eq.mpr c20; clear c20; replace H := Option.bind_eq_some_iff.mp H
     obtain ⟨t178, A210, H⟩ := H
     replace H : (some (t178, 0)) = some (r1, r2) := H; have A21 := Aside0.mk A210; clear A210
     simp only [Option.some.injEq, Prod.mk.injEq] at H
     obtain ⟨rfl, rfl⟩ := H
     go_enter Tryz.func39, Tryz.ntmps39
     go_wp2_with (first | ((with_reducible refine gate_dst (N := 1) rfl ?_); refine box_event ?hg (N := 1) ?hd (cs := #[.int .i64 a0_0, .int .i64 a0_1, .string a0_2]) (t := 48) ?hr ?_; (case hd => rfl); (case hg => rfl); (case hr => first | (go_simp; done) | (go_simp; rfl)); intro gb175 hg w22 hbox hb; have BK175 := Aside0.mk (hbox); have GW175 := bz hg; have GE175 := bz hg; replace HB := bs hb; clear hb hbox hg; have hcz23_0 : w22.cell? ⟨gb175, 0, none⟩ = some (.int .i64 a0_0) := (blk_cell BK175.out 0).trans rfl; have hcz23_1 : w22.cell? ⟨gb175, 1, none⟩ = some (.int .i64 a0_1) := (blk_cell BK175.out 1).trans rfl; have hcz23_2 : w22.cell? ⟨gb175, 2, none⟩ = some (.string a0_2) := (blk_cell BK175.out 2).trans rfl; have hfz23_0 := blk_frozen BK175.out 0; have hfz23_1 := blk_frozen BK175.out 1; have hfz23_2 := blk_frozen BK175.out 2) | ((with_reducible refine gate_callee (f := 50) rfl ?_); refine gL (some 6) Tryz.func50 #[.agg #[.int .i64 a0_0, .int .i64 a0_1, .string a0_2]] ?_; (with_reducible refine (unisonref01_Right.calls a0_0 a0_1 a0_2 true _ A2.out).mono ?_); rintro e w24 ⟨rfl, hb⟩; refine ⟨_, rfl, ?_⟩; replace BK175 := bb BK175 hb; replace HB := bs hb; (try clear hb); (try clear hb2); (try clear hk); (try clear hi); have hcz25_0 : w24.cell? ⟨gb175, 0, none⟩ = some (.int .i64 a0_0) := (blk_cell BK175.out 0).trans rfl; have hcz25_1 : w24.cell? ⟨gb175, 1, none⟩ = some (.int .i64 a0_1) := (blk_cell BK175.out 1).trans rfl; have hcz25_2 : w24.cell? ⟨gb175, 2, none⟩ = some (.string a0_2) := (blk_cell BK175.out 2).trans rfl; have hfz25_0 := blk_frozen BK175.out 0; have hfz25_1 := blk_frozen BK175.out 1; have hfz25_2 := blk_frozen BK175.out 2) | ((with_reducible refine gate_callee (f := 52) rfl ?_); refine gL (some 25) Tryz.func52 #[.string a0_2] ?_; (with_reducible refine (unisonref01_quoted.calls k a0_2 t178 _ A21.out).mono ?_); rintro e w26 ⟨rfl, hb⟩; refine ⟨_, rfl, ?_⟩; replace BK175 := bb BK175 hb; replace HB := bs hb; (try clear hb); (try clear hb2); (try clear hk); (try clear hi)))
     go_ret2
     exact ⟨by first | rfl | (simp [errW_none, errW_some] <;> rfl) | (simp [*, errW_none, errW_some] <;> rfl), by repeat (first | (with_reducible first | exact HB.out | apply below_alloc | apply pw_below_drewN | apply below_drew1 | refine below_set ?_ GE175.out) | exact HB.out)⟩
    ·
     rw [if_neg c20] at H
     have c20b0 : (a0_0 == 3) = false := beq_eq_false_iff_ne.mpr c20; have c20b1 : (a0_0 != 3) = true := bne_iff_ne.mpr c20
     simp only [Option.some.injEq, Prod.mk.injEq] at H
     obtain ⟨rfl, rfl⟩ := H
     go_enter Tryz.func39, Tryz.ntmps39
     go_wp2_with (first | ((with_reducible refine gate_dst (N := 1) rfl ?_); refine box_event ?hg (N := 1) ?hd (cs := #[.int .i64 a0_0, .int .i64 a0_1, .string a0_2]) (t := 48) ?hr ?_; (case hd => rfl); (case hg => rfl); (case hr => first | (go_simp; done) | (go_simp; rfl)); intro gb175 hg w27 hbox hb; have BK175 := Aside0.mk (hbox); have GW175 := bz hg; have GE175 := bz hg; replace HB := bs hb; clear hb hbox hg; have hcz28_0 : w27.cell? ⟨gb175, 0, none⟩ = some (.int .i64 a0_0) := (blk_cell BK175.out 0).trans rfl; have hcz28_1 : w27.cell? ⟨gb175, 1, none⟩ = some (.int .i64 a0_1) := (blk_cell BK175.out 1).trans rfl; have hcz28_2 : w27.cell? ⟨gb175, 2, none⟩ = some (.string a0_2) := (blk_cell BK175.out 2).trans rfl; have hfz28_0 := blk_frozen BK175.out 0; have hfz28_1 := blk_frozen BK175.out 1; have hfz28_2 := blk_frozen BK175.out 2) | ((with_reducible refine gate_callee (f := 50) rfl ?_); refine gL (some 6) Tryz.func50 #[.agg #[.int .i64 a0_0, .int .i64 a0_1, .string a0_2]] ?_; (with_reducible refine (unisonref01_Right.calls a0_0 a0_1 a0_2 true _ A2.out).mono ?_); rintro e w29 ⟨rfl, hb⟩; refine ⟨_, rfl, ?_⟩; replace BK175 := bb BK175 hb; replace HB := bs hb; (try clear hb); (try clear hb2); (try clear hk); (try clear hi); have hcz30_0 : w29.cell? ⟨gb175, 0, none⟩ = some (.int .i64 a0_0) := (blk_cell BK175.out 0).trans rfl; have hcz30_1 : w29.cell? ⟨gb175, 1, none⟩ = some (.int .i64 a0_1) := (blk_cell BK175.out 1).trans rfl; have hcz30_2 : w29.cell? ⟨gb175, 2, none⟩ = some (.string a0_2) := (blk_cell BK175.out 2).trans rfl; have hfz30_0 := blk_frozen BK175.out 0; have hfz30_1 := blk_frozen BK175.out 1; have hfz30_2 := blk_frozen BK175.out 2))
     go_ret2
     exact ⟨by first | rfl | (simp [errW_none, errW_some] <;> rfl) | (simp [*, errW_none, errW_some] <;> rfl), by repeat (first | (with_reducible first | exact HB.out | apply below_alloc | apply pw_below_drewN | apply below_drew1 | refine below_set ?_ GE175.out) | exact HB.out)⟩
 ·
  replace c3 := Bool.eq_false_iff.mpr c3
  subst c3
  have H1 : (some ((⟨#[]⟩ : ByteArray), 10)) = some (r1, r2) := by rw [if_neg (show ¬ (false = true) by decide)] at H; exact H
  clear H; have H := H1; clear H1
  simp only [Option.some.injEq, Prod.mk.injEq] at H
  obtain ⟨rfl, rfl⟩ := H
  go_enter Tryz.func39, Tryz.ntmps39
  go_wp2_with (first | ((with_reducible refine gate_dst (N := 1) rfl ?_); refine box_event ?hg (N := 1) ?hd (cs := #[.int .i64 a0_0, .int .i64 a0_1, .string a0_2]) (t := 48) ?hr ?_; (case hd => rfl); (case hg => rfl); (case hr => first | (go_simp; done) | (go_simp; rfl)); intro gb175 hg w31 hbox hb; have BK175 := Aside0.mk (hbox); have GW175 := bz hg; have GE175 := bz hg; replace HB := bs hb; clear hb hbox hg; have hcz32_0 : w31.cell? ⟨gb175, 0, none⟩ = some (.int .i64 a0_0) := (blk_cell BK175.out 0).trans rfl; have hcz32_1 : w31.cell? ⟨gb175, 1, none⟩ = some (.int .i64 a0_1) := (blk_cell BK175.out 1).trans rfl; have hcz32_2 : w31.cell? ⟨gb175, 2, none⟩ = some (.string a0_2) := (blk_cell BK175.out 2).trans rfl; have hfz32_0 := blk_frozen BK175.out 0; have hfz32_1 := blk_frozen BK175.out 1; have hfz32_2 := blk_frozen BK175.out 2) | ((with_reducible refine gate_callee (f := 50) rfl ?_); refine gL (some 6) Tryz.func50 #[.agg #[.int .i64 a0_0, .int .i64 a0_1, .string a0_2]] ?_; (with_reducible refine (unisonref01_Right.calls a0_0 a0_1 a0_2 false _ A2.out).mono ?_); rintro e w33 ⟨rfl, hb⟩; refine ⟨_, rfl, ?_⟩; replace BK175 := bb BK175 hb; replace HB := bs hb; (try clear hb); (try clear hb2); (try clear hk); (try clear hi)))
  go_ret2
  exact ⟨by first | rfl | (simp [errW_none, errW_some] <;> rfl) | (simp [*, errW_none, errW_some] <;> rfl), by repeat (first | (with_reducible first | exact HB.out | apply below_alloc | apply pw_below_drewN | apply below_drew1 | refine below_set ?_ GE175.out) | exact HB.out)⟩
end Go.Proofs.YtllehkjebikgpaaGreatDoor.PA
end
section
namespace Go.Proofs.YtllehkjebikgpaaGreatDoor.PA
open Go.RowKit Go.Proofs.YtllehkjebikgpaaGreatDoorW.PrintWords Go.Proofs.YtllehkjebikgpaaGreatDoorW.PrintLast Go.Proofs.YtllehkjebikgpaaGreatDoorW.PrintMore Go.Proofs.YtllehkjebikgpaaGreatDoorX
attribute [local go_sem] max2_int min2_int max_two min_two max_three min_three max_four min_four   -- for this text's walks alone
set_option linter.unusedVariables false
set_option linter.unusedSimpArgs false
/-! ### unisonref01_Parse: function 26 -/
def unisonref01_Parse.f (k : Nat) (a0 : ByteArray) : Option (Int × Int × ByteArray × Int) := (unisonref01_said.f k a0).bind fun bt180 => ((unisonref01_Print.f k bt180.1 bt180.2.1 bt180.2.2).bind fun bt184 => (if bt184.2 = 0 then (if bt184.1.toList = a0.toList then (some (bt180.1, bt180.2.1, bt180.2.2, 0)) else (some (0, 0, (⟨#[]⟩ : ByteArray), 10))) else (some (0, 0, (⟨#[]⟩ : ByteArray), 10))))
theorem unisonref01_Parse.mono : ∀ a0 k, LeO (unisonref01_Parse.f k a0) (unisonref01_Parse.f (k + 1) a0) := by
 intro a0 k
 unfold unisonref01_Parse.f
 repeat' first
   | (with_reducible exact unisonref01_Print.mono _ _ _ _)
   | (with_reducible exact unisonref01_said.mono _ _)
   | (with_reducible exact LeO.refl _)
   | (with_reducible exact LeO.none _)
   | (with_reducible refine LeO.ite ?_ ?_)
   | (with_reducible refine LeO.bind ?_ (fun _ => ?_))
   | exact unisonref01_Print.mono _ _ _ _
   | exact unisonref01_said.mono _ _
   | exact LeO.none _
   | refine LeO.ite ?_ ?_
   | refine LeO.bind ?_ (fun _ => ?_)
set_option maxHeartbeats 8000000 in
set_option maxRecDepth 100000 in
theorem unisonref01_Parse.calls (k : Nat) (a0 : ByteArray) (r1 : Int) (r2 : Int) (r3 : ByteArray) (r4 : Int) (w : World) (h : unisonref01_Parse.f k a0 = some (r1, r2, r3, r4)) :
  Calls Tryz.prog 26 #[.string a0] w fun e w' => e = .returned (.tuple #[.agg #[.int .i64 r1, .int .i64 r2, .string r3], .int .i64 r4]) ∧ Below w.heap.size w w' := by
 have hu48 := Tryz.underlying48; have HB := Aside0.mk (Below.refl w.heap.size w); have H : ((unisonref01_said.f k a0).bind fun bt180 => ((unisonref01_Print.f k bt180.1 bt180.2.1 bt180.2.2).bind fun bt184 => (if bt184.2 = 0 then (if bt184.1.toList = a0.toList then (some (bt180.1, bt180.2.1, bt180.2.2, 0)) else (some (0, 0, (⟨#[]⟩ : ByteArray), 10))) else (some (0, 0, (⟨#[]⟩ : ByteArray), 10))))) = some (r1, r2, r3, r4) := h; clear h; replace H := Option.bind_eq_some_iff.mp H
 obtain ⟨⟨t180, t181, t182⟩, A20, H⟩ := H
 replace H : ((unisonref01_Print.f k t180 t181 t182).bind fun bt184 => (if bt184.2 = 0 then (if bt184.1.toList = a0.toList then (some (t180, t181, t182, 0)) else (some (0, 0, (⟨#[]⟩ : ByteArray), 10))) else (some (0, 0, (⟨#[]⟩ : ByteArray), 10)))) = some (r1, r2, r3, r4) := H; have A2 := Aside0.mk A20; clear A20; replace H := Option.bind_eq_some_iff.mp H
 obtain ⟨⟨t184, t185⟩, A30, H⟩ := H
 replace H : (if t185 = 0 then (if t184.toList = a0.toList then (some (t180, t181, t182, 0)) else (some (0, 0, (⟨#[]⟩ : ByteArray), 10))) else (some (0, 0, (⟨#[]⟩ : ByteArray), 10))) = some (r1, r2, r3, r4) := H; have A3 := Aside0.mk A30; clear A30
 by_cases c4 : t185 = 0
 ·
  rw [if_pos c4] at H
  have c4b0 : (t185 == 0) = true := beq_iff_eq.mpr c4; have c4b1 : (t185 != 0) = false := bne_eq_false_iff_eq.mpr c4; clear c4
  by_cases c5 : t184.toList = a0.toList
  ·
   rw [if_pos c5] at H
   have c5b0 : (t184.toList == a0.toList) = true := beq_iff_eq.mpr c5; have c5b1 : (t184.toList != a0.toList) = false := bne_eq_false_iff_eq.mpr c5; clear c5
   simp only [Option.some.injEq, Prod.mk.injEq] at H
   obtain ⟨rfl, rfl, rfl, rfl⟩ := H
   go_enter Tryz.func26, Tryz.ntmps26
   go_wp2_with (first | ((with_reducible refine gate_dst (N := 2) rfl ?_); refine box_event ?hg (N := 2) ?hd (cs := #[.int .i64 0, .int .i64 0, .string (⟨#[]⟩ : ByteArray)]) (t := 48) ?hr ?_; (case hd => rfl); (case hg => rfl); (case hr => first | (go_simp; done) | (go_simp; rfl)); intro gb179 hg w6 hbox hb; have BK179 := Aside0.mk (hbox); have GW179 := bz hg; have GE179 := bz hg; replace HB := bs hb; clear hb hbox hg) | ((with_reducible refine gate_callee (f := 38) rfl ?_); refine gL (some 8) Tryz.func38 #[.string a0] ?_; (with_reducible refine (unisonref01_said.calls k a0 t180 t181 t182 _ A2.out).mono ?_); rintro e w7 ⟨rfl, hb⟩; refine ⟨_, rfl, ?_⟩; replace BK179 := bb BK179 hb; replace HB := bs hb; (try clear hb); (try clear hb2); (try clear hk); (try clear hi)) | ((with_reducible refine gate_dst (N := 4) rfl ?_); refine box_event ?hg (N := 4) ?hd (cs := #[.int .i64 0, .int .i64 0, .string (⟨#[]⟩ : ByteArray)]) (t := 48) ?hr ?_; (case hd => rfl); (case hg => rfl); (case hr => first | (go_simp; done) | (go_simp; rfl)); intro gb183 hg w8 hbox hb; have BK183 := Aside0.mk (hbox); have GW183 := bz hg; have GE183 := bz hg; have NB179_183 := bl BK179 hg; have NB183_179 := bg BK179 hg; replace BK179 := bb BK179 hb; replace HB := bs hb; clear hb hbox hg; have hnb9 := NB183_179.out; have hnc9 := NB179_183.out; have hcz10_0 : w8.cell? ⟨gb183, 0, none⟩ = some (.int .i64 0) := (blk_cell BK183.out 0).trans rfl; have hcz10_1 : w8.cell? ⟨gb183, 1, none⟩ = some (.int .i64 0) := (blk_cell BK183.out 1).trans rfl; have hcz10_2 : w8.cell? ⟨gb183, 2, none⟩ = some (.string (⟨#[]⟩ : ByteArray)) := (blk_cell BK183.out 2).trans rfl; have hfz10_0 := blk_frozen BK183.out 0; have hfz10_1 := blk_frozen BK183.out 1; have hfz10_2 := blk_frozen BK183.out 2) | ((with_reducible refine gate_store (t := 48) (p := 4) rfl ?_); refine store_event (t := 48) (p := 4) (v := ?vo_w11) (w1 := (((w8.setCell ⟨gb183, 0, none⟩ (.int .i64 t180)).setCell ⟨gb183, 1, none⟩ (.int .i64 t181)).setCell ⟨gb183, 2, none⟩ (.string t182))) ?hg ?ho ?hn ?hr ?_; (case ho => rfl); (case hg => rfl); (case hn => rfl); (case hr => first | (go_simp; done) | (go_simp; rfl)); intro w11 hw; replace BK179 := bw BK179 hw; replace BK183 : Aside0 (w11.heap[gb183]? = some (.cells #[.int .i64 t180, .int .i64 t181, .string t182] 48 (0, 0))) := bp BK183 hw; replace HB := bv hw; clear hw; have hcz12_0 : w11.cell? ⟨gb183, 0, none⟩ = some (.int .i64 t180) := (blk_cell BK183.out 0).trans rfl; have hcz12_1 : w11.cell? ⟨gb183, 1, none⟩ = some (.int .i64 t181) := (blk_cell BK183.out 1).trans rfl; have hcz12_2 : w11.cell? ⟨gb183, 2, none⟩ = some (.string t182) := (blk_cell BK183.out 2).trans rfl; have hfz12_0 := blk_frozen BK183.out 0; have hfz12_1 := blk_frozen BK183.out 1; have hfz12_2 := blk_frozen BK183.out 2) | ((with_reducible refine gate_callee (f := 39) rfl ?_); refine gL (some 11) Tryz.func39 #[.agg #[.int .i64 t180, .int .i64 t181, .string t182]] ?_; (with_reducible refine (unisonref01_Print.calls k t180 t181 t182 t184 t185 _ A3.out).mono ?_); rintro e w13 ⟨rfl, hb⟩; refine ⟨_, rfl, ?_⟩; replace BK179 := bb BK179 hb; replace BK183 := bb BK183 hb; replace HB := bs hb; (try clear hb); (try clear hb2); (try clear hk); (try clear hi); have hcz14_0 : w13.cell? ⟨gb183, 0, none⟩ = some (.int .i64 t180) := (blk_cell BK183.out 0).trans rfl; have hcz14_1 : w13.cell? ⟨gb183, 1, none⟩ = some (.int .i64 t181) := (blk_cell BK183.out 1).trans rfl; have hcz14_2 : w13.cell? ⟨gb183, 2, none⟩ = some (.string t182) := (blk_cell BK183.out 2).trans rfl; have hfz14_0 := blk_frozen BK183.out 0; have hfz14_1 := blk_frozen BK183.out 1; have hfz14_2 := blk_frozen BK183.out 2; have hcz15_0 : w13.cell? ⟨gb179, 0, none⟩ = some (.int .i64 0) := (blk_cell BK179.out 0).trans rfl; have hcz15_1 : w13.cell? ⟨gb179, 1, none⟩ = some (.int .i64 0) := (blk_cell BK179.out 1).trans rfl; have hcz15_2 : w13.cell? ⟨gb179, 2, none⟩ = some (.string (⟨#[]⟩ : ByteArray)) := (blk_cell BK179.out 2).trans rfl; have hfz15_0 := blk_frozen BK179.out 0; have hfz15_1 := blk_frozen BK179.out 1; have hfz15_2 := blk_frozen BK179.out 2) | ((with_reducible refine gate_store (t := 48) (p := 2) rfl ?_); refine store_event (t := 48) (p := 2) (v := ?vo_w16) (w1 := (((w13.setCell ⟨gb179, 0, none⟩ (.int .i64 t180)).setCell ⟨gb179, 1, none⟩ (.int .i64 t181)).setCell ⟨gb179, 2, none⟩ (.string t182))) ?hg ?ho ?hn ?hr ?_; (case ho => rfl); (case hg => rfl); (case hn => rfl); (case hr => first | (go_simp; done) | (go_simp; rfl)); intro w16 hw; replace BK179 : Aside0 (w16.heap[gb179]? = some (.cells #[.int .i64 t180, .int .i64 t181, .string t182] 48 (0, 0))) := bp BK179 hw; replace BK183 := bw BK183 hw; replace HB := bv hw; clear hw))
   refine bodyPost_ret (results_ct rfl _ _ gb179 48 #[.int .i64 t180, .int .i64 t181, .string t182] (0, 0) _ rfl (by (with_reducible repeat (first | refine blk_drewN ?_ _ | refine blk_drew ?_ | refine blk_alloc ?_ _)); exact BK179.out) Tryz.underlying48 rfl (by kernel_rfl)) rfl ?_
   exact ⟨by first | rfl | (simp [errW_none, errW_some] <;> rfl) | (simp [*, errW_none, errW_some] <;> rfl), by repeat (first | (with_reducible first | exact HB.out | apply below_alloc | apply pw_below_drewN | apply below_drew1 | refine below_set ?_ GE179.out | refine below_set ?_ GE183.out) | exact HB.out)⟩
  ·
   rw [if_neg c5] at H
   have c5b0 : (t184.toList == a0.toList) = false := beq_eq_false_iff_ne.mpr c5; have c5b1 : (t184.toList != a0.toList) = true := bne_iff_ne.mpr c5
   simp only [Option.some.injEq, Prod.mk.injEq] at H
   obtain ⟨rfl, rfl, rfl, rfl⟩ := H
   go_enter Tryz.func26, Tryz.ntmps26
   go_wp2_with (first | ((with_reducible refine gate_dst (N := 2) rfl ?_); refine box_event ?hg (N := 2) ?hd (cs := #[.int .i64 0, .int .i64 0, .string (⟨#[]⟩ : ByteArray)]) (t := 48) ?hr ?_; (case hd => rfl); (case hg => rfl); (case hr => first | (go_simp; done) | (go_simp; rfl)); intro gb179 hg w17 hbox hb; have BK179 := Aside0.mk (hbox); have GW179 := bz hg; have GE179 := bz hg; replace HB := bs hb; clear hb hbox hg) | ((with_reducible refine gate_callee (f := 38) rfl ?_); refine gL (some 8) Tryz.func38 #[.string a0] ?_; (with_reducible refine (unisonref01_said.calls k a0 t180 t181 t182 _ A2.out).mono ?_); rintro e w18 ⟨rfl, hb⟩; refine ⟨_, rfl, ?_⟩; replace BK179 := bb BK179 hb; replace HB := bs hb; (try clear hb); (try clear hb2); (try clear hk); (try clear hi)) | ((with_reducible refine gate_dst (N := 4) rfl ?_); refine box_event ?hg (N := 4) ?hd (cs := #[.int .i64 0, .int .i64 0, .string (⟨#[]⟩ : ByteArray)]) (t := 48) ?hr ?_; (case hd => rfl); (case hg => rfl); (case hr => first | (go_simp; done) | (go_simp; rfl)); intro gb183 hg w19 hbox hb; have BK183 := Aside0.mk (hbox); have GW183 := bz hg; have GE183 := bz hg; have NB179_183 := bl BK179 hg; have NB183_179 := bg BK179 hg; replace BK179 := bb BK179 hb; replace HB := bs hb; clear hb hbox hg; have hnb20 := NB183_179.out; have hnc20 := NB179_183.out; have hcz21_0 : w19.cell? ⟨gb183, 0, none⟩ = some (.int .i64 0) := (blk_cell BK183.out 0).trans rfl; have hcz21_1 : w19.cell? ⟨gb183, 1, none⟩ = some (.int .i64 0) := (blk_cell BK183.out 1).trans rfl; have hcz21_2 : w19.cell? ⟨gb183, 2, none⟩ = some (.string (⟨#[]⟩ : ByteArray)) := (blk_cell BK183.out 2).trans rfl; have hfz21_0 := blk_frozen BK183.out 0; have hfz21_1 := blk_frozen BK183.out 1; have hfz21_2 := blk_frozen BK183.out 2) | ((with_reducible refine gate_store (t := 48) (p := 4) rfl ?_); refine store_event (t := 48) (p := 4) (v := ?vo_w22) (w1 := (((w19.setCell ⟨gb183, 0, none⟩ (.int .i64 t180)).setCell ⟨gb183, 1, none⟩ (.int .i64 t181)).setCell ⟨gb183, 2, none⟩ (.string t182))) ?hg ?ho ?hn ?hr ?_; (case ho => rfl); (case hg => rfl); (case hn => rfl); (case hr => first | (go_simp; done) | (go_simp; rfl)); intro w22 hw; replace BK179 := bw BK179 hw; replace BK183 : Aside0 (w22.heap[gb183]? = some (.cells #[.int .i64 t180, .int .i64 t181, .string t182] 48 (0, 0))) := bp BK183 hw; replace HB := bv hw; clear hw; have hcz23_0 : w22.cell? ⟨gb183, 0, none⟩ = some (.int .i64 t180) := (blk_cell BK183.out 0).trans rfl; have hcz23_1 : w22.cell? ⟨gb183, 1, none⟩ = some (.int .i64 t181) := (blk_cell BK183.out 1).trans rfl; have hcz23_2 : w22.cell? ⟨gb183, 2, none⟩ = some (.string t182) := (blk_cell BK183.out 2).trans rfl; have hfz23_0 := blk_frozen BK183.out 0; have hfz23_1 := blk_frozen BK183.out 1; have hfz23_2 := blk_frozen BK183.out 2) | ((with_reducible refine gate_callee (f := 39) rfl ?_); refine gL (some 11) Tryz.func39 #[.agg #[.int .i64 t180, .int .i64 t181, .string t182]] ?_; (with_reducible refine (unisonref01_Print.calls k t180 t181 t182 t184 t185 _ A3.out).mono ?_); rintro e w24 ⟨rfl, hb⟩; refine ⟨_, rfl, ?_⟩; replace BK179 := bb BK179 hb; replace BK183 := bb BK183 hb; replace HB := bs hb; (try clear hb); (try clear hb2); (try clear hk); (try clear hi); have hcz25_0 : w24.cell? ⟨gb179, 0, none⟩ = some (.int .i64 0) := (blk_cell BK179.out 0).trans rfl; have hcz25_1 : w24.cell? ⟨gb179, 1, none⟩ = some (.int .i64 0) := (blk_cell BK179.out 1).trans rfl; have hcz25_2 : w24.cell? ⟨gb179, 2, none⟩ = some (.string (⟨#[]⟩ : ByteArray)) := (blk_cell BK179.out 2).trans rfl; have hfz25_0 := blk_frozen BK179.out 0; have hfz25_1 := blk_frozen BK179.out 1; have hfz25_2 := blk_frozen BK179.out 2) | ((with_reducible refine gate_store (t := 48) (p := 2) rfl ?_); refine store_event (t := 48) (p := 2) (v := ?vo_w26) (w1 := (((w24.setCell ⟨gb179, 0, none⟩ (.int .i64 0)).setCell ⟨gb179, 1, none⟩ (.int .i64 0)).setCell ⟨gb179, 2, none⟩ (.string (⟨#[]⟩ : ByteArray)))) ?hg ?ho ?hn ?hr ?_; (case ho => rfl); (case hg => rfl); (case hn => rfl); (case hr => first | (go_simp; done) | (go_simp; rfl)); intro w26 hw; replace BK179 : Aside0 (w26.heap[gb179]? = some (.cells #[.int .i64 0, .int .i64 0, .string (⟨#[]⟩ : ByteArray)] 48 (0, 0))) := bp BK179 hw; replace BK183 := bw BK183 hw; replace HB := bv hw; clear hw))
   refine bodyPost_ret (results_ct rfl _ _ gb179 48 #[.int .i64 0, .int .i64 0, .string (⟨#[]⟩ : ByteArray)] (0, 0) _ rfl (by (with_reducible repeat (first | refine blk_drewN ?_ _ | refine blk_drew ?_ | refine blk_alloc ?_ _)); exact BK179.out) Tryz.underlying48 rfl (by kernel_rfl)) rfl ?_
   exact ⟨by first | rfl | (simp [errW_none, errW_some] <;> rfl) | (simp [*, errW_none, errW_some] <;> rfl), by repeat (first | (with_reducible first | exact HB.out | apply below_alloc | apply pw_below_drewN | apply below_drew1 | refine below_set ?_ GE179.out | refine below_set ?_ GE183.out) | exact HB.out)⟩
 ·
  rw [if_neg c4] at H
  have c4b0 : (t185 == 0) = false := beq_eq_false_iff_ne.mpr c4; have c4b1 : (t185 != 0) = true := bne_iff_ne.mpr c4
  simp only [Option.some.injEq, Prod.mk.injEq] at H
  obtain ⟨rfl, rfl, rfl, rfl⟩ := H
  go_enter Tryz.func26, Tryz.ntmps26
  go_wp2_with (first | ((with_reducible refine gate_dst (N := 2) rfl ?_); refine box_event ?hg (N := 2) ?hd (cs := #[.int .i64 0, .int .i64 0, .string (⟨#[]⟩ : ByteArray)]) (t := 48) ?hr ?_; (case hd => rfl); (case hg => rfl); (case hr => first | (go_simp; done) | (go_simp; rfl)); intro gb179 hg w27 hbox hb; have BK179 := Aside0.mk (hbox); have GW179 := bz hg; have GE179 := bz hg; replace HB := bs hb; clear hb hbox hg) | ((with_reducible refine gate_callee (f := 38) rfl ?_); refine gL (some 8) Tryz.func38 #[.string a0] ?_; (with_reducible refine (unisonref01_said.calls k a0 t180 t181 t182 _ A2.out).mono ?_); rintro e w28 ⟨rfl, hb⟩; refine ⟨_, rfl, ?_⟩; replace BK179 := bb BK179 hb; replace HB := bs hb; (try clear hb); (try clear hb2); (try clear hk); (try clear hi)) | ((with_reducible refine gate_dst (N := 4) rfl ?_); refine box_event ?hg (N := 4) ?hd (cs := #[.int .i64 0, .int .i64 0, .string (⟨#[]⟩ : ByteArray)]) (t := 48) ?hr ?_; (case hd => rfl); (case hg => rfl); (case hr => first | (go_simp; done) | (go_simp; rfl)); intro gb183 hg w29 hbox hb; have BK183 := Aside0.mk (hbox); have GW183 := bz hg; have GE183 := bz hg; have NB179_183 := bl BK179 hg; have NB183_179 := bg BK179 hg; replace BK179 := bb BK179 hb; replace HB := bs hb; clear hb hbox hg; have hnb30 := NB183_179.out; have hnc30 := NB179_183.out; have hcz31_0 : w29.cell? ⟨gb183, 0, none⟩ = some (.int .i64 0) := (blk_cell BK183.out 0).trans rfl; have hcz31_1 : w29.cell? ⟨gb183, 1, none⟩ = some (.int .i64 0) := (blk_cell BK183.out 1).trans rfl; have hcz31_2 : w29.cell? ⟨gb183, 2, none⟩ = some (.string (⟨#[]⟩ : ByteArray)) := (blk_cell BK183.out 2).trans rfl; have hfz31_0 := blk_frozen BK183.out 0; have hfz31_1 := blk_frozen BK183.out 1; have hfz31_2 := blk_frozen BK183.out 2) | ((with_reducible refine gate_store (t := 48) (p := 4) rfl ?_); refine store_event (t := 48) (p := 4) (v := ?vo_w32) (w1 := (((w29.setCell ⟨gb183, 0, none⟩ (.int .i64 t180)).setCell ⟨gb183, 1, none⟩ (.int .i64 t181)).setCell ⟨gb183, 2, none⟩ (.string t182))) ?hg ?ho ?hn ?hr ?_; (case ho => rfl); (case hg => rfl); (case hn => rfl); (case hr => first | (go_simp; done) | (go_simp; rfl)); intro w32 hw; replace BK179 := bw BK179 hw; replace BK183 : Aside0 (w32.heap[gb183]? = some (.cells #[.int .i64 t180, .int .i64 t181, .string t182] 48 (0, 0))) := bp BK183 hw; replace HB := bv hw; clear hw; have hcz33_0 : w32.cell? ⟨gb183, 0, none⟩ = some (.int .i64 t180) := (blk_cell BK183.out 0).trans rfl; have hcz33_1 : w32.cell? ⟨gb183, 1, none⟩ = some (.int .i64 t181) := (blk_cell BK183.out 1).trans rfl; have hcz33_2 : w32.cell? ⟨gb183, 2, none⟩ = some (.string t182) := (blk_cell BK183.out 2).trans rfl; have hfz33_0 := blk_frozen BK183.out 0; have hfz33_1 := blk_frozen BK183.out 1; have hfz33_2 := blk_frozen BK183.out 2) | ((with_reducible refine gate_callee (f := 39) rfl ?_); refine gL (some 11) Tryz.func39 #[.agg #[.int .i64 t180, .int .i64 t181, .string t182]] ?_; (with_reducible refine (unisonref01_Print.calls k t180 t181 t182 t184 t185 _ A3.out).mono ?_); rintro e w34 ⟨rfl, hb⟩; refine ⟨_, rfl, ?_⟩; replace BK179 := bb BK179 hb; replace BK183 := bb BK183 hb; replace HB := bs hb; (try clear hb); (try clear hb2); (try clear hk); (try clear hi); have hcz35_0 : w34.cell? ⟨gb179, 0, none⟩ = some (.int .i64 0) := (blk_cell BK179.out 0).trans rfl; have hcz35_1 : w34.cell? ⟨gb179, 1, none⟩ = some (.int .i64 0) := (blk_cell BK179.out 1).trans rfl; have hcz35_2 : w34.cell? ⟨gb179, 2, none⟩ = some (.string (⟨#[]⟩ : ByteArray)) := (blk_cell BK179.out 2).trans rfl; have hfz35_0 := blk_frozen BK179.out 0; have hfz35_1 := blk_frozen BK179.out 1; have hfz35_2 := blk_frozen BK179.out 2) | ((with_reducible refine gate_store (t := 48) (p := 2) rfl ?_); refine store_event (t := 48) (p := 2) (v := ?vo_w36) (w1 := (((w34.setCell ⟨gb179, 0, none⟩ (.int .i64 0)).setCell ⟨gb179, 1, none⟩ (.int .i64 0)).setCell ⟨gb179, 2, none⟩ (.string (⟨#[]⟩ : ByteArray)))) ?hg ?ho ?hn ?hr ?_; (case ho => rfl); (case hg => rfl); (case hn => rfl); (case hr => first | (go_simp; done) | (go_simp; rfl)); intro w36 hw; replace BK179 : Aside0 (w36.heap[gb179]? = some (.cells #[.int .i64 0, .int .i64 0, .string (⟨#[]⟩ : ByteArray)] 48 (0, 0))) := bp BK179 hw; replace BK183 := bw BK183 hw; replace HB := bv hw; clear hw))
  refine bodyPost_ret (results_ct rfl _ _ gb179 48 #[.int .i64 0, .int .i64 0, .string (⟨#[]⟩ : ByteArray)] (0, 0) _ rfl (by (with_reducible repeat (first | refine blk_drewN ?_ _ | refine blk_drew ?_ | refine blk_alloc ?_ _)); exact BK179.out) Tryz.underlying48 rfl (by kernel_rfl)) rfl ?_
  exact ⟨by first | rfl | (simp [errW_none, errW_some] <;> rfl) | (simp [*, errW_none, errW_some] <;> rfl), by repeat (first | (with_reducible first | exact HB.out | apply below_alloc | apply pw_below_drewN | apply below_drew1 | refine below_set ?_ GE179.out | refine below_set ?_ GE183.out) | exact HB.out)⟩
end Go.Proofs.YtllehkjebikgpaaGreatDoor.PA
end
