-- Laid by a program of ours (wip/gen/xprint.py). Not trusted: Lean checks it.
import Derived.Test.YtllehkjebikgpaaDoorPAx0
import Derived.Test.YtllehkjebikgpaaDoorMD
import Derived.Test.YtllehkjebikgpaaDoorPFRRight
import Derived.Test.YtllehkjebikgpaaDoorX6
import Derived.Test.YtllehkjebikgpaaDoorXC
namespace Go.Proofs.YtllehkjebikgpaaDoor.PA
open Go.RowKit Go.Proofs.YtllehkjebikgpaaDoorW.PrintWords Go.Proofs.YtllehkjebikgpaaDoorW.PrintLast Go.Proofs.YtllehkjebikgpaaDoorW.PrintMore Go.Proofs.YtllehkjebikgpaaDoorX
attribute [local go_sem] max2_int min2_int max_two min_two max_three min_three max_four min_four   -- for this text's walks alone
set_option linter.unusedVariables false
set_option linter.unusedSimpArgs false

/-! ### unisonlaw10_LexValues: function 7 -/
mutual
def unisonlaw10_LexValues.j0 : Nat → Bool → Bool → ByteArray → Int → Int → Int → ByteArray → Option (Bool)
 | 0, _, _, _, _, _, _, _ => none
 | k + 1, x3, x4, x5, x6, x204000, x204001, x204002 => if x4 = true then (if x204000 = 3 then (unisonlaw10_LexValues.j1 k x3 x5 x6 false x204000 x204001 x204002) else (if x204000 = 1 then (unisonlaw10_LexValues.j1 k x3 x5 x6 (decide (x204001 < 0)) x204000 x204001 x204002) else (unisonlaw10_LexValues.j1 k x3 x5 x6 true x204000 x204001 x204002))) else (unisonlaw10_LexValues.j1 k x3 x5 x6 true x204000 x204001 x204002)
def unisonlaw10_LexValues.j1 : Nat → Bool → ByteArray → Int → Bool → Int → Int → ByteArray → Option (Bool)
 | 0, _, _, _, _, _, _, _ => none
 | k + 1, x3, x5, x6, x34, x204000, x204001, x204002 => if x34 = true then (some x3) else ((lex_Scan.f k x5).bind fun bt208 => (unisonlaw10_LexValues.j2 k x3 x6 bt208.1 bt208.2.2 x204000 x204001 x204002))
def unisonlaw10_LexValues.j2 : Nat → Bool → Int → List (S29) → Int → Int → Int → ByteArray → Option (Bool)
 | 0, _, _, _, _, _, _, _ => none
 | k + 1, x3, x6, x7, x9, x204000, x204001, x204002 => if x6 = 0 then (if x9 = 0 then (if (x7.length : Int) = 2 then (if 0 < (x7.length : Int) then (unisonlaw10_LexValues.j3 k x3 x7 (((rd_T29 x7 0).f3) != 0) x204000 x204001 x204002) else (none)) else (unisonlaw10_LexValues.j3 k x3 x7 true x204000 x204001 x204002)) else (unisonlaw10_LexValues.j3 k x3 x7 true x204000 x204001 x204002)) else (unisonlaw10_LexValues.j3 k x3 x7 true x204000 x204001 x204002)
def unisonlaw10_LexValues.j3 : Nat → Bool → List (S29) → Bool → Int → Int → ByteArray → Option (Bool)
 | 0, _, _, _, _, _, _ => none
 | k + 1, x3, x7, x59, x204000, x204001, x204002 => if x59 = true then (none) else (if x204000 = 1 then (if x3 = true then (if 0 < (x7.length : Int) then (if ((rd_T29 x7 0).f0) = 2 then (some (((rd_T29 x7 0).f1) == x204001)) else (none)) else (none)) else (none)) else (if x3 = true then (if 0 < (x7.length : Int) then (if ((rd_T29 x7 0).f0) = 5 then (some (((rd_T29 x7 0).f2).toList == x204002.toList)) else (none)) else (none)) else (none)))
end
def unisonlaw10_LexValues.f (k : Nat) (a0_0 : Int) (a0_1 : Int) (a0_2 : ByteArray) : Option (Bool) := (unisonlaw10_awake.f k).bind fun t204 => ((unisonref01_Right.f a0_0 a0_1 a0_2).bind fun t205 => ((value_Print.f a0_0 a0_1 a0_2).bind fun bt206 => (unisonlaw10_LexValues.j0 k t204 t205 bt206.1 bt206.2 a0_0 a0_1 a0_2)))
theorem unisonlaw10_LexValues.mono_l : ∀ k, (∀ y0 y1 y2 y3 y4 y5 y6, LeO (unisonlaw10_LexValues.j0 k y0 y1 y2 y3 y4 y5 y6) (unisonlaw10_LexValues.j0 (k + 1) y0 y1 y2 y3 y4 y5 y6)) ∧ (∀ y0 y1 y2 y3 y4 y5 y6, LeO (unisonlaw10_LexValues.j1 k y0 y1 y2 y3 y4 y5 y6) (unisonlaw10_LexValues.j1 (k + 1) y0 y1 y2 y3 y4 y5 y6)) ∧ (∀ y0 y1 y2 y3 y4 y5 y6, LeO (unisonlaw10_LexValues.j2 k y0 y1 y2 y3 y4 y5 y6) (unisonlaw10_LexValues.j2 (k + 1) y0 y1 y2 y3 y4 y5 y6)) ∧ (∀ y0 y1 y2 y3 y4 y5, LeO (unisonlaw10_LexValues.j3 k y0 y1 y2 y3 y4 y5) (unisonlaw10_LexValues.j3 (k + 1) y0 y1 y2 y3 y4 y5))
 | 0 => ⟨fun _ _ _ _ _ _ _ r h => by simp [unisonlaw10_LexValues.j0] at h, fun _ _ _ _ _ _ _ r h => by simp [unisonlaw10_LexValues.j1] at h, fun _ _ _ _ _ _ _ r h => by simp [unisonlaw10_LexValues.j2] at h, fun _ _ _ _ _ _ r h => by simp [unisonlaw10_LexValues.j3] at h⟩
 | k + 1 => by
  obtain ⟨ih0, ih1, ih2, ih3⟩ := unisonlaw10_LexValues.mono_l k
  refine ⟨?_, ?_, ?_, ?_⟩
  ·
   intro y0 y1 y2 y3 y4 y5 y6
   unfold unisonlaw10_LexValues.j0
   repeat' first
   | (with_reducible exact ih0 _ _ _ _ _ _ _)
   | (with_reducible exact ih1 _ _ _ _ _ _ _)
   | (with_reducible exact ih2 _ _ _ _ _ _ _)
   | (with_reducible exact ih3 _ _ _ _ _ _)
   | (with_reducible exact lex_Scan.mono _ _)
   | (with_reducible exact unisonlaw10_awake.mono _)
   | (with_reducible exact LeO.refl _)
   | (with_reducible exact LeO.none _)
   | (with_reducible refine LeO.ite ?_ ?_)
   | (with_reducible refine LeO.bind ?_ (fun _ => ?_))
   | exact ih0 _ _ _ _ _ _ _
   | exact ih1 _ _ _ _ _ _ _
   | exact ih2 _ _ _ _ _ _ _
   | exact ih3 _ _ _ _ _ _
   | exact lex_Scan.mono _ _
   | exact unisonlaw10_awake.mono _
   | exact LeO.none _
   | refine LeO.ite ?_ ?_
   | refine LeO.bind ?_ (fun _ => ?_)
  ·
   intro y0 y1 y2 y3 y4 y5 y6
   unfold unisonlaw10_LexValues.j1
   repeat' first
   | (with_reducible exact ih0 _ _ _ _ _ _ _)
   | (with_reducible exact ih1 _ _ _ _ _ _ _)
   | (with_reducible exact ih2 _ _ _ _ _ _ _)
   | (with_reducible exact ih3 _ _ _ _ _ _)
   | (with_reducible exact lex_Scan.mono _ _)
   | (with_reducible exact unisonlaw10_awake.mono _)
   | (with_reducible exact LeO.refl _)
   | (with_reducible exact LeO.none _)
   | (with_reducible refine LeO.ite ?_ ?_)
   | (with_reducible refine LeO.bind ?_ (fun _ => ?_))
   | exact ih0 _ _ _ _ _ _ _
   | exact ih1 _ _ _ _ _ _ _
   | exact ih2 _ _ _ _ _ _ _
   | exact ih3 _ _ _ _ _ _
   | exact lex_Scan.mono _ _
   | exact unisonlaw10_awake.mono _
   | exact LeO.none _
   | refine LeO.ite ?_ ?_
   | refine LeO.bind ?_ (fun _ => ?_)
  ·
   intro y0 y1 y2 y3 y4 y5 y6
   unfold unisonlaw10_LexValues.j2
   repeat' first
   | (with_reducible exact ih0 _ _ _ _ _ _ _)
   | (with_reducible exact ih1 _ _ _ _ _ _ _)
   | (with_reducible exact ih2 _ _ _ _ _ _ _)
   | (with_reducible exact ih3 _ _ _ _ _ _)
   | (with_reducible exact lex_Scan.mono _ _)
   | (with_reducible exact unisonlaw10_awake.mono _)
   | (with_reducible exact LeO.refl _)
   | (with_reducible exact LeO.none _)
   | (with_reducible refine LeO.ite ?_ ?_)
   | (with_reducible refine LeO.bind ?_ (fun _ => ?_))
   | exact ih0 _ _ _ _ _ _ _
   | exact ih1 _ _ _ _ _ _ _
   | exact ih2 _ _ _ _ _ _ _
   | exact ih3 _ _ _ _ _ _
   | exact lex_Scan.mono _ _
   | exact unisonlaw10_awake.mono _
   | exact LeO.none _
   | refine LeO.ite ?_ ?_
   | refine LeO.bind ?_ (fun _ => ?_)
  ·
   intro y0 y1 y2 y3 y4 y5
   unfold unisonlaw10_LexValues.j3
   repeat' first
   | (with_reducible exact ih0 _ _ _ _ _ _ _)
   | (with_reducible exact ih1 _ _ _ _ _ _ _)
   | (with_reducible exact ih2 _ _ _ _ _ _ _)
   | (with_reducible exact ih3 _ _ _ _ _ _)
   | (with_reducible exact lex_Scan.mono _ _)
   | (with_reducible exact unisonlaw10_awake.mono _)
   | (with_reducible exact LeO.refl _)
   | (with_reducible exact LeO.none _)
   | (with_reducible refine LeO.ite ?_ ?_)
   | (with_reducible refine LeO.bind ?_ (fun _ => ?_))
   | exact ih0 _ _ _ _ _ _ _
   | exact ih1 _ _ _ _ _ _ _
   | exact ih2 _ _ _ _ _ _ _
   | exact ih3 _ _ _ _ _ _
   | exact lex_Scan.mono _ _
   | exact unisonlaw10_awake.mono _
   | exact LeO.none _
   | refine LeO.ite ?_ ?_
   | refine LeO.bind ?_ (fun _ => ?_)
theorem unisonlaw10_LexValues.mono : ∀ a0 a1 a2 k, LeO (unisonlaw10_LexValues.f k a0 a1 a2) (unisonlaw10_LexValues.f (k + 1) a0 a1 a2) := by
 intro a0 a1 a2 k
 obtain ⟨ih0, ih1, ih2, ih3⟩ := unisonlaw10_LexValues.mono_l k
 unfold unisonlaw10_LexValues.f
 repeat' first
   | (with_reducible exact ih0 _ _ _ _ _ _ _)
   | (with_reducible exact ih1 _ _ _ _ _ _ _)
   | (with_reducible exact ih2 _ _ _ _ _ _ _)
   | (with_reducible exact ih3 _ _ _ _ _ _)
   | (with_reducible exact lex_Scan.mono _ _)
   | (with_reducible exact unisonlaw10_awake.mono _)
   | (with_reducible exact LeO.refl _)
   | (with_reducible exact LeO.none _)
   | (with_reducible refine LeO.ite ?_ ?_)
   | (with_reducible refine LeO.bind ?_ (fun _ => ?_))
   | exact ih0 _ _ _ _ _ _ _
   | exact ih1 _ _ _ _ _ _ _
   | exact ih2 _ _ _ _ _ _ _
   | exact ih3 _ _ _ _ _ _
   | exact lex_Scan.mono _ _
   | exact unisonlaw10_awake.mono _
   | exact LeO.none _
   | refine LeO.ite ?_ ?_
   | refine LeO.bind ?_ (fun _ => ?_)
set_option maxHeartbeats 8000000 in
set_option maxRecDepth 100000 in
theorem unisonlaw10_LexValues.calls (k : Nat) (a0_0 : Int) (a0_1 : Int) (a0_2 : ByteArray) (r : Bool) (w : World) (h : unisonlaw10_LexValues.f k a0_0 a0_1 a0_2 = some r) (HG0 : Gw w) :
  Calls Tryd.prog 7 #[.agg #[.int .i64 a0_0, .int .i64 a0_1, .string a0_2]] w fun e w' => e = .returned (.bool r) ∧ Below w.heap.size w w' := by
 have HG := Aside0.mk HG0
 clear HG0
 have hu36 := Tryd.underlying36; have HB := Aside0.mk (Below.refl w.heap.size w); have H : ((unisonlaw10_awake.f k).bind fun t204 => ((unisonref01_Right.f a0_0 a0_1 a0_2).bind fun t205 => ((value_Print.f a0_0 a0_1 a0_2).bind fun bt206 => (unisonlaw10_LexValues.j0 k t204 t205 bt206.1 bt206.2 a0_0 a0_1 a0_2)))) = some r := h; clear h; replace H := Option.bind_eq_some_iff.mp H
 obtain ⟨t204, A20, H⟩ := H
 replace H : ((unisonref01_Right.f a0_0 a0_1 a0_2).bind fun t205 => ((value_Print.f a0_0 a0_1 a0_2).bind fun bt206 => (unisonlaw10_LexValues.j0 k t204 t205 bt206.1 bt206.2 a0_0 a0_1 a0_2))) = some r := H; have A2 := Aside0.mk A20; clear A20; replace H := Option.bind_eq_some_iff.mp H
 obtain ⟨t205, A30, H⟩ := H
 replace H : ((value_Print.f a0_0 a0_1 a0_2).bind fun bt206 => (unisonlaw10_LexValues.j0 k t204 t205 bt206.1 bt206.2 a0_0 a0_1 a0_2)) = some r := H; have A3 := Aside0.mk A30; clear A30; have HC4 := Aside0.mk H; clear H
 go_enter Tryd.func7, Tryd.ntmps7
 go_upto_region 3 with (first | ((with_reducible refine gate_dst (N := 1) rfl ?_); (try (refine gate_guard (by rfl) ?_; dsimp only)); refine box_event ?hg (N := 1) ?hd (cs := #[.int .i64 a0_0, .int .i64 a0_1, .string a0_2]) (t := 36) ?hr ?_; (case hd => rfl); (case hg => rfl); (case hr => first | (go_simp; done) | (go_simp; rfl)); intro gb203 hg w5 hbox hb; have BK203 := Aside0.mk (hbox); have GW203 := bz hg; have GE203 := bz hg; replace HB := bs hb; clear hb hbox hg) | (go_at_call 8; (with_reducible refine (unisonlaw10_awake.calls k  t204 _ A2.out (gk HG)).mono ?_); rintro e w6 ⟨rfl, hb⟩; replace BK203 := bb BK203 hb; replace HB := bs hb; (try clear hb); (try clear hb2); (try clear hk); (try clear hi); have hcz7_0 : w6.cell? ⟨gb203, 0, none⟩ = some (.int .i64 a0_0) := (blk_cell BK203.out 0).trans rfl; have hcz7_1 : w6.cell? ⟨gb203, 1, none⟩ = some (.int .i64 a0_1) := (blk_cell BK203.out 1).trans rfl; have hcz7_2 : w6.cell? ⟨gb203, 2, none⟩ = some (.string a0_2) := (blk_cell BK203.out 2).trans rfl; have hfz7_0 := blk_frozen BK203.out 0; have hfz7_1 := blk_frozen BK203.out 1; have hfz7_2 := blk_frozen BK203.out 2) | (go_at_call 15; (with_reducible refine (unisonref01_Right.calls a0_0 a0_1 a0_2 t205 _ A3.out).mono ?_); rintro e w8 ⟨rfl, hb⟩; replace BK203 := bb BK203 hb; replace HB := bs hb; (try clear hb); (try clear hb2); (try clear hk); (try clear hi)))
 repeat (go_quiet (first | ((with_reducible refine gate_dst (N := 1) rfl ?_); (try (refine gate_guard (by rfl) ?_; dsimp only)); refine box_event ?hg (N := 1) ?hd (cs := #[.int .i64 a0_0, .int .i64 a0_1, .string a0_2]) (t := 36) ?hr ?_; (case hd => rfl); (case hg => rfl); (case hr => first | (go_simp; done) | (go_simp; rfl)); intro gb203 hg w5 hbox hb; have BK203 := Aside0.mk (hbox); have GW203 := bz hg; have GE203 := bz hg; replace HB := bs hb; clear hb hbox hg) | (go_at_call 8; (with_reducible refine (unisonlaw10_awake.calls k  t204 _ A2.out (gk HG)).mono ?_); rintro e w6 ⟨rfl, hb⟩; replace BK203 := bb BK203 hb; replace HB := bs hb; (try clear hb); (try clear hb2); (try clear hk); (try clear hi); have hcz7_0 : w6.cell? ⟨gb203, 0, none⟩ = some (.int .i64 a0_0) := (blk_cell BK203.out 0).trans rfl; have hcz7_1 : w6.cell? ⟨gb203, 1, none⟩ = some (.int .i64 a0_1) := (blk_cell BK203.out 1).trans rfl; have hcz7_2 : w6.cell? ⟨gb203, 2, none⟩ = some (.string a0_2) := (blk_cell BK203.out 2).trans rfl; have hfz7_0 := blk_frozen BK203.out 0; have hfz7_1 := blk_frozen BK203.out 1; have hfz7_2 := blk_frozen BK203.out 2) | (go_at_call 15; (with_reducible refine (unisonref01_Right.calls a0_0 a0_1 a0_2 t205 _ A3.out).mono ?_); rintro e w8 ⟨rfl, hb⟩; replace BK203 := bb BK203 hb; replace HB := bs hb; (try clear hb); (try clear hb2); (try clear hk); (try clear hi))); go_upto_region 3 with (first | ((with_reducible refine gate_dst (N := 1) rfl ?_); (try (refine gate_guard (by rfl) ?_; dsimp only)); refine box_event ?hg (N := 1) ?hd (cs := #[.int .i64 a0_0, .int .i64 a0_1, .string a0_2]) (t := 36) ?hr ?_; (case hd => rfl); (case hg => rfl); (case hr => first | (go_simp; done) | (go_simp; rfl)); intro gb203 hg w5 hbox hb; have BK203 := Aside0.mk (hbox); have GW203 := bz hg; have GE203 := bz hg; replace HB := bs hb; clear hb hbox hg) | (go_at_call 8; (with_reducible refine (unisonlaw10_awake.calls k  t204 _ A2.out (gk HG)).mono ?_); rintro e w6 ⟨rfl, hb⟩; replace BK203 := bb BK203 hb; replace HB := bs hb; (try clear hb); (try clear hb2); (try clear hk); (try clear hi); have hcz7_0 : w6.cell? ⟨gb203, 0, none⟩ = some (.int .i64 a0_0) := (blk_cell BK203.out 0).trans rfl; have hcz7_1 : w6.cell? ⟨gb203, 1, none⟩ = some (.int .i64 a0_1) := (blk_cell BK203.out 1).trans rfl; have hcz7_2 : w6.cell? ⟨gb203, 2, none⟩ = some (.string a0_2) := (blk_cell BK203.out 2).trans rfl; have hfz7_0 := blk_frozen BK203.out 0; have hfz7_1 := blk_frozen BK203.out 1; have hfz7_2 := blk_frozen BK203.out 2) | (go_at_call 15; (with_reducible refine (unisonref01_Right.calls a0_0 a0_1 a0_2 t205 _ A3.out).mono ?_); rintro e w8 ⟨rfl, hb⟩; replace BK203 := bb BK203 hb; replace HB := bs hb; (try clear hb); (try clear hb2); (try clear hk); (try clear hi))))
 (try simp only [Act.put, List.setIfInBounds_toArray, List.set_cons_zero, List.set_cons_succ])
 go_cut [5, 6] (fun v5 v6 wc => ∃ (kq : Nat) (x5_3 : ByteArray) (x6_3 : Int), v5 = .string x5_3 ∧ v6 = .int .i64 x6_3 ∧ Aside0 (unisonlaw10_LexValues.j0 kq t204 t205 x5_3 x6_3 a0_0 a0_1 a0_2 = some r) ∧ Aside0 (kq ≤ k) ∧ Aside0 (wc.heap[gb203]? = some (.cells #[.int .i64 a0_0, .int .i64 a0_1, .string a0_2] 36 (0, 0))) ∧ Aside0 (Below w.heap.size w wc))
 case first =>
  have H := HC4.out; clear HC4; replace H := Option.bind_eq_some_iff.mp H
  obtain ⟨⟨t206, t207⟩, A90, H⟩ := H
  replace H : (unisonlaw10_LexValues.j0 k t204 t205 t206 t207 a0_0 a0_1 a0_2) = some r := H; have A9 := Aside0.mk A90; clear A90
  have H' := Aside0.mk H
  clear H; have hcz10_0 : w8.cell? ⟨gb203, 0, none⟩ = some (.int .i64 a0_0) := (blk_cell BK203.out 0).trans rfl; have hcz10_1 : w8.cell? ⟨gb203, 1, none⟩ = some (.int .i64 a0_1) := (blk_cell BK203.out 1).trans rfl; have hcz10_2 : w8.cell? ⟨gb203, 2, none⟩ = some (.string a0_2) := (blk_cell BK203.out 2).trans rfl; have hfz10_0 := blk_frozen BK203.out 0; have hfz10_1 := blk_frozen BK203.out 1; have hfz10_2 := blk_frozen BK203.out 2
  go_wp2_with (first | (go_at_call 16; (with_reducible refine (value_Print.calls a0_0 a0_1 a0_2 t206 t207 _ A9.out (gk HG)).mono ?_); rintro e w11 ⟨rfl, hb⟩; replace BK203 := bb BK203 hb; replace HB := bs hb; (try clear hb); (try clear hb2); (try clear hk); (try clear hi)))
  repeat (go_quiet (first | (go_at_call 16; (with_reducible refine (value_Print.calls a0_0 a0_1 a0_2 t206 t207 _ A9.out (gk HG)).mono ?_); rintro e w11 ⟨rfl, hb⟩; replace BK203 := bb BK203 hb; replace HB := bs hb; (try clear hb); (try clear hb2); (try clear hk); (try clear hi))); try go_wp2_with (first | (go_at_call 16; (with_reducible refine (value_Print.calls a0_0 a0_1 a0_2 t206 t207 _ A9.out (gk HG)).mono ?_); rintro e w11 ⟨rfl, hb⟩; replace BK203 := bb BK203 hb; replace HB := bs hb; (try clear hb); (try clear hb2); (try clear hk); (try clear hi))))
  go_meet
  case rel => exact ⟨_, (t206), (t207), (by first | rfl | (simp; done) | (simp [*]; done)), (by first | rfl | (simp; done) | (simp [*]; done)), H', ⟨by first | omega | exact Nat.le_refl _⟩, ⟨by (with_reducible repeat (first | refine blk_drewN ?_ _ | refine blk_drew ?_ | refine blk_alloc ?_ _)); exact BK203.out⟩, ⟨by repeat (first | (with_reducible first | exact HB.out | apply below_alloc | apply pw_below_drewN | apply below_drew1 | refine below_set ?_ GE203.out) | exact HB.out)⟩⟩
 case rest =>
  clear HC4; (try clear p2); (try clear c7); (try clear hcz10_0); (try clear hcz10_1); (try clear hcz10_2); (try clear hcz7_0); (try clear hcz7_1); (try clear hcz7_2); (try clear hfz10_0); (try clear hfz10_1); (try clear hfz10_2); (try clear hfz7_0); (try clear hfz7_1); (try clear hfz7_2)
  obtain ⟨kq, x5_3, x6_3, rfl, rfl, HA, HJ3, BK203, HB⟩ := hcut
  cases kq with
  | zero => exact absurd HA.out (by simp [unisonlaw10_LexValues.j0])
  | succ kj3 =>
   have H := HA.out; clear HA
   simp only [unisonlaw10_LexValues.j0] at H
   have HC12 := Aside0.mk H; clear H
   go_upto_region 4 with (fail)
   repeat (go_quiet (fail); go_upto_region 4 with (fail))
   go_cut [34] (fun v34 wc => ∃ (kq : Nat) (x34_11 : Bool), v34 = .bool x34_11 ∧ Aside0 (unisonlaw10_LexValues.j1 kq t204 x5_3 x6_3 x34_11 a0_0 a0_1 a0_2 = some r) ∧ Aside0 (kq ≤ kj3) ∧ Aside0 (wc.heap[gb203]? = some (.cells #[.int .i64 a0_0, .int .i64 a0_1, .string a0_2] 36 (0, 0))) ∧ Aside0 (Below w.heap.size w wc))
   case first =>
    have H := HC12.out; clear HC12
    by_cases c13 : t205 = true
    ·
     subst c13
     have H1 : (if a0_0 = 3 then (unisonlaw10_LexValues.j1 kj3 t204 x5_3 x6_3 false a0_0 a0_1 a0_2) else (if a0_0 = 1 then (unisonlaw10_LexValues.j1 kj3 t204 x5_3 x6_3 (decide (a0_1 < 0)) a0_0 a0_1 a0_2) else (unisonlaw10_LexValues.j1 kj3 t204 x5_3 x6_3 true a0_0 a0_1 a0_2))) = some r := by rw [if_pos rfl] at H; exact H
     clear H; have H := H1; clear H1
     by_cases c14 : a0_0 = 3
     ·
      rw [if_pos c14] at H
      have c14b0 : (a0_0 == 3) = true := beq_iff_eq.mpr c14; have c14b1 : (a0_0 != 3) = false := bne_eq_false_iff_eq.mpr c14; clear c14
      (first | rw [c14b0] | (simp only [i64_w, i32_w, u8_w, u32_w]; rw [c14b0]) | rw [c14b1] | skip)
      have H' := Aside0.mk H
      clear H; have hcz15_0 : wc.cell? ⟨gb203, 0, none⟩ = some (.int .i64 a0_0) := (blk_cell BK203.out 0).trans rfl; have hcz15_1 : wc.cell? ⟨gb203, 1, none⟩ = some (.int .i64 a0_1) := (blk_cell BK203.out 1).trans rfl; have hcz15_2 : wc.cell? ⟨gb203, 2, none⟩ = some (.string a0_2) := (blk_cell BK203.out 2).trans rfl; have hfz15_0 := blk_frozen BK203.out 0; have hfz15_1 := blk_frozen BK203.out 1; have hfz15_2 := blk_frozen BK203.out 2
      go_wp2
      repeat (go_quiet (fail); try go_wp2)
      go_meet
      case rel => exact ⟨_, (false), (by first | rfl | (simp; done) | (simp [*]; done)), H', ⟨by have := HJ3.out; first | omega | exact Nat.le_refl _⟩, ⟨by (with_reducible repeat (first | refine blk_drewN ?_ _ | refine blk_drew ?_ | refine blk_alloc ?_ _)); exact BK203.out⟩, ⟨by repeat (first | (with_reducible first | exact HB.out | apply below_alloc | apply pw_below_drewN | apply below_drew1 | refine below_set ?_ GE203.out) | exact HB.out)⟩⟩
     ·
      rw [if_neg c14] at H
      have c14b0 : (a0_0 == 3) = false := beq_eq_false_iff_ne.mpr c14; have c14b1 : (a0_0 != 3) = true := bne_iff_ne.mpr c14
      (first | rw [c14b0] | (simp only [i64_w, i32_w, u8_w, u32_w]; rw [c14b0]) | rw [c14b1] | skip)
      by_cases c16 : a0_0 = 1
      ·
       rw [if_pos c16] at H
       have c16b0 : (a0_0 == 1) = true := beq_iff_eq.mpr c16; have c16b1 : (a0_0 != 1) = false := bne_eq_false_iff_eq.mpr c16; clear c16
       have H' := Aside0.mk H
       clear H; have hcz17_0 : wc.cell? ⟨gb203, 0, none⟩ = some (.int .i64 a0_0) := (blk_cell BK203.out 0).trans rfl; have hcz17_1 : wc.cell? ⟨gb203, 1, none⟩ = some (.int .i64 a0_1) := (blk_cell BK203.out 1).trans rfl; have hcz17_2 : wc.cell? ⟨gb203, 2, none⟩ = some (.string a0_2) := (blk_cell BK203.out 2).trans rfl; have hfz17_0 := blk_frozen BK203.out 0; have hfz17_1 := blk_frozen BK203.out 1; have hfz17_2 := blk_frozen BK203.out 2
       go_wp2
       repeat (go_quiet (fail); try go_wp2)
       go_meet
       case rel => exact ⟨_, (decide (a0_1 < 0)), (by first | rfl | (simp; done) | (simp [*]; done)), H', ⟨by have := HJ3.out; first | omega | exact Nat.le_refl _⟩, ⟨by (with_reducible repeat (first | refine blk_drewN ?_ _ | refine blk_drew ?_ | refine blk_alloc ?_ _)); exact BK203.out⟩, ⟨by repeat (first | (with_reducible first | exact HB.out | apply below_alloc | apply pw_below_drewN | apply below_drew1 | refine below_set ?_ GE203.out) | exact HB.out)⟩⟩
      ·
       rw [if_neg c16] at H
       have c16b0 : (a0_0 == 1) = false := beq_eq_false_iff_ne.mpr c16; have c16b1 : (a0_0 != 1) = true := bne_iff_ne.mpr c16
       have H' := Aside0.mk H
       clear H; have hcz18_0 : wc.cell? ⟨gb203, 0, none⟩ = some (.int .i64 a0_0) := (blk_cell BK203.out 0).trans rfl; have hcz18_1 : wc.cell? ⟨gb203, 1, none⟩ = some (.int .i64 a0_1) := (blk_cell BK203.out 1).trans rfl; have hcz18_2 : wc.cell? ⟨gb203, 2, none⟩ = some (.string a0_2) := (blk_cell BK203.out 2).trans rfl; have hfz18_0 := blk_frozen BK203.out 0; have hfz18_1 := blk_frozen BK203.out 1; have hfz18_2 := blk_frozen BK203.out 2
       go_wp2
       repeat (go_quiet (fail); try go_wp2)
       go_meet
       case rel => exact ⟨_, (true), (by first | rfl | (simp; done) | (simp [*]; done)), H', ⟨by have := HJ3.out; first | omega | exact Nat.le_refl _⟩, ⟨by (with_reducible repeat (first | refine blk_drewN ?_ _ | refine blk_drew ?_ | refine blk_alloc ?_ _)); exact BK203.out⟩, ⟨by repeat (first | (with_reducible first | exact HB.out | apply below_alloc | apply pw_below_drewN | apply below_drew1 | refine below_set ?_ GE203.out) | exact HB.out)⟩⟩
    ·
     replace c13 := Bool.eq_false_iff.mpr c13
     subst c13
     have H1 : (unisonlaw10_LexValues.j1 kj3 t204 x5_3 x6_3 true a0_0 a0_1 a0_2) = some r := by rw [if_neg (show ¬ (false = true) by decide)] at H; exact H
     clear H; have H := H1; clear H1
     have H' := Aside0.mk H
     clear H
     go_wp2
     repeat (go_quiet (fail); try go_wp2)
     go_meet
     case rel => exact ⟨_, (true), (by first | rfl | (simp; done) | (simp [*]; done)), H', ⟨by have := HJ3.out; first | omega | exact Nat.le_refl _⟩, ⟨by (with_reducible repeat (first | refine blk_drewN ?_ _ | refine blk_drew ?_ | refine blk_alloc ?_ _)); exact BK203.out⟩, ⟨by repeat (first | (with_reducible first | exact HB.out | apply below_alloc | apply pw_below_drewN | apply below_drew1 | refine below_set ?_ GE203.out) | exact HB.out)⟩⟩
   case rest =>
    clear HC12; (try clear c1); (try clear p2); (try clear c7); (try clear c13); (try clear c14); (try clear c14b0); (try clear c14b1); (try clear c16); (try clear c16b0); (try clear c16b1); (try clear hcz10_0); (try clear hcz10_1); (try clear hcz10_2); (try clear hcz15_0); (try clear hcz15_1); (try clear hcz15_2); (try clear hcz17_0); (try clear hcz17_1); (try clear hcz17_2); (try clear hcz18_0); (try clear hcz18_1); (try clear hcz18_2); (try clear hcz7_0); (try clear hcz7_1); (try clear hcz7_2); (try clear hfz10_0); (try clear hfz10_1); (try clear hfz10_2); (try clear hfz15_0); (try clear hfz15_1); (try clear hfz15_2); (try clear hfz17_0); (try clear hfz17_1); (try clear hfz17_2); (try clear hfz18_0); (try clear hfz18_1); (try clear hfz18_2); (try clear hfz7_0); (try clear hfz7_1); (try clear hfz7_2); (try clear p2)
    obtain ⟨kq, x34_11, rfl, HA, HJ11, BK203, HB⟩ := hcut
    cases kq with
    | zero => exact absurd HA.out (by simp [unisonlaw10_LexValues.j1])
    | succ kj11 =>
     have H := HA.out; clear HA
     simp only [unisonlaw10_LexValues.j1] at H
     by_cases c19 : x34_11 = true
     ·
      subst c19
      have H1 : (some t204) = some r := by rw [if_pos rfl] at H; exact H
      clear H; have H := H1; clear H1
      obtain rfl := Option.some.inj H
      go_wp2
      repeat (go_quiet (fail); try go_wp2)
      go_ret
      exact ⟨by first | rfl | (simp [errW_none, errW_some] <;> rfl) | (simp [*, errW_none, errW_some] <;> rfl), by repeat (first | (with_reducible first | exact HB.out | apply below_alloc | apply pw_below_drewN | apply below_drew1 | refine below_set ?_ GE203.out) | exact HB.out)⟩
     ·
      replace c19 := Bool.eq_false_iff.mpr c19
      subst c19
      have H1 : ((lex_Scan.f kj11 x5_3).bind fun bt208 => (unisonlaw10_LexValues.j2 kj11 t204 x6_3 bt208.1 bt208.2.2 a0_0 a0_1 a0_2)) = some r := by rw [if_neg (show ¬ (false = true) by decide)] at H; exact H
      clear H; have H := H1; clear H1; have HC20 := Aside0.mk H; clear H
      go_upto_region 6 with (fail)
      repeat (go_quiet (fail); go_upto_region 6 with (fail))
      go_cut [7, 9] (fun v7 v9 wc => ∃ (kq : Nat) (x7_19 : List (S29)) (x9_19 : Int), v9 = .int .i64 x9_19 ∧ Aside0 (unisonlaw10_LexValues.j2 kq t204 x6_3 x7_19 x9_19 a0_0 a0_1 a0_2 = some r) ∧ Aside0 (kq ≤ kj11) ∧ Aside0 (Kd.R k29 29 wc w.heap.size (fun _ => True) v7 x7_19) ∧ Aside0 (wc.heap[gb203]? = some (.cells #[.int .i64 a0_0, .int .i64 a0_1, .string a0_2] 36 (0, 0))) ∧ Aside0 (Below w.heap.size w wc))
      case first =>
       have H := HC20.out; clear HC20; replace H := Option.bind_eq_some_iff.mp H
       obtain ⟨⟨t208, t209, t210⟩, A210, H⟩ := H
       replace H : (unisonlaw10_LexValues.j2 kj11 t204 x6_3 t208 t210 a0_0 a0_1 a0_2) = some r := H; have A21 := Aside0.mk A210; clear A210
       have H' := Aside0.mk H
       clear H
       go_wp2_with (first | (go_at_call 13; (with_reducible refine (lex_Scan.calls kj11 x5_3 t208 t209 t210 _ A21.out (gk HG)).mono ?_); rintro e w22 ⟨v211, rfl, ho0, hb⟩; have HO212 := Aside0.mk (Kd.R_lower ho0 (below_size bel)); replace BK203 := bb BK203 hb; replace HB := bs hb; (try clear hb); (try clear hb2); (try clear hk); (try clear hi); (try clear ho0)))
       repeat (go_quiet (first | (go_at_call 13; (with_reducible refine (lex_Scan.calls kj11 x5_3 t208 t209 t210 _ A21.out (gk HG)).mono ?_); rintro e w22 ⟨v211, rfl, ho0, hb⟩; have HO212 := Aside0.mk (Kd.R_lower ho0 (below_size bel)); replace BK203 := bb BK203 hb; replace HB := bs hb; (try clear hb); (try clear hb2); (try clear hk); (try clear hi); (try clear ho0))); try go_wp2_with (first | (go_at_call 13; (with_reducible refine (lex_Scan.calls kj11 x5_3 t208 t209 t210 _ A21.out (gk HG)).mono ?_); rintro e w22 ⟨v211, rfl, ho0, hb⟩; have HO212 := Aside0.mk (Kd.R_lower ho0 (below_size bel)); replace BK203 := bb BK203 hb; replace HB := bs hb; (try clear hb); (try clear hb2); (try clear hk); (try clear hi); (try clear ho0))))
       go_meet
       case rel => exact ⟨_, (t208), (t210), (by first | rfl | (simp; done) | (simp [*]; done)), H', ⟨by have := HJ3.out; have := HJ11.out; first | omega | exact Nat.le_refl _⟩, ⟨by (with_reducible repeat (first | apply Kd.R_alloc | apply Kd.R_drewN | apply Kd.R_drew)); exact HO212.out⟩, ⟨by (with_reducible repeat (first | refine blk_drewN ?_ _ | refine blk_drew ?_ | refine blk_alloc ?_ _)); exact BK203.out⟩, ⟨by repeat (first | (with_reducible first | exact HB.out | apply below_alloc | apply pw_below_drewN | apply below_drew1 | refine below_set ?_ GE203.out) | exact HB.out)⟩⟩
      case rest =>
       clear HC20; (try clear c1); (try clear p2); (try clear c7); (try clear c13); (try clear c14); (try clear c14b0); (try clear c14b1); (try clear c16); (try clear c16b0); (try clear c16b1); (try clear c19); (try clear hcz10_0); (try clear hcz10_1); (try clear hcz10_2); (try clear hcz15_0); (try clear hcz15_1); (try clear hcz15_2); (try clear hcz17_0); (try clear hcz17_1); (try clear hcz17_2); (try clear hcz18_0); (try clear hcz18_1); (try clear hcz18_2); (try clear hcz7_0); (try clear hcz7_1); (try clear hcz7_2); (try clear hfz10_0); (try clear hfz10_1); (try clear hfz10_2); (try clear hfz15_0); (try clear hfz15_1); (try clear hfz15_2); (try clear hfz17_0); (try clear hfz17_1); (try clear hfz17_2); (try clear hfz18_0); (try clear hfz18_1); (try clear hfz18_2); (try clear hfz7_0); (try clear hfz7_1); (try clear hfz7_2); (try clear p2)
       obtain ⟨kq, x7_19, x9_19, rfl, HA, HJ19, HO_7, BK203, HB⟩ := hcut
       cases kq with
       | zero => exact absurd HA.out (by simp [unisonlaw10_LexValues.j2])
       | succ kj19 =>
        have H := HA.out; clear HA
        simp only [unisonlaw10_LexValues.j2] at H
        have HC23 := Aside0.mk H; clear H
        go_upto_region 7 with (fail)
        repeat (go_quiet (fail); go_upto_region 7 with (fail))
        go_cut [59] (fun v59 wc => ∃ (kq : Nat) (x59_22 : Bool), v59 = .bool x59_22 ∧ Aside0 (unisonlaw10_LexValues.j3 kq t204 x7_19 x59_22 a0_0 a0_1 a0_2 = some r) ∧ Aside0 (kq ≤ kj19) ∧ Aside0 (Kd.R k29 29 wc w.heap.size (fun _ => True) u7 x7_19) ∧ Aside0 (wc.heap[gb203]? = some (.cells #[.int .i64 a0_0, .int .i64 a0_1, .string a0_2] 36 (0, 0))) ∧ Aside0 (Below w.heap.size w wc))
        case first =>
         have H := HC23.out; clear HC23
         by_cases c24 : x6_3 = 0
         ·
          rw [if_pos c24] at H
          have c24b0 : (x6_3 == 0) = true := beq_iff_eq.mpr c24; have c24b1 : (x6_3 != 0) = false := bne_eq_false_iff_eq.mpr c24; clear c24
          (first | rw [c24b0] | (simp only [i64_w, i32_w, u8_w, u32_w]; rw [c24b0]) | rw [c24b1] | skip)
          by_cases c25 : x9_19 = 0
          ·
           rw [if_pos c25] at H
           have c25b0 : (x9_19 == 0) = true := beq_iff_eq.mpr c25; have c25b1 : (x9_19 != 0) = false := bne_eq_false_iff_eq.mpr c25; clear c25
           by_cases c26 : (x7_19.length : Int) = 2
           ·
            rw [if_pos c26] at H
            have c26b0 : ((x7_19.length : Int) == 2) = true := beq_iff_eq.mpr c26; have c26b1 : ((x7_19.length : Int) != 2) = false := bne_eq_false_iff_eq.mpr c26; clear c26
            by_cases c27 : 0 < (x7_19.length : Int)
            ·
             rw [if_pos c27] at H
             have c27b0 : decide (0 < (x7_19.length : Int)) = true := decide_eq_true c27; have c27b1 : decide (0 < x7_19.length) = true := decide_eq_true (by omega); clear c27
             have H' := Aside0.mk H
             clear H
             obtain ⟨Ao28, co28, eo28⟩ := Kd.R_slice HO_7.out
             subst eo28
             have p213 : 0 ≤ (0 : Int) := (by omega); have q213 : 0 < (x7_19.length : Int) := of_decide_eq_true (by first | (with_reducible assumption) | assumption)
             obtain ⟨ad213, e213, hx213_0, hx213_1, hx213_2, hx213_3⟩ := at_T29 (Kd.R_reads' HO_7.out).2.2 0 p213 q213
             cases e213
             have qi213 : (0 < x7_19.length) = True := eq_true (by omega)
             (try rw [show ((0 : Int)).toNat = 0 from rfl] at hx213_0)
             (try rw [show 0 * 4 = 0 from rfl] at hx213_0)
             (try rw [Addr.add_zero'] at hx213_0)
             (try rw [show ((0 : Int)).toNat = 0 from rfl] at hx213_1)
             (try rw [show 0 * 4 = 0 from rfl] at hx213_1)
             (try rw [Addr.add_zero'] at hx213_1)
             (try rw [show ((0 : Int)).toNat = 0 from rfl] at hx213_2)
             (try rw [show 0 * 4 = 0 from rfl] at hx213_2)
             (try rw [Addr.add_zero'] at hx213_2)
             (try rw [show ((0 : Int)).toNat = 0 from rfl] at hx213_3)
             (try rw [show 0 * 4 = 0 from rfl] at hx213_3)
             (try rw [Addr.add_zero'] at hx213_3)
             replace p213 := eq_true p213; replace q213 := eq_true q213
             go_wp2
             repeat (go_quiet (fail); try go_wp2)
             go_meet
             case rel => exact ⟨_, ((((rd_T29 x7_19 0).f3) != 0)), (by first | rfl | (simp; done) | (simp [*]; done)), H', ⟨by have := HJ3.out; have := HJ11.out; have := HJ19.out; first | omega | exact Nat.le_refl _⟩, ⟨by (with_reducible repeat (first | apply Kd.R_alloc | apply Kd.R_drewN | apply Kd.R_drew)); exact HO_7.out⟩, ⟨by (with_reducible repeat (first | refine blk_drewN ?_ _ | refine blk_drew ?_ | refine blk_alloc ?_ _)); exact BK203.out⟩, ⟨by repeat (first | (with_reducible first | exact HB.out | apply below_alloc | apply pw_below_drewN | apply below_drew1 | refine below_set ?_ GE203.out) | exact HB.out)⟩⟩
            ·
             rw [if_neg c27] at H
             exact absurd H (by simp)
           ·
            rw [if_neg c26] at H
            have c26b0 : ((x7_19.length : Int) == 2) = false := beq_eq_false_iff_ne.mpr c26; have c26b1 : ((x7_19.length : Int) != 2) = true := bne_iff_ne.mpr c26
            have H' := Aside0.mk H
            clear H
            obtain ⟨Ao29, co29, eo29⟩ := Kd.R_slice HO_7.out
            subst eo29
            go_wp2
            repeat (go_quiet (fail); try go_wp2)
            go_meet
            case rel => exact ⟨_, (true), (by first | rfl | (simp; done) | (simp [*]; done)), H', ⟨by have := HJ3.out; have := HJ11.out; have := HJ19.out; first | omega | exact Nat.le_refl _⟩, ⟨by (with_reducible repeat (first | apply Kd.R_alloc | apply Kd.R_drewN | apply Kd.R_drew)); exact HO_7.out⟩, ⟨by (with_reducible repeat (first | refine blk_drewN ?_ _ | refine blk_drew ?_ | refine blk_alloc ?_ _)); exact BK203.out⟩, ⟨by repeat (first | (with_reducible first | exact HB.out | apply below_alloc | apply pw_below_drewN | apply below_drew1 | refine below_set ?_ GE203.out) | exact HB.out)⟩⟩
          ·
           rw [if_neg c25] at H
           have c25b0 : (x9_19 == 0) = false := beq_eq_false_iff_ne.mpr c25; have c25b1 : (x9_19 != 0) = true := bne_iff_ne.mpr c25
           have H' := Aside0.mk H
           clear H
           go_wp2
           repeat (go_quiet (fail); try go_wp2)
           go_meet
           case rel => exact ⟨_, (true), (by first | rfl | (simp; done) | (simp [*]; done)), H', ⟨by have := HJ3.out; have := HJ11.out; have := HJ19.out; first | omega | exact Nat.le_refl _⟩, ⟨by (with_reducible repeat (first | apply Kd.R_alloc | apply Kd.R_drewN | apply Kd.R_drew)); exact HO_7.out⟩, ⟨by (with_reducible repeat (first | refine blk_drewN ?_ _ | refine blk_drew ?_ | refine blk_alloc ?_ _)); exact BK203.out⟩, ⟨by repeat (first | (with_reducible first | exact HB.out | apply below_alloc | apply pw_below_drewN | apply below_drew1 | refine below_set ?_ GE203.out) | exact HB.out)⟩⟩
         ·
          rw [if_neg c24] at H
          have c24b0 : (x6_3 == 0) = false := beq_eq_false_iff_ne.mpr c24; have c24b1 : (x6_3 != 0) = true := bne_iff_ne.mpr c24
          (first | rw [c24b0] | (simp only [i64_w, i32_w, u8_w, u32_w]; rw [c24b0]) | rw [c24b1] | skip)
          have H' := Aside0.mk H
          clear H
          go_wp2
          repeat (go_quiet (fail); try go_wp2)
          go_meet
          case rel => exact ⟨_, (true), (by first | rfl | (simp; done) | (simp [*]; done)), H', ⟨by have := HJ3.out; have := HJ11.out; have := HJ19.out; first | omega | exact Nat.le_refl _⟩, ⟨by (with_reducible repeat (first | apply Kd.R_alloc | apply Kd.R_drewN | apply Kd.R_drew)); exact HO_7.out⟩, ⟨by (with_reducible repeat (first | refine blk_drewN ?_ _ | refine blk_drew ?_ | refine blk_alloc ?_ _)); exact BK203.out⟩, ⟨by repeat (first | (with_reducible first | exact HB.out | apply below_alloc | apply pw_below_drewN | apply below_drew1 | refine below_set ?_ GE203.out) | exact HB.out)⟩⟩
        case rest =>
         clear HC23; (try clear c1); (try clear c2); (try clear p2); (try clear q2); (try clear hx2); (try clear qi2); (try clear c7); (try clear c13); (try clear c14); (try clear c14b0); (try clear c14b1); (try clear c16); (try clear c16b0); (try clear c16b1); (try clear c19); (try clear p21); (try clear q21); (try clear hx21); (try clear qi21); (try clear c24); (try clear c24b0); (try clear c24b1); (try clear c25); (try clear c25b0); (try clear c25b1); (try clear c26); (try clear c26b0); (try clear c26b1); (try clear c27); (try clear c27b0); (try clear c27b1); (try clear hcz10_0); (try clear hcz10_1); (try clear hcz10_2); (try clear hcz15_0); (try clear hcz15_1); (try clear hcz15_2); (try clear hcz17_0); (try clear hcz17_1); (try clear hcz17_2); (try clear hcz18_0); (try clear hcz18_1); (try clear hcz18_2); (try clear hcz7_0); (try clear hcz7_1); (try clear hcz7_2); (try clear hfz10_0); (try clear hfz10_1); (try clear hfz10_2); (try clear hfz15_0); (try clear hfz15_1); (try clear hfz15_2); (try clear hfz17_0); (try clear hfz17_1); (try clear hfz17_2); (try clear hfz18_0); (try clear hfz18_1); (try clear hfz18_2); (try clear hfz7_0); (try clear hfz7_1); (try clear hfz7_2); (try clear hx213_0); (try clear hx213_1); (try clear hx213_2); (try clear hx213_3); (try clear p2); (try clear p213); (try clear q213)
         obtain ⟨kq, x59_22, rfl, HA, HJ22, HO_7, BK203, HB⟩ := hcut
         cases kq with
         | zero => exact absurd HA.out (by simp [unisonlaw10_LexValues.j3])
         | succ kj22 =>
          have H := HA.out; clear HA
          simp only [unisonlaw10_LexValues.j3] at H
          by_cases c30 : x59_22 = true
          ·
           subst c30
           have H1 : (none) = some r := by rw [if_pos rfl] at H; exact H
           clear H; have H := H1; clear H1
           exact absurd H (by simp)
          ·
           replace c30 := Bool.eq_false_iff.mpr c30
           subst c30
           have H1 : (if a0_0 = 1 then (if t204 = true then (if 0 < (x7_19.length : Int) then (if ((rd_T29 x7_19 0).f0) = 2 then (some (((rd_T29 x7_19 0).f1) == a0_1)) else (none)) else (none)) else (none)) else (if t204 = true then (if 0 < (x7_19.length : Int) then (if ((rd_T29 x7_19 0).f0) = 5 then (some (((rd_T29 x7_19 0).f2).toList == a0_2.toList)) else (none)) else (none)) else (none))) = some r := by rw [if_neg (show ¬ (false = true) by decide)] at H; exact H
           clear H; have H := H1; clear H1
           by_cases c31 : a0_0 = 1
           ·
            rw [if_pos c31] at H
            have c31b0 : (a0_0 == 1) = true := beq_iff_eq.mpr c31; have c31b1 : (a0_0 != 1) = false := bne_eq_false_iff_eq.mpr c31; clear c31
            by_cases c32 : t204 = true
            ·
             subst c32
             have H1 : (if 0 < (x7_19.length : Int) then (if ((rd_T29 x7_19 0).f0) = 2 then (some (((rd_T29 x7_19 0).f1) == a0_1)) else (none)) else (none)) = some r := by rw [if_pos rfl] at H; exact H
             clear H; have H := H1; clear H1
             by_cases c33 : 0 < (x7_19.length : Int)
             ·
              rw [if_pos c33] at H
              have c33b0 : decide (0 < (x7_19.length : Int)) = true := decide_eq_true c33; have c33b1 : decide (0 < x7_19.length) = true := decide_eq_true (by omega); clear c33
              by_cases c34 : ((rd_T29 x7_19 0).f0) = 2
              ·
               rw [if_pos c34] at H
               have c34b0 : (((rd_T29 x7_19 0).f0) == 2) = true := beq_iff_eq.mpr c34; have c34b1 : (((rd_T29 x7_19 0).f0) != 2) = false := bne_eq_false_iff_eq.mpr c34; clear c34
               obtain rfl := Option.some.inj H
               have hcz35_0 : wc.cell? ⟨gb203, 0, none⟩ = some (.int .i64 a0_0) := (blk_cell BK203.out 0).trans rfl; have hcz35_1 : wc.cell? ⟨gb203, 1, none⟩ = some (.int .i64 a0_1) := (blk_cell BK203.out 1).trans rfl; have hcz35_2 : wc.cell? ⟨gb203, 2, none⟩ = some (.string a0_2) := (blk_cell BK203.out 2).trans rfl; have hfz35_0 := blk_frozen BK203.out 0; have hfz35_1 := blk_frozen BK203.out 1; have hfz35_2 := blk_frozen BK203.out 2
               obtain ⟨Ao36, co36, eo36⟩ := Kd.R_slice HO_7.out
               subst eo36
               have p214 : 0 ≤ (0 : Int) := (by omega); have q214 : 0 < (x7_19.length : Int) := of_decide_eq_true (by first | (with_reducible assumption) | assumption)
               obtain ⟨ad214, e214, hx214_0, hx214_1, hx214_2, hx214_3⟩ := at_T29 (Kd.R_reads' HO_7.out).2.2 0 p214 q214
               cases e214
               have qi214 : (0 < x7_19.length) = True := eq_true (by omega)
               (try rw [show ((0 : Int)).toNat = 0 from rfl] at hx214_0)
               (try rw [show 0 * 4 = 0 from rfl] at hx214_0)
               (try rw [Addr.add_zero'] at hx214_0)
               (try rw [show ((0 : Int)).toNat = 0 from rfl] at hx214_1)
               (try rw [show 0 * 4 = 0 from rfl] at hx214_1)
               (try rw [Addr.add_zero'] at hx214_1)
               (try rw [show ((0 : Int)).toNat = 0 from rfl] at hx214_2)
               (try rw [show 0 * 4 = 0 from rfl] at hx214_2)
               (try rw [Addr.add_zero'] at hx214_2)
               (try rw [show ((0 : Int)).toNat = 0 from rfl] at hx214_3)
               (try rw [show 0 * 4 = 0 from rfl] at hx214_3)
               (try rw [Addr.add_zero'] at hx214_3)
               replace p214 := eq_true p214; replace q214 := eq_true q214; have p215 : 0 ≤ (0 : Int) := (by omega); have q215 : 0 < (x7_19.length : Int) := of_decide_eq_true (by first | (with_reducible assumption) | assumption)
               obtain ⟨ad215, e215, hx215_0, hx215_1, hx215_2, hx215_3⟩ := at_T29 (Kd.R_reads' HO_7.out).2.2 0 p215 q215
               obtain rfl : ad214 = ad215 := (by injection e215)
               have qi215 : (0 < x7_19.length) = True := eq_true (by omega)
               (try rw [show ((0 : Int)).toNat = 0 from rfl] at hx215_0)
               (try rw [show 0 * 4 = 0 from rfl] at hx215_0)
               (try rw [Addr.add_zero'] at hx215_0)
               (try rw [show ((0 : Int)).toNat = 0 from rfl] at hx215_1)
               (try rw [show 0 * 4 = 0 from rfl] at hx215_1)
               (try rw [Addr.add_zero'] at hx215_1)
               (try rw [show ((0 : Int)).toNat = 0 from rfl] at hx215_2)
               (try rw [show 0 * 4 = 0 from rfl] at hx215_2)
               (try rw [Addr.add_zero'] at hx215_2)
               (try rw [show ((0 : Int)).toNat = 0 from rfl] at hx215_3)
               (try rw [show 0 * 4 = 0 from rfl] at hx215_3)
               (try rw [Addr.add_zero'] at hx215_3)
               replace p215 := eq_true p215; replace q215 := eq_true q215
               go_wp2
               repeat (go_quiet (fail); try go_wp2)
               go_ret
               exact ⟨by first | rfl | (simp [errW_none, errW_some] <;> rfl) | (simp [*, errW_none, errW_some] <;> rfl), by repeat (first | (with_reducible first | exact HB.out | apply below_alloc | apply pw_below_drewN | apply below_drew1 | refine below_set ?_ GE203.out) | exact HB.out)⟩
              ·
               rw [if_neg c34] at H
               exact absurd H (by simp)
             ·
              rw [if_neg c33] at H
              exact absurd H (by simp)
            ·
             replace c32 := Bool.eq_false_iff.mpr c32
             subst c32
             have H1 : (none) = some r := by rw [if_neg (show ¬ (false = true) by decide)] at H; exact H
             clear H; have H := H1; clear H1
             exact absurd H (by simp)
           ·
            rw [if_neg c31] at H
            have c31b0 : (a0_0 == 1) = false := beq_eq_false_iff_ne.mpr c31; have c31b1 : (a0_0 != 1) = true := bne_iff_ne.mpr c31
            by_cases c37 : t204 = true
            ·
             subst c37
             have H1 : (if 0 < (x7_19.length : Int) then (if ((rd_T29 x7_19 0).f0) = 5 then (some (((rd_T29 x7_19 0).f2).toList == a0_2.toList)) else (none)) else (none)) = some r := by rw [if_pos rfl] at H; exact H
             clear H; have H := H1; clear H1
             by_cases c38 : 0 < (x7_19.length : Int)
             ·
              rw [if_pos c38] at H
              have c38b0 : decide (0 < (x7_19.length : Int)) = true := decide_eq_true c38; have c38b1 : decide (0 < x7_19.length) = true := decide_eq_true (by omega); clear c38
              by_cases c39 : ((rd_T29 x7_19 0).f0) = 5
              ·
               rw [if_pos c39] at H
               have c39b0 : (((rd_T29 x7_19 0).f0) == 5) = true := beq_iff_eq.mpr c39; have c39b1 : (((rd_T29 x7_19 0).f0) != 5) = false := bne_eq_false_iff_eq.mpr c39; clear c39
               obtain rfl := Option.some.inj H
               have hcz40_0 : wc.cell? ⟨gb203, 0, none⟩ = some (.int .i64 a0_0) := (blk_cell BK203.out 0).trans rfl; have hcz40_1 : wc.cell? ⟨gb203, 1, none⟩ = some (.int .i64 a0_1) := (blk_cell BK203.out 1).trans rfl; have hcz40_2 : wc.cell? ⟨gb203, 2, none⟩ = some (.string a0_2) := (blk_cell BK203.out 2).trans rfl; have hfz40_0 := blk_frozen BK203.out 0; have hfz40_1 := blk_frozen BK203.out 1; have hfz40_2 := blk_frozen BK203.out 2
               obtain ⟨Ao41, co41, eo41⟩ := Kd.R_slice HO_7.out
               subst eo41
               have p216 : 0 ≤ (0 : Int) := (by omega); have q216 : 0 < (x7_19.length : Int) := of_decide_eq_true (by first | (with_reducible assumption) | assumption)
               obtain ⟨ad216, e216, hx216_0, hx216_1, hx216_2, hx216_3⟩ := at_T29 (Kd.R_reads' HO_7.out).2.2 0 p216 q216
               cases e216
               have qi216 : (0 < x7_19.length) = True := eq_true (by omega)
               (try rw [show ((0 : Int)).toNat = 0 from rfl] at hx216_0)
               (try rw [show 0 * 4 = 0 from rfl] at hx216_0)
               (try rw [Addr.add_zero'] at hx216_0)
               (try rw [show ((0 : Int)).toNat = 0 from rfl] at hx216_1)
               (try rw [show 0 * 4 = 0 from rfl] at hx216_1)
               (try rw [Addr.add_zero'] at hx216_1)
               (try rw [show ((0 : Int)).toNat = 0 from rfl] at hx216_2)
               (try rw [show 0 * 4 = 0 from rfl] at hx216_2)
               (try rw [Addr.add_zero'] at hx216_2)
               (try rw [show ((0 : Int)).toNat = 0 from rfl] at hx216_3)
               (try rw [show 0 * 4 = 0 from rfl] at hx216_3)
               (try rw [Addr.add_zero'] at hx216_3)
               replace p216 := eq_true p216; replace q216 := eq_true q216; have p217 : 0 ≤ (0 : Int) := (by omega); have q217 : 0 < (x7_19.length : Int) := of_decide_eq_true (by first | (with_reducible assumption) | assumption)
               obtain ⟨ad217, e217, hx217_0, hx217_1, hx217_2, hx217_3⟩ := at_T29 (Kd.R_reads' HO_7.out).2.2 0 p217 q217
               obtain rfl : ad216 = ad217 := (by injection e217)
               have qi217 : (0 < x7_19.length) = True := eq_true (by omega)
               (try rw [show ((0 : Int)).toNat = 0 from rfl] at hx217_0)
               (try rw [show 0 * 4 = 0 from rfl] at hx217_0)
               (try rw [Addr.add_zero'] at hx217_0)
               (try rw [show ((0 : Int)).toNat = 0 from rfl] at hx217_1)
               (try rw [show 0 * 4 = 0 from rfl] at hx217_1)
               (try rw [Addr.add_zero'] at hx217_1)
               (try rw [show ((0 : Int)).toNat = 0 from rfl] at hx217_2)
               (try rw [show 0 * 4 = 0 from rfl] at hx217_2)
               (try rw [Addr.add_zero'] at hx217_2)
               (try rw [show ((0 : Int)).toNat = 0 from rfl] at hx217_3)
               (try rw [show 0 * 4 = 0 from rfl] at hx217_3)
               (try rw [Addr.add_zero'] at hx217_3)
               replace p217 := eq_true p217; replace q217 := eq_true q217
               go_wp2
               repeat (go_quiet (fail); try go_wp2)
               go_ret
               exact ⟨by first | rfl | (simp [errW_none, errW_some] <;> rfl) | (simp [*, errW_none, errW_some] <;> rfl), by repeat (first | (with_reducible first | exact HB.out | apply below_alloc | apply pw_below_drewN | apply below_drew1 | refine below_set ?_ GE203.out) | exact HB.out)⟩
              ·
               rw [if_neg c39] at H
               exact absurd H (by simp)
             ·
              rw [if_neg c38] at H
              exact absurd H (by simp)
            ·
             replace c37 := Bool.eq_false_iff.mpr c37
             subst c37
             have H1 : (none) = some r := by rw [if_neg (show ¬ (false = true) by decide)] at H; exact H
             clear H; have H := H1; clear H1
             exact absurd H (by simp)
end Go.Proofs.YtllehkjebikgpaaDoor.PA
