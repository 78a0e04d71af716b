-- Laid by a program of ours (wip/gen/xprint.py). Not trusted: Lean checks it.
import Derived.Test.YtllehkjebikgpaaGreatDoorPAx0
import Derived.Test.YtllehkjebikgpaaGreatDoorPAxE
import Derived.Test.YtllehkjebikgpaaGreatDoorPFRNext
import Derived.Test.YtllehkjebikgpaaGreatDoorMR
namespace Go.Proofs.YtllehkjebikgpaaGreatDoor.PA
open Go.RowKit Go.Proofs.YtllehkjebikgpaaGreatDoorW.PrintWords Go.Proofs.YtllehkjebikgpaaGreatDoorW.PrintLast Go.Proofs.YtllehkjebikgpaaGreatDoorW.PrintMore Go.Proofs.YtllehkjebikgpaaGreatDoorX
attribute [local go_sem] max2_int min2_int max_two min_two max_three min_three max_four min_four   -- for this text's walks alone
set_option linter.unusedVariables false
set_option linter.unusedSimpArgs false
attribute [local go_sem high] eqA28
/-! ### unisonref10_Scan: function 5 -/
def unisonref10_Scan.l0 : Nat → ByteArray → List (S28) → Int → Option ((List (S28)) × Int × Int)
 | 0, _, _, _ => none
 | k + 1, x0, x5, x6 => if x6 < (x0.size : Int) then ((unisonref10_next.f k x0 x6).bind fun bt209 => (if bt209.2.2.2.2.2 = 0 then (if x5.length < 3518437208883 then ((unisonref10_skipped.f k x0 bt209.2.2.2.2.1).bind fun t219 => (unisonref10_Scan.l0 k x0 (x5 ++ [(⟨bt209.1, bt209.2.1, bt209.2.2.1, bt209.2.2.2.1⟩ : S28)]) t219)) else (none)) else (some (([] : List (S28)), x6, bt209.2.2.2.2.2)))) else (if x5.length < 3518437208883 then (some ((x5 ++ [(⟨1, 0, (⟨#[]⟩ : ByteArray), (x0.size : Int)⟩ : S28)]), 0, 0)) else (none))
def unisonref10_Scan.f (k : Nat) (a0 : ByteArray) : Option ((List (S28)) × Int × Int) := if (a0.size : Int) > 1000 then (some (([] : List (S28)), 0, 2)) else ((unisonref10_skipped.f k a0 0).bind fun t205 => (unisonref10_Scan.l0 k a0 ([] : List (S28)) t205))
theorem unisonref10_Scan.mono_l : ∀ k, (∀ y0 y1 y2, LeO (unisonref10_Scan.l0 k y0 y1 y2) (unisonref10_Scan.l0 (k + 1) y0 y1 y2))
 | 0 => fun _ _ _ r h => by simp [unisonref10_Scan.l0] at h
 | k + 1 => by
  have ih0 := unisonref10_Scan.mono_l k
  ·
   intro y0 y1 y2
   unfold unisonref10_Scan.l0
   repeat' first
   | (with_reducible exact ih0 _ _ _)
   | (with_reducible exact unisonref10_next.mono _ _ _)
   | (with_reducible exact unisonref10_skipped.mono _ _ _)
   | (with_reducible exact LeO.refl _)
   | (with_reducible exact LeO.none _)
   | (with_reducible refine LeO.ite ?_ ?_)
   | (with_reducible refine LeO.bind ?_ (fun _ => ?_))
   | exact ih0 _ _ _
   | exact unisonref10_next.mono _ _ _
   | exact unisonref10_skipped.mono _ _ _
   | exact LeO.none _
   | refine LeO.ite ?_ ?_
   | refine LeO.bind ?_ (fun _ => ?_)
theorem unisonref10_Scan.mono : ∀ a0 k, LeO (unisonref10_Scan.f k a0) (unisonref10_Scan.f (k + 1) a0) := by
 intro a0 k
 have ih0 := unisonref10_Scan.mono_l k
 unfold unisonref10_Scan.f
 repeat' first
   | (with_reducible exact ih0 _ _ _)
   | (with_reducible exact unisonref10_next.mono _ _ _)
   | (with_reducible exact unisonref10_skipped.mono _ _ _)
   | (with_reducible exact LeO.refl _)
   | (with_reducible exact LeO.none _)
   | (with_reducible refine LeO.ite ?_ ?_)
   | (with_reducible refine LeO.bind ?_ (fun _ => ?_))
   | exact ih0 _ _ _
   | exact unisonref10_next.mono _ _ _
   | exact unisonref10_skipped.mono _ _ _
   | exact LeO.none _
   | refine LeO.ite ?_ ?_
   | refine LeO.bind ?_ (fun _ => ?_)
set_option maxHeartbeats 8000000 in
set_option maxRecDepth 100000 in
theorem unisonref10_Scan.calls (k : Nat) (a0 : ByteArray) (r1 : List (S28)) (r2 : Int) (r3 : Int) (w : World) (h : unisonref10_Scan.f k a0 = some (r1, r2, r3)) :
  Calls Tryz.prog 5 #[.string a0] w fun e w' => ∃ v0_ : Value, e = .returned (.tuple #[v0_, .int .i64 r2, .int .i64 r3]) ∧ Kd.R k28 28 w' w.heap.size (fun _ => True) v0_ r1 ∧ Below w.heap.size w w' := by
 have hu28 := Tryz.underlying28; have HB := Aside0.mk (Below.refl w.heap.size w); have H : (if (a0.size : Int) > 1000 then (some (([] : List (S28)), 0, 2)) else ((unisonref10_skipped.f k a0 0).bind fun t205 => (unisonref10_Scan.l0 k a0 ([] : List (S28)) t205))) = some (r1, r2, r3) := h; clear h
 by_cases c2 : (a0.size : Int) > 1000
 ·
  rw [if_pos c2] at H
  have c2b0 : decide (1000 < (a0.size : Int)) = true := decide_eq_true c2; have c2b1 : decide (1000 < a0.size) = true := decide_eq_true (by omega); clear c2
  simp only [Option.some.injEq, Prod.mk.injEq] at H
  obtain ⟨rfl, rfl, rfl⟩ := H
  go_enter Tryz.func5, Tryz.ntmps5
  go_wp2
  go_ret3
  exact ⟨_, by first | rfl | (simp [errW_none, errW_some] <;> rfl) | (simp [*, errW_none, errW_some] <;> rfl), by first | exact Kd.R_nil _ _ _ _ _ | exact Kd.N_nil _ _ _ _ _ | exact Kd.V_nil _ _ _ _ _ | exact Kd.Q_nil _ _ _ _ _ | exact Kd.S_nil _ _ _ _ _, by repeat (first | (with_reducible first | exact HB.out | apply below_alloc | apply pw_below_drewN | apply below_drew1) | exact HB.out)⟩
 ·
  rw [if_neg c2] at H
  have c2b0 : decide (1000 < (a0.size : Int)) = false := decide_eq_false c2; have c2b1 : decide (1000 < a0.size) = false := decide_eq_false (by omega); clear c2; replace H := Option.bind_eq_some_iff.mp H
  obtain ⟨t205, A30, H⟩ := H
  replace H : (unisonref10_Scan.l0 k a0 ([] : List (S28)) t205) = some (r1, r2, r3) := H; have A3 := Aside0.mk A30; clear A30
  have H' := Aside0.mk H
  clear H
  go_enter Tryz.func5, Tryz.ntmps5
  go_wp2_with (first | ((with_reducible refine gate_callee (f := 11) rfl ?_); refine gL (some 14) Tryz.func11 #[.string a0, .int .i64 0] ?_; (with_reducible refine (unisonref10_skipped.calls k a0 0 t205 _ A3.out).mono ?_); rintro e w' ⟨rfl, ⟨nd, rfl⟩⟩; refine ⟨_, rfl, ?_⟩))
  go_loopg [5, 6] k (fun kq v5 v6 w' => ∃ (x5_1 : List (S28)) (x6_1 : Int), v6 = .int .i64 x6_1 ∧ Aside0 (unisonref10_Scan.l0 kq a0 x5_1 x6_1 = some (r1, r2, r3)) ∧ Aside0 (kq ≤ k) ∧ Aside0 (Kd.R k28 28 w' w.heap.size (fun _ => True) v5 x5_1) ∧ Aside0 (Below w.heap.size w w'))
  case atStart => exact ⟨(([] : List (S28))), (t205), (by first | rfl | (simp; done) | (simp [*]; done)), H', ⟨Nat.le_refl _⟩, ⟨by first | exact Kd.R_nil _ _ _ _ _ | exact Kd.N_nil _ _ _ _ _ | exact Kd.V_nil _ _ _ _ _ | exact Kd.Q_nil _ _ _ _ _ | exact Kd.S_nil _ _ _ _ _⟩, ⟨by repeat (first | (with_reducible first | exact HB.out | apply below_alloc | apply pw_below_drewN | apply below_drew1) | exact HB.out)⟩⟩
  case round =>
   clear H'
   (try clear c1); (try clear c2); (try clear c2b0); (try clear c2b1); (try clear p2)
   obtain ⟨x5_1, x6_1, rfl, HA, HK1, HO_5, HB⟩ := hrel
   cases gk with
   | zero => exact absurd HA.out (by simp [unisonref10_Scan.l0])
   | succ k1 =>
    have H := HA.out; clear HA
    simp only [unisonref10_Scan.l0] at H
    by_cases c4 : x6_1 < (a0.size : Int)
    ·
     rw [if_pos c4] at H
     have c4b0 : decide (x6_1 < (a0.size : Int)) = true := decide_eq_true c4; clear c4; replace H := Option.bind_eq_some_iff.mp H
     obtain ⟨⟨t209, t210, t211, t212, t213, t214⟩, A50, H⟩ := H
     replace H : (if t214 = 0 then (if x5_1.length < 3518437208883 then ((unisonref10_skipped.f k1 a0 t213).bind fun t219 => (unisonref10_Scan.l0 k1 a0 (x5_1 ++ [(⟨t209, t210, t211, t212⟩ : S28)]) t219)) else (none)) else (some (([] : List (S28)), x6_1, t214))) = some (r1, r2, r3) := H; have A5 := Aside0.mk A50; clear A50
     by_cases c6 : t214 = 0
     ·
      rw [if_pos c6] at H
      have c6b0 : (t214 == 0) = true := beq_iff_eq.mpr c6; have c6b1 : (t214 != 0) = false := bne_eq_false_iff_eq.mpr c6; clear c6
      by_cases c7 : x5_1.length < 3518437208883
      ·
       rw [if_pos c7] at H
       have LMc7 := Aside0.mk c7; clear c7
       obtain ⟨y216, hy216⟩ : ∃ y_ : List (S28), y_ = (x5_1 ++ [(⟨t209, t210, t211, t212⟩ : S28)]) := ⟨_, rfl⟩
       replace H : ((unisonref10_skipped.f k1 a0 t213).bind fun t219 => (unisonref10_Scan.l0 k1 a0 y216 t219)) = some (r1, r2, r3) := by first | (rw [hy216]; with_reducible exact H) | (have H2_ := (Option.bind_some _ _).symm.trans H; rw [hy216]; with_reducible exact H2_) | (have H2_ := (Option.bind_some _ _).symm.trans H; with_reducible exact H2_) | with_reducible exact H | (rw [hy216]; exact H) | exact H
       have Ny216 := Aside0.mk hy216; clear hy216; replace H := Option.bind_eq_some_iff.mp H
       obtain ⟨t219, A80, H⟩ := H
       replace H : (unisonref10_Scan.l0 k1 a0 y216 t219) = some (r1, r2, r3) := H; have A8 := Aside0.mk A80; clear A80
       have H' := Aside0.mk H
       clear H
       go_wp2_with (first | ((with_reducible refine gate_callee (f := 12) rfl ?_); refine gL (some 22) Tryz.func12 #[.string a0, .int .i64 x6_1] ?_; (with_reducible refine (unisonref10_next.calls k1 a0 x6_1 t209 t210 t211 t212 t213 t214 _ A5.out).mono ?_); rintro e w9 ⟨rfl, hb⟩; refine ⟨_, rfl, ?_⟩; replace HO_5 := Aside0.mk (Kd.R_below (by (with_reducible repeat (first | apply Kd.R_alloc | apply Kd.R_drewN | apply Kd.R_drew)); exact HO_5.out) hb); replace HB := bs hb; (try clear hb); (try clear hb2); (try clear hk); (try clear hi)) | ((with_reducible refine gate_dst (N := 7) rfl ?_); refine box_event ?hg (N := 7) ?hd (cs := #[.int .i64 0, .int .i64 0, .string (⟨#[]⟩ : ByteArray), .int .i64 0]) (t := 28) ?hr ?_; (case hd => rfl); (case hg => rfl); (case hr => first | (go_simp; done) | (go_simp; rfl)); intro gb215 hg w10 hbox hb; have BK215 := Aside0.mk (hbox); have GW215 := bz hg; have GE215 := bz hg; replace HO_5 := Aside0.mk (Kd.R_below (Kd.R_elderB (by (with_reducible repeat (first | apply Kd.R_alloc | apply Kd.R_drewN | apply Kd.R_drew)); exact HO_5.out) gb215 (Nat.le_of_eq hg.symm)) hb); replace HB := bs hb; clear hb hbox hg; have hcz11_0 : w10.cell? ⟨gb215, 0, none⟩ = some (.int .i64 0) := (blk_cell BK215.out 0).trans rfl; have hcz11_1 : w10.cell? ⟨gb215, 1, none⟩ = some (.int .i64 0) := (blk_cell BK215.out 1).trans rfl; have hcz11_2 : w10.cell? ⟨gb215, 2, none⟩ = some (.string (⟨#[]⟩ : ByteArray)) := (blk_cell BK215.out 2).trans rfl; have hcz11_3 : w10.cell? ⟨gb215, 3, none⟩ = some (.int .i64 0) := (blk_cell BK215.out 3).trans rfl; have hfz11_0 := blk_frozen BK215.out 0; have hfz11_1 := blk_frozen BK215.out 1; have hfz11_2 := blk_frozen BK215.out 2; have hfz11_3 := blk_frozen BK215.out 3) | ((with_reducible refine gate_store (t := 28) (p := 7) rfl ?_); refine store_event (t := 28) (p := 7) (v := ?vo_w12) (w1 := ((((w10.setCell ⟨gb215, 0, none⟩ (.int .i64 t209)).setCell ⟨gb215, 1, none⟩ (.int .i64 t210)).setCell ⟨gb215, 2, none⟩ (.string t211)).setCell ⟨gb215, 3, none⟩ (.int .i64 t212))) ?hg ?ho ?hn ?hr ?_; (case ho => rfl); (case hg => rfl); (case hn => rfl); (case hr => first | (go_simp; done) | (go_simp; rfl)); intro w12 hw; replace HO_5 : Aside0 (Kd.R k28 28 w12 w.heap.size (fun k_ => k_ ≠ gb215) u5 x5_1) := ⟨(by rw [hw]; exact (by (with_reducible repeat (first | apply Kd.R_alloc | apply Kd.R_drewN | apply Kd.R_drew)); exact Kd.R_mono (Kd.R_far (p := ⟨gb215, 3, none⟩) (Kd.R_far (p := ⟨gb215, 2, none⟩) (Kd.R_far (p := ⟨gb215, 1, none⟩) (Kd.R_far (p := ⟨gb215, 0, none⟩) (Kd.R_mono HO_5.out (fun k_ hk => (⟨hk, hk.2⟩ : _ ∧ k_ ≠ gb215))) (fun _ hk => hk.2) (.int .i64 t209)) (fun _ hk => hk.2) (.int .i64 t210)) (fun _ hk => hk.2) (.string t211)) (fun _ hk => hk.2) (.int .i64 t212)) (fun _ hk => hk.1.2)))⟩; replace BK215 : Aside0 (w12.heap[gb215]? = some (.cells #[.int .i64 t209, .int .i64 t210, .string t211, .int .i64 t212] 28 (0, 0))) := bp BK215 hw; replace HB := bv hw; clear hw; have hcz13_0 : w12.cell? ⟨gb215, 0, none⟩ = some (.int .i64 t209) := (blk_cell BK215.out 0).trans rfl; have hcz13_1 : w12.cell? ⟨gb215, 1, none⟩ = some (.int .i64 t210) := (blk_cell BK215.out 1).trans rfl; have hcz13_2 : w12.cell? ⟨gb215, 2, none⟩ = some (.string t211) := (blk_cell BK215.out 2).trans rfl; have hcz13_3 : w12.cell? ⟨gb215, 3, none⟩ = some (.int .i64 t212) := (blk_cell BK215.out 3).trans rfl; have hfz13_0 := blk_frozen BK215.out 0; have hfz13_1 := blk_frozen BK215.out 1; have hfz13_2 := blk_frozen BK215.out 2; have hfz13_3 := blk_frozen BK215.out 3) | ((with_reducible refine gate_builtin (b := .append) (xs := #[.tmp 30, .tmp 32]) rfl ?_); at_builtin; refine Kd.R_append k28 (w0 := w) w.heap.size rfl (.tmp 30) (.tmp 32) 22 28 (.agg #[(.int .i64 0), (.int .i64 0), (.string ⟨#[]⟩), (.int .i64 0)]) 40 rfl Tryz.underlying22 info28 rfl (by decide) (by omega) u5 x5_1 (⟨t209, t210, t211, t212⟩ : S28) [.int .i64 t209, .int .i64 t210, .string t211, .int .i64 t212] (fun k_ => k_ ≠ gb215) (fun _ => False) rfl rfl ?aP (fun _ hk => hk.elim) ?aF ?aO ?aB ?aS ?aL ?_; (case aP => exact k28_mkM _ _ _ (⟨t209, t210, t211, t212⟩ : S28)); (case aB => exact bel); (case aF => exact (fun k_ hk => Kd.freshB (g := gb215) (o := .cells #[.int .i64 t209, .int .i64 t210, .string t211, .int .i64 t212] 28 (0, 0)) (by (with_reducible repeat (first | refine blk_drewN ?_ _ | refine blk_drew ?_ | refine blk_alloc ?_ _)); exact BK215.out) k_ hk)); (case aO => exact (by (with_reducible repeat (first | apply Kd.R_alloc | apply Kd.R_drewN | apply Kd.R_drew)); exact HO_5.out)); (case aS => exact (below_size bel)); (case aL => have := LMc7.out; omega); intro v217 w14 ho hb hg hat; rw [← Ny216.out] at ho; have n0_ := Aside0.mk (blk_grown (g := gb215) (o := .cells #[.int .i64 t209, .int .i64 t210, .string t211, .int .i64 t212] 28 (0, 0)) (by (with_reducible repeat (first | refine blk_drewN ?_ _ | refine blk_drew ?_ | refine blk_alloc ?_ _)); exact BK215.out) hg (Kd.R_away HO_5.out (fun _ hk => hk))); have n1_ := Aside0.mk (hb); have n2_ := Aside0.mk (ho); clear BK215; clear HB; clear HO_5; have BK215 := n0_; have HB := n1_; have HO218 := n2_; clear n0_ n1_ n2_; clear ho hb hg hat) | ((with_reducible refine gate_callee (f := 11) rfl ?_); refine gL (some 36) Tryz.func11 #[.string a0, .int .i64 t213] ?_; (with_reducible refine (unisonref10_skipped.calls k1 a0 t213 t219 _ A8.out).mono ?_); rintro e w' ⟨rfl, ⟨nd, rfl⟩⟩; refine ⟨_, rfl, ?_⟩))
       go_roundg k1
       case measure => have := HK1.out; omega
       case rel => exact ⟨(y216), (t219), (by first | rfl | (simp; done) | (simp [*]; done)), H', ⟨by have := HK1.out; omega⟩, ⟨by (with_reducible repeat (first | apply Kd.R_alloc | apply Kd.R_drewN | apply Kd.R_drew)); exact Kd.R_mono HO218.out (fun _ hk => trivial)⟩, ⟨by repeat (first | (with_reducible first | exact HB.out | apply below_alloc | apply pw_below_drewN | apply below_drew1 | refine below_set ?_ GE215.out) | exact HB.out)⟩⟩
      ·
       rw [if_neg c7] at H
       exact absurd H (by simp)
     ·
      rw [if_neg c6] at H
      have c6b0 : (t214 == 0) = false := beq_eq_false_iff_ne.mpr c6; have c6b1 : (t214 != 0) = true := bne_iff_ne.mpr c6
      simp only [Option.some.injEq, Prod.mk.injEq] at H
      obtain ⟨rfl, rfl, rfl⟩ := H
      go_wp2_with (first | ((with_reducible refine gate_callee (f := 12) rfl ?_); refine gL (some 22) Tryz.func12 #[.string a0, .int .i64 x6_1] ?_; (with_reducible refine (unisonref10_next.calls k1 a0 x6_1 t209 t210 t211 t212 t213 t214 _ A5.out).mono ?_); rintro e w15 ⟨rfl, hb⟩; refine ⟨_, rfl, ?_⟩; replace HO_5 := Aside0.mk (Kd.R_below (by (with_reducible repeat (first | apply Kd.R_alloc | apply Kd.R_drewN | apply Kd.R_drew)); exact HO_5.out) hb); replace HB := bs hb; (try clear hb); (try clear hb2); (try clear hk); (try clear hi)) | ((with_reducible refine gate_dst (N := 7) rfl ?_); refine box_event ?hg (N := 7) ?hd (cs := #[.int .i64 0, .int .i64 0, .string (⟨#[]⟩ : ByteArray), .int .i64 0]) (t := 28) ?hr ?_; (case hd => rfl); (case hg => rfl); (case hr => first | (go_simp; done) | (go_simp; rfl)); intro gb215 hg w16 hbox hb; have BK215 := Aside0.mk (hbox); have GW215 := bz hg; have GE215 := bz hg; replace HO_5 := Aside0.mk (Kd.R_below (Kd.R_elderB (by (with_reducible repeat (first | apply Kd.R_alloc | apply Kd.R_drewN | apply Kd.R_drew)); exact HO_5.out) gb215 (Nat.le_of_eq hg.symm)) hb); replace HB := bs hb; clear hb hbox hg; have hcz17_0 : w16.cell? ⟨gb215, 0, none⟩ = some (.int .i64 0) := (blk_cell BK215.out 0).trans rfl; have hcz17_1 : w16.cell? ⟨gb215, 1, none⟩ = some (.int .i64 0) := (blk_cell BK215.out 1).trans rfl; have hcz17_2 : w16.cell? ⟨gb215, 2, none⟩ = some (.string (⟨#[]⟩ : ByteArray)) := (blk_cell BK215.out 2).trans rfl; have hcz17_3 : w16.cell? ⟨gb215, 3, none⟩ = some (.int .i64 0) := (blk_cell BK215.out 3).trans rfl; have hfz17_0 := blk_frozen BK215.out 0; have hfz17_1 := blk_frozen BK215.out 1; have hfz17_2 := blk_frozen BK215.out 2; have hfz17_3 := blk_frozen BK215.out 3) | ((with_reducible refine gate_store (t := 28) (p := 7) rfl ?_); refine store_event (t := 28) (p := 7) (v := ?vo_w18) (w1 := ((((w16.setCell ⟨gb215, 0, none⟩ (.int .i64 t209)).setCell ⟨gb215, 1, none⟩ (.int .i64 t210)).setCell ⟨gb215, 2, none⟩ (.string t211)).setCell ⟨gb215, 3, none⟩ (.int .i64 t212))) ?hg ?ho ?hn ?hr ?_; (case ho => rfl); (case hg => rfl); (case hn => rfl); (case hr => first | (go_simp; done) | (go_simp; rfl)); intro w18 hw; replace HO_5 : Aside0 (Kd.R k28 28 w18 w.heap.size (fun k_ => k_ ≠ gb215) u5 x5_1) := ⟨(by rw [hw]; exact (by (with_reducible repeat (first | apply Kd.R_alloc | apply Kd.R_drewN | apply Kd.R_drew)); exact Kd.R_mono (Kd.R_far (p := ⟨gb215, 3, none⟩) (Kd.R_far (p := ⟨gb215, 2, none⟩) (Kd.R_far (p := ⟨gb215, 1, none⟩) (Kd.R_far (p := ⟨gb215, 0, none⟩) (Kd.R_mono HO_5.out (fun k_ hk => (⟨hk, hk.2⟩ : _ ∧ k_ ≠ gb215))) (fun _ hk => hk.2) (.int .i64 t209)) (fun _ hk => hk.2) (.int .i64 t210)) (fun _ hk => hk.2) (.string t211)) (fun _ hk => hk.2) (.int .i64 t212)) (fun _ hk => hk.1.2)))⟩; replace BK215 : Aside0 (w18.heap[gb215]? = some (.cells #[.int .i64 t209, .int .i64 t210, .string t211, .int .i64 t212] 28 (0, 0))) := bp BK215 hw; replace HB := bv hw; clear hw))
      go_ret3
      exact ⟨_, by first | rfl | (simp [errW_none, errW_some] <;> rfl) | (simp [*, errW_none, errW_some] <;> rfl), by first | exact Kd.R_nil _ _ _ _ _ | exact Kd.N_nil _ _ _ _ _ | exact Kd.V_nil _ _ _ _ _ | exact Kd.Q_nil _ _ _ _ _ | exact Kd.S_nil _ _ _ _ _, by repeat (first | (with_reducible first | exact HB.out | apply below_alloc | apply pw_below_drewN | apply below_drew1 | refine below_set ?_ GE215.out) | exact HB.out)⟩
    ·
     rw [if_neg c4] at H
     have c4b0 : decide (x6_1 < (a0.size : Int)) = false := decide_eq_false c4; clear c4
     by_cases c19 : x5_1.length < 3518437208883
     ·
      rw [if_pos c19] at H
      have LMc19 := Aside0.mk c19; clear c19
      obtain ⟨y206, hy206⟩ : ∃ y_ : List (S28), y_ = (x5_1 ++ [(⟨1, 0, (⟨#[]⟩ : ByteArray), (a0.size : Int)⟩ : S28)]) := ⟨_, rfl⟩
      replace H : (some (y206, 0, 0)) = some (r1, r2, r3) := by first | (rw [hy206]; with_reducible exact H) | (have H2_ := (Option.bind_some _ _).symm.trans H; rw [hy206]; with_reducible exact H2_) | (have H2_ := (Option.bind_some _ _).symm.trans H; with_reducible exact H2_) | with_reducible exact H | (rw [hy206]; exact H) | exact H
      have Ny206 := Aside0.mk hy206; clear hy206
      simp only [Option.some.injEq, Prod.mk.injEq] at H
      obtain ⟨rfl, rfl, rfl⟩ := H
      go_wp2_with (first | ((with_reducible refine gate_builtin (b := .append) (xs := #[.tmp 37, .tmp 41]) rfl ?_); at_builtin; refine Kd.R_append k28 (w0 := w) w.heap.size rfl (.tmp 37) (.tmp 41) 22 28 (.agg #[(.int .i64 0), (.int .i64 0), (.string ⟨#[]⟩), (.int .i64 0)]) 40 rfl Tryz.underlying22 info28 rfl (by decide) (by omega) u5 x5_1 (⟨1, 0, (⟨#[]⟩ : ByteArray), (a0.size : Int)⟩ : S28) [.int .i64 1, .int .i64 0, .string (⟨#[]⟩ : ByteArray), .int .i64 (a0.size : Int)] (fun _ => True) (fun _ => False) rfl rfl ?aP (fun _ hk => hk.elim) ?aF ?aO ?aB ?aS ?aL ?_; (case aP => exact k28_mkM _ _ _ (⟨1, 0, (⟨#[]⟩ : ByteArray), (a0.size : Int)⟩ : S28)); (case aB => exact bel); (case aF => exact (fun _ _ => trivial)); (case aO => exact (by (with_reducible repeat (first | apply Kd.R_alloc | apply Kd.R_drewN | apply Kd.R_drew)); exact HO_5.out)); (case aS => exact (below_size bel)); (case aL => have := LMc19.out; omega); intro v207 w20 ho hb hg hat; rw [← Ny206.out] at ho; have n0_ := Aside0.mk (hb); have n1_ := Aside0.mk (ho); clear HB; clear HO_5; have HB := n0_; have HO208 := n1_; clear n0_ n1_; clear ho hb hg hat))
      go_ret3
      exact ⟨_, by first | rfl | (simp [errW_none, errW_some] <;> rfl) | (simp [*, errW_none, errW_some] <;> rfl), by (with_reducible repeat (first | apply Kd.R_alloc | apply Kd.R_drewN | apply Kd.R_drew)); exact HO208.out, by repeat (first | (with_reducible first | exact HB.out | apply below_alloc | apply pw_below_drewN | apply below_drew1) | exact HB.out)⟩
     ·
      rw [if_neg c19] at H
      exact absurd H (by simp)
end Go.Proofs.YtllehkjebikgpaaGreatDoor.PA
