-- Laid by a program of ours (wip/gen/xprint.py). Not trusted: Lean checks it.
import Derived.Test.YteehcopkljiikaaDoorPAx0
import Derived.Test.YteehcopkljiikaaDoorPAx1
import Derived.Test.YteehcopkljiikaaDoorPFLAwake
import Derived.Test.YteehcopkljiikaaDoorPFLKept
import Derived.Test.YteehcopkljiikaaDoorPFLLent
import Derived.Test.YteehcopkljiikaaDoorPFRSum
import Derived.Test.YteehcopkljiikaaDoorPFValueSum
namespace Go.Proofs.YteehcopkljiikaaDoor.PA
open Go.RowKit Go.Proofs.YteehcopkljiikaaDoorW.PrintWords Go.Proofs.YteehcopkljiikaaDoorW.PrintLast Go.Proofs.YteehcopkljiikaaDoorW.PrintMore Go.Proofs.YteehcopkljiikaaDoorX
attribute [local go_sem] max2_int min2_int max_two min_two max_three min_three max_four min_four   -- for this text's walks alone
set_option linter.unusedVariables false
set_option linter.unusedSimpArgs false
attribute [local go_sem high] eqA23
/-! ### unisonlaw01_ValueSums: function 4 -/
def unisonlaw01_ValueSums.j0 : Nat → Bool → Int → Int → Bool → Int → Int → ByteArray → Int → Int → ByteArray → Option (Bool)
 | 0, _, _, _, _, _, _, _, _, _, _ => none
 | k + 1, x3, x6, x8, x9, x368000, x368001, x368002, x373000, x373001, x373002 => if x3 = true then (if x9 = true then (if (x368000 == x373000 && (x368001 == x373001 && (x368002.toList == x373002.toList))) = true then (some (x6 == x8)) else (none)) else (none)) else (none)
def unisonlaw01_ValueSums.f (k : Nat) (l0 : List (S23)) : Option (Bool) := if (l0.length : Int) > 2147483647 then (some true) else ((unisonlaw01_awake.f k).bind fun t355 => ((unisonlaw01_lent.f l0).bind fun t356 => (if 0 ≤ (l0.length : Int) then (if (l0.length : Int) ≤ (t356.length : Int) then ((value_Sum.f k (t356.take ((l0.length : Int) : Int).toNat)).bind fun bt363 => ((unisonref01_Sum.f k l0).bind fun bt368 => ((unisonlaw01_kept.f k t356 l0).bind fun t373 => (unisonlaw01_ValueSums.j0 k t355 bt363.2.2.2 bt368.2.2.2 t373 bt363.1 bt363.2.1 bt363.2.2.1 bt368.1 bt368.2.1 bt368.2.2.1)))) else (none)) else (none))))
theorem unisonlaw01_ValueSums.mono_l : ∀ k, (∀ y0 y1 y2 y3 y4 y5 y6 y7 y8 y9, LeO (unisonlaw01_ValueSums.j0 k y0 y1 y2 y3 y4 y5 y6 y7 y8 y9) (unisonlaw01_ValueSums.j0 (k + 1) y0 y1 y2 y3 y4 y5 y6 y7 y8 y9))
 | 0 => fun _ _ _ _ _ _ _ _ _ _ r h => by simp [unisonlaw01_ValueSums.j0] at h
 | k + 1 => by
  have ih0 := unisonlaw01_ValueSums.mono_l k
  ·
   intro y0 y1 y2 y3 y4 y5 y6 y7 y8 y9
   unfold unisonlaw01_ValueSums.j0
   repeat' first
   | (with_reducible exact ih0 _ _ _ _ _ _ _ _ _ _)
   | (with_reducible exact unisonlaw01_awake.mono _)
   | (with_reducible exact unisonlaw01_kept.mono _ _ _)
   | (with_reducible exact unisonref01_Sum.mono _ _)
   | (with_reducible exact value_Sum.mono _ _)
   | (with_reducible exact LeO.refl _)
   | (with_reducible exact LeO.none _)
   | (with_reducible refine LeO.ite ?_ ?_)
   | (with_reducible refine LeO.bind ?_ (fun _ => ?_))
   | exact ih0 _ _ _ _ _ _ _ _ _ _
   | exact unisonlaw01_awake.mono _
   | exact unisonlaw01_kept.mono _ _ _
   | exact unisonref01_Sum.mono _ _
   | exact value_Sum.mono _ _
   | exact LeO.none _
   | refine LeO.ite ?_ ?_
   | refine LeO.bind ?_ (fun _ => ?_)
theorem unisonlaw01_ValueSums.mono : ∀ a0 k, LeO (unisonlaw01_ValueSums.f k a0) (unisonlaw01_ValueSums.f (k + 1) a0) := by
 intro a0 k
 have ih0 := unisonlaw01_ValueSums.mono_l k
 unfold unisonlaw01_ValueSums.f
 repeat' first
   | (with_reducible exact ih0 _ _ _ _ _ _ _ _ _ _)
   | (with_reducible exact unisonlaw01_awake.mono _)
   | (with_reducible exact unisonlaw01_kept.mono _ _ _)
   | (with_reducible exact unisonref01_Sum.mono _ _)
   | (with_reducible exact value_Sum.mono _ _)
   | (with_reducible exact LeO.refl _)
   | (with_reducible exact LeO.none _)
   | (with_reducible refine LeO.ite ?_ ?_)
   | (with_reducible refine LeO.bind ?_ (fun _ => ?_))
   | exact ih0 _ _ _ _ _ _ _ _ _ _
   | exact unisonlaw01_awake.mono _
   | exact unisonlaw01_kept.mono _ _ _
   | exact unisonref01_Sum.mono _ _
   | exact value_Sum.mono _ _
   | exact LeO.none _
   | refine LeO.ite ?_ ?_
   | refine LeO.bind ?_ (fun _ => ?_)
set_option maxHeartbeats 8000000 in
set_option maxRecDepth 100000 in
theorem unisonlaw01_ValueSums.calls (k : Nat) (A0 : Option Addr) (c0 : Nat) (l0 : List (S23)) (r : Bool) (w : World) (hr0 : Kd.C k23 w A0 l0.length l0) (hc0 : l0.length ≤ c0) (h : unisonlaw01_ValueSums.f k l0 = some r) :
  Calls Tryd.prog 4 #[.slice A0 l0.length c0] w fun e w' => e = .returned (.bool r) ∧ Below w.heap.size w w' := by
 have hu23 := Tryd.underlying23; have HR0 := Aside0.mk hr0; have HC0 := Aside0.mk hc0; clear hr0 hc0; have HB := Aside0.mk (Below.refl w.heap.size w); have H : (if (l0.length : Int) > 2147483647 then (some true) else ((unisonlaw01_awake.f k).bind fun t355 => ((unisonlaw01_lent.f l0).bind fun t356 => (if 0 ≤ (l0.length : Int) then (if (l0.length : Int) ≤ (t356.length : Int) then ((value_Sum.f k (t356.take ((l0.length : Int) : Int).toNat)).bind fun bt363 => ((unisonref01_Sum.f k l0).bind fun bt368 => ((unisonlaw01_kept.f k t356 l0).bind fun t373 => (unisonlaw01_ValueSums.j0 k t355 bt363.2.2.2 bt368.2.2.2 t373 bt363.1 bt363.2.1 bt363.2.2.1 bt368.1 bt368.2.1 bt368.2.2.1)))) else (none)) else (none))))) = some r := h; clear h
 by_cases c2 : (l0.length : Int) > 2147483647
 ·
  rw [if_pos c2] at H
  have c2b0 : decide (2147483647 < (l0.length : Int)) = true := decide_eq_true c2; have c2b1 : decide (2147483647 < l0.length) = true := decide_eq_true (by omega); clear c2
  obtain rfl := Option.some.inj H
  go_enter Tryd.func4, Tryd.ntmps4
  go_wp2
  go_ret
  exact ⟨by first | (simp only [ByteArray.size_extract, Nat.min_self]; rfl) | rfl | (simp [errW_none, errW_some] <;> rfl) | (simp [*, errW_none, errW_some] <;> rfl), by repeat (first | (with_reducible first | exact HB.out | apply pA | apply pN | apply pD) | exact HB.out)⟩
 ·
  rw [if_neg c2] at H
  have c2b0 : decide (2147483647 < (l0.length : Int)) = false := decide_eq_false c2; have c2b1 : decide (2147483647 < l0.length) = false := decide_eq_false (by omega); clear c2; replace H := Option.bind_eq_some_iff.mp H
  obtain ⟨t355, A30, H⟩ := H
  replace H : ((unisonlaw01_lent.f l0).bind fun t356 => (if 0 ≤ (l0.length : Int) then (if (l0.length : Int) ≤ (t356.length : Int) then ((value_Sum.f k (t356.take ((l0.length : Int) : Int).toNat)).bind fun bt363 => ((unisonref01_Sum.f k l0).bind fun bt368 => ((unisonlaw01_kept.f k t356 l0).bind fun t373 => (unisonlaw01_ValueSums.j0 k t355 bt363.2.2.2 bt368.2.2.2 t373 bt363.1 bt363.2.1 bt363.2.2.1 bt368.1 bt368.2.1 bt368.2.2.1)))) else (none)) else (none))) = some r := H; have A3 := Aside0.mk A30; clear A30; replace H := Option.bind_eq_some_iff.mp H
  obtain ⟨t356, A40, H⟩ := H
  replace H : (if 0 ≤ (l0.length : Int) then (if (l0.length : Int) ≤ (t356.length : Int) then ((value_Sum.f k (t356.take ((l0.length : Int) : Int).toNat)).bind fun bt363 => ((unisonref01_Sum.f k l0).bind fun bt368 => ((unisonlaw01_kept.f k t356 l0).bind fun t373 => (unisonlaw01_ValueSums.j0 k t355 bt363.2.2.2 bt368.2.2.2 t373 bt363.1 bt363.2.1 bt363.2.2.1 bt368.1 bt368.2.1 bt368.2.2.1)))) else (none)) else (none)) = some r := H; have A4 := Aside0.mk A40; clear A40
  by_cases c5 : 0 ≤ (l0.length : Int)
  ·
   rw [if_pos c5] at H
   have c5b0 := eq_true c5; have c5b1 : decide (0 ≤ (l0.length : Int)) = true := decide_eq_true c5; clear c5
   by_cases c6 : (l0.length : Int) ≤ (t356.length : Int)
   ·
    rw [if_pos c6] at H
    have c6b0 := eq_true c6; have c6b1 : decide ((l0.length : Int) ≤ (t356.length : Int)) = true := decide_eq_true c6; clear c6
    obtain ⟨y359, hy359⟩ : ∃ y_ : List (S23), y_ = (t356.take ((l0.length : Int) : Int).toNat) := ⟨_, rfl⟩
    replace H : ((value_Sum.f k y359).bind fun bt363 => ((unisonref01_Sum.f k l0).bind fun bt368 => ((unisonlaw01_kept.f k t356 l0).bind fun t373 => (unisonlaw01_ValueSums.j0 k t355 bt363.2.2.2 bt368.2.2.2 t373 bt363.1 bt363.2.1 bt363.2.2.1 bt368.1 bt368.2.1 bt368.2.2.1)))) = some r := by first | (rw [hy359]; with_reducible exact H) | (have H2_ := (Option.bind_some _ _).symm.trans H; rw [hy359]; with_reducible exact H2_) | (have H2_ := (Option.bind_some _ _).symm.trans H; with_reducible exact H2_) | with_reducible exact H | (rw [hy359]; exact H) | exact H
    have Ny359 := Aside0.mk hy359; clear hy359; replace H := Option.bind_eq_some_iff.mp H
    obtain ⟨⟨t363, t364, t365, t366⟩, A70, H⟩ := H
    replace H : ((unisonref01_Sum.f k l0).bind fun bt368 => ((unisonlaw01_kept.f k t356 l0).bind fun t373 => (unisonlaw01_ValueSums.j0 k t355 t366 bt368.2.2.2 t373 t363 t364 t365 bt368.1 bt368.2.1 bt368.2.2.1))) = some r := H; have A7 := Aside0.mk A70; clear A70; replace H := Option.bind_eq_some_iff.mp H
    obtain ⟨⟨t368, t369, t370, t371⟩, A80, H⟩ := H
    replace H : ((unisonlaw01_kept.f k t356 l0).bind fun t373 => (unisonlaw01_ValueSums.j0 k t355 t366 t371 t373 t363 t364 t365 t368 t369 t370)) = some r := H; have A8 := Aside0.mk A80; clear A80; have HC9 := Aside0.mk H; clear H
    go_enter Tryd.func4, Tryd.ntmps4
    go_upto_region 7 with (first | ((with_reducible refine gate_callee (f := 12) rfl ?_); refine gL (some 13) Tryd.func12 #[] ?_; (with_reducible refine (unisonlaw01_awake.calls k  t355 _ A3.out).mono ?_); rintro e w10 ⟨rfl, hb⟩; refine ⟨_, rfl, ?_⟩; replace HB := bs hb; (try clear hb); (try clear hb2); (try clear hk); (try clear hi)) | ((with_reducible refine gate_callee (f := 19) rfl ?_); refine gL (some 15) Tryd.func19 #[.slice A0 l0.length c0] ?_; (with_reducible refine (unisonlaw01_lent.calls _ _ l0 t356 _ ?side1 ?side2 A4.out).mono ?_); (case side1 => repeat (first | exact (Kd.C_below HR0.out HB.out) | (with_reducible refine Kd.C_alloc ?_ _) | (with_reducible refine Kd.C_drewN ?_ _) | (with_reducible refine Kd.C_drew ?_))); (case side2 => exact HC0.out); rintro e w11 ⟨v357, rfl, ho0, hb⟩; refine ⟨_, rfl, ?_⟩; have HO358 := Aside0.mk (Kd.R_lower ho0 (below_size bel)); replace HB := bs hb; (try clear hb); (try clear hb2); (try clear hk); (try clear hi); (try clear ho0); obtain ⟨Ao13, co13, eo13⟩ := Kd.R_slice HO358.out; subst eo13; have q12 : ((l0.length : Int) : Int) ≤ ((t356.length : Int) : Int) := of_decide_eq_true (by first | (with_reducible assumption) | assumption); obtain ⟨i012, hi012, _, hsz12, _⟩ := info_parts info23; have hroom12 : t356.length ≤ co13 := (Kd.R_reads' HO358.out).2.1; have hC12 : Kd.C k23 _ Ao13 t356.length t356 := (Kd.R_reads' HO358.out).2.2; have hcut12 := cut_to (P := Tryd.prog) 31 23 .i64 Tryd.underlying31 hi012 Ao13 t356.length co13 (l0.length : Int) (of_decide_eq_true (by first | (with_reducible assumption) | assumption)) q12 hroom12; have hr12 := Kd.C_take (m := ((l0.length : Int) : Int).toNat) hC12 (by omega); have hy12 : y359.length = ((l0.length : Int) : Int).toNat := (by rw [Ny359.out, List.length_take]; omega); rw [← Ny359.out] at hr12; rw [← hy12] at hcut12; have HR362 := Aside0.mk hr12; have HC362 := Aside0.mk (show y359.length ≤ co13 from by omega); clear hr12 hC12 hroom12 hi012 hsz12; have KY12 := Aside0.mk hy12; clear hy12; have KL12 := Aside0.mk (show ((l0.length : Int) : Int).toNat ≤ t356.length from by omega); replace q12 := eq_true q12) | ((with_reducible refine gate_callee (f := 20) rfl ?_); refine gL (some 21) Tryd.func20 #[.slice Ao13 y359.length co13] ?_; (with_reducible refine (value_Sum.calls k _ _ y359 t363 t364 t365 t366 _ ?side1 ?side2 A7.out).mono ?_); (case side1 => repeat (first | exact (by repeat (first | (with_reducible exact HR362.out) | (with_reducible refine Kd.C_alloc ?_ _) | (with_reducible refine Kd.C_drewN ?_ _) | (with_reducible refine Kd.C_drew ?_) | exact HR362.out)) | (with_reducible refine Kd.C_alloc ?_ _) | (with_reducible refine Kd.C_drewN ?_ _) | (with_reducible refine Kd.C_drew ?_))); (case side2 => exact HC362.out); rintro e w14 ⟨rfl, hb⟩; refine ⟨_, rfl, ?_⟩; replace HO358 := Aside0.mk (Kd.R_below (by (with_reducible repeat (first | apply Kd.R_alloc | apply Kd.R_drewN | apply Kd.R_drew)); exact HO358.out) hb); replace HR362 := Aside0.mk (Kd.C_below (by repeat (first | (with_reducible exact HR362.out) | (with_reducible refine Kd.C_alloc ?_ _) | (with_reducible refine Kd.C_drewN ?_ _) | (with_reducible refine Kd.C_drew ?_) | exact HR362.out)) hb); replace HB := bs hb; (try clear hb); (try clear hb2); (try clear hk); (try clear hi)) | ((with_reducible refine gate_dst (N := 5) rfl ?_); refine box_event ?hg (N := 5) ?hd (cs := #[.int .i64 0, .int .i64 0, .string (⟨#[]⟩ : ByteArray)]) (t := 23) ?hr ?_; (case hd => rfl); (case hg => rfl); (case hr => first | (go_simp; done) | (go_simp; rfl)); intro gb367 hg w15 hbox hb; have BK367 := Aside0.mk (hbox); have GW367 := bz hg; have GE367 := bz hg; replace HO358 := Aside0.mk (Kd.R_below (Kd.R_elderB (by (with_reducible repeat (first | apply Kd.R_alloc | apply Kd.R_drewN | apply Kd.R_drew)); exact HO358.out) gb367 (Nat.le_of_eq hg.symm)) hb); replace HR362 := Aside0.mk (Kd.C_below (by repeat (first | (with_reducible exact HR362.out) | (with_reducible refine Kd.C_alloc ?_ _) | (with_reducible refine Kd.C_drewN ?_ _) | (with_reducible refine Kd.C_drew ?_) | exact HR362.out)) hb); replace HB := bs hb; clear hb hbox hg; have hcz16_0 : w15.cell? ⟨gb367, 0, none⟩ = some (.int .i64 0) := (blk_cell BK367.out 0).trans rfl; have hcz16_1 : w15.cell? ⟨gb367, 1, none⟩ = some (.int .i64 0) := (blk_cell BK367.out 1).trans rfl; have hcz16_2 : w15.cell? ⟨gb367, 2, none⟩ = some (.string (⟨#[]⟩ : ByteArray)) := (blk_cell BK367.out 2).trans rfl; have hfz16_0 := blk_frozen BK367.out 0; have hfz16_1 := blk_frozen BK367.out 1; have hfz16_2 := blk_frozen BK367.out 2) | ((with_reducible refine gate_callee (f := 21) rfl ?_); refine gL (some 26) Tryd.func21 #[.slice A0 l0.length c0] ?_; (with_reducible refine (unisonref01_Sum.calls k _ _ l0 t368 t369 t370 t371 _ ?side1 ?side2 A8.out).mono ?_); (case side1 => exact Kd.C_below HR0.out bel); (case side2 => exact HC0.out); rintro e w17 ⟨rfl, hb⟩; refine ⟨_, rfl, ?_⟩; replace HR362 := Aside0.mk (Kd.C_below ((show Kd.C _ _ _ y359.length y359 from by rw [Ny359.out]; exact Kd.C_take (m := ((l0.length : Int) : Int).toNat) ((Kd.R_reads' (by (with_reducible repeat (first | apply Kd.R_alloc | apply Kd.R_drewN | apply Kd.R_drew)); exact (Kd.R_mono (Kd.R_far (p := ⟨gb367, 2, none⟩) (Kd.R_far (p := ⟨gb367, 1, none⟩) (Kd.R_far (p := ⟨gb367, 0, none⟩) (Kd.R_mono HO358.out (fun k_ hk => (⟨hk, hk.2⟩ : _ ∧ k_ ≠ gb367))) (fun _ hk => hk.2) (.int .i64 t363)) (fun _ hk => hk.2) (.int .i64 t364)) (fun _ hk => hk.2) (.string t365)) (fun _ h_ => h_.1)))).2.2) KL12.out)) hb); replace HO358 := Aside0.mk (Kd.R_below (by (with_reducible repeat (first | apply Kd.R_alloc | apply Kd.R_drewN | apply Kd.R_drew)); exact (Kd.R_mono (Kd.R_far (p := ⟨gb367, 2, none⟩) (Kd.R_far (p := ⟨gb367, 1, none⟩) (Kd.R_far (p := ⟨gb367, 0, none⟩) (Kd.R_mono HO358.out (fun k_ hk => (⟨hk, hk.2⟩ : _ ∧ k_ ≠ gb367))) (fun _ hk => hk.2) (.int .i64 t363)) (fun _ hk => hk.2) (.int .i64 t364)) (fun _ hk => hk.2) (.string t365)) (fun _ h_ => h_.1))) hb); replace BK367 := Aside0.mk (blk_below (g := gb367) (o := .cells #[.int .i64 t363, .int .i64 t364, .string t365] 23 (0, 0)) (by (with_reducible repeat first | apply bN | apply bD | apply bA); refine blk_put (cs := #[.int .i64 t363, .int .i64 t364, .string (⟨#[]⟩ : ByteArray)]) ?_ 2 _ rfl; (with_reducible repeat first | apply bN | apply bD | apply bA); refine blk_put (cs := #[.int .i64 t363, .int .i64 0, .string (⟨#[]⟩ : ByteArray)]) ?_ 1 _ rfl; (with_reducible repeat first | apply bN | apply bD | apply bA); refine blk_put (cs := #[.int .i64 0, .int .i64 0, .string (⟨#[]⟩ : ByteArray)]) ?_ 0 _ rfl; (with_reducible repeat first | apply bN | apply bD | apply bA); exact BK367.out) hb); replace HB := bs hb; (try clear hb); (try clear hb2); (try clear hk); (try clear hi)) | ((with_reducible refine gate_dst (N := 7) rfl ?_); refine box_event ?hg (N := 7) ?hd (cs := #[.int .i64 0, .int .i64 0, .string (⟨#[]⟩ : ByteArray)]) (t := 23) ?hr ?_; (case hd => rfl); (case hg => rfl); (case hr => first | (go_simp; done) | (go_simp; rfl)); intro gb372 hg w18 hbox hb; have BK372 := Aside0.mk (hbox); have GW372 := bz hg; have GE372 := bz hg; have NB367_372 := bl BK367 hg; have NB372_367 := bg BK367 hg; replace HO358 := Aside0.mk (Kd.R_below (Kd.R_elderB (by (with_reducible repeat (first | apply Kd.R_alloc | apply Kd.R_drewN | apply Kd.R_drew)); exact HO358.out) gb372 (Nat.le_of_eq hg.symm)) hb); replace HR362 := Aside0.mk (Kd.C_below (by repeat (first | (with_reducible exact HR362.out) | (with_reducible refine Kd.C_alloc ?_ _) | (with_reducible refine Kd.C_drewN ?_ _) | (with_reducible refine Kd.C_drew ?_) | exact HR362.out)) hb); replace BK367 := bb BK367 hb; replace HB := bs hb; clear hb hbox hg; have hnb19 := NB372_367.out; have hnc19 := NB367_372.out; have hcz20_0 : w18.cell? ⟨gb372, 0, none⟩ = some (.int .i64 0) := (blk_cell BK372.out 0).trans rfl; have hcz20_1 : w18.cell? ⟨gb372, 1, none⟩ = some (.int .i64 0) := (blk_cell BK372.out 1).trans rfl; have hcz20_2 : w18.cell? ⟨gb372, 2, none⟩ = some (.string (⟨#[]⟩ : ByteArray)) := (blk_cell BK372.out 2).trans rfl; have hfz20_0 := blk_frozen BK372.out 0; have hfz20_1 := blk_frozen BK372.out 1; have hfz20_2 := blk_frozen BK372.out 2))
    (try simp only [Act.put, List.setIfInBounds_toArray, List.set_cons_zero, List.set_cons_succ])
    go_cut [9] (fun v9 wc => ∃ (kq : Nat) (x9_8 : Bool), v9 = .bool x9_8 ∧ Aside0 (unisonlaw01_ValueSums.j0 kq t355 t366 t371 x9_8 t363 t364 t365 t368 t369 t370 = some r) ∧ Aside0 (kq ≤ k) ∧ Aside0 (wc.heap[gb367]? = some (.cells #[.int .i64 t363, .int .i64 t364, .string t365] 23 (0, 0))) ∧ Aside0 (wc.heap[gb372]? = some (.cells #[.int .i64 t368, .int .i64 t369, .string t370] 23 (0, 0))) ∧ Aside0 (Kd.C k23 wc Ao13 y359.length y359) ∧ Aside0 (Below w.heap.size w wc))
    case first =>
     have H := HC9.out; clear HC9; replace H := Option.bind_eq_some_iff.mp H
     obtain ⟨t373, A210, H⟩ := H
     replace H : (unisonlaw01_ValueSums.j0 k t355 t366 t371 t373 t363 t364 t365 t368 t369 t370) = some r := H; have A21 := Aside0.mk A210; clear A210
     have H' := Aside0.mk H
     clear H
     go_wp2_with (first | ((with_reducible refine gate_callee (f := 22) rfl ?_); refine gL (some 31) Tryd.func22 #[.slice Ao13 t356.length co13, .slice A0 l0.length c0] ?_; (with_reducible refine (unisonlaw01_kept.calls k _ _ t356 _ _ l0 t373 _ ?side1 ?side2 ?side3 ?side4 A21.out).mono ?_); (case side1 => refine (Kd.R_reads' (e := 23) (base := w.heap.size) (ok := fun k_ => ((True ∧ k_ ≠ gb367) ∧ k_ ≠ gb372)) (n := t356.length) (c := co13) ?_).2.2; exact (by (with_reducible repeat (first | apply Kd.R_alloc | apply Kd.R_drewN | apply Kd.R_drew)); exact (Kd.R_mono (Kd.R_far (p := ⟨gb372, 2, none⟩) (Kd.R_far (p := ⟨gb372, 1, none⟩) (Kd.R_far (p := ⟨gb372, 0, none⟩) (Kd.R_mono HO358.out (fun k_ hk => (⟨hk, hk.2⟩ : _ ∧ k_ ≠ gb372))) (fun _ hk => hk.2) (.int .i64 t368)) (fun _ hk => hk.2) (.int .i64 t369)) (fun _ hk => hk.2) (.string t370)) (fun _ h_ => h_.1)))); (case side2 => exact (Kd.R_reads' HO358.out).2.1); (case side3 => exact Kd.C_below HR0.out bel); (case side4 => exact HC0.out); rintro e w22 ⟨rfl, hb⟩; refine ⟨_, rfl, ?_⟩; replace HR362 := Aside0.mk (Kd.C_below ((show Kd.C _ _ _ y359.length y359 from by rw [Ny359.out]; exact Kd.C_take (m := ((l0.length : Int) : Int).toNat) ((Kd.R_reads' (by (with_reducible repeat (first | apply Kd.R_alloc | apply Kd.R_drewN | apply Kd.R_drew)); exact (Kd.R_mono (Kd.R_far (p := ⟨gb372, 2, none⟩) (Kd.R_far (p := ⟨gb372, 1, none⟩) (Kd.R_far (p := ⟨gb372, 0, none⟩) (Kd.R_mono HO358.out (fun k_ hk => (⟨hk, hk.2⟩ : _ ∧ k_ ≠ gb372))) (fun _ hk => hk.2) (.int .i64 t368)) (fun _ hk => hk.2) (.int .i64 t369)) (fun _ hk => hk.2) (.string t370)) (fun _ h_ => h_.1)))).2.2) KL12.out)) hb); replace HO358 := Aside0.mk (Kd.R_below (by (with_reducible repeat (first | apply Kd.R_alloc | apply Kd.R_drewN | apply Kd.R_drew)); exact (Kd.R_mono (Kd.R_far (p := ⟨gb372, 2, none⟩) (Kd.R_far (p := ⟨gb372, 1, none⟩) (Kd.R_far (p := ⟨gb372, 0, none⟩) (Kd.R_mono HO358.out (fun k_ hk => (⟨hk, hk.2⟩ : _ ∧ k_ ≠ gb372))) (fun _ hk => hk.2) (.int .i64 t368)) (fun _ hk => hk.2) (.int .i64 t369)) (fun _ hk => hk.2) (.string t370)) (fun _ h_ => h_.1))) hb); replace BK367 := bb BK367 hb; replace BK372 := Aside0.mk (blk_below (g := gb372) (o := .cells #[.int .i64 t368, .int .i64 t369, .string t370] 23 (0, 0)) (by (with_reducible repeat first | apply bN | apply bD | apply bA); refine blk_put (cs := #[.int .i64 t368, .int .i64 t369, .string (⟨#[]⟩ : ByteArray)]) ?_ 2 _ rfl; (with_reducible repeat first | apply bN | apply bD | apply bA); refine blk_put (cs := #[.int .i64 t368, .int .i64 0, .string (⟨#[]⟩ : ByteArray)]) ?_ 1 _ rfl; (with_reducible repeat first | apply bN | apply bD | apply bA); refine blk_put (cs := #[.int .i64 0, .int .i64 0, .string (⟨#[]⟩ : ByteArray)]) ?_ 0 _ rfl; (with_reducible repeat first | apply bN | apply bD | apply bA); exact BK372.out) hb); replace HB := bs hb; (try clear hb); (try clear hb2); (try clear hk); (try clear hi)))
     go_meet
     case rel => exact ⟨_, (t373), (by first | rfl | (simp; done) | (simp [*]; done)), H', ⟨by first | omega | exact Nat.le_refl _⟩, ⟨by (with_reducible repeat first | apply bN | apply bD | apply bA); exact BK367.out⟩, ⟨by (with_reducible repeat first | apply bN | apply bD | apply bA); exact BK372.out⟩, ⟨by repeat (first | (with_reducible exact HR362.out) | (with_reducible refine Kd.C_alloc ?_ _) | (with_reducible refine Kd.C_drewN ?_ _) | (with_reducible refine Kd.C_drew ?_) | exact HR362.out)⟩, ⟨by repeat (first | (with_reducible first | exact HB.out | apply pA | apply pN | apply pD | refine pS ?_ GE367.out | refine pS ?_ GE372.out) | exact HB.out)⟩⟩
    case rest =>
     clear HC9; (try clear c1); (try clear q1); (try clear c2); (try clear c2b0); (try clear c2b1); (try clear p2); (try clear c4); (try clear c5); (try clear c5b0); (try clear c5b1); (try clear c6); (try clear c6b0); (try clear c6b1); (try clear c12); (try clear q12); (try clear c19); (try clear c20); (try clear c21); (try clear c22); (try clear hcz16_0); (try clear hcz16_1); (try clear hcz16_2); (try clear hcz20_0); (try clear hcz20_1); (try clear hcz20_2); (try clear hfz16_0); (try clear hfz16_1); (try clear hfz16_2); (try clear hfz20_0); (try clear hfz20_1); (try clear hfz20_2); (try clear q12)
     obtain ⟨kq, x9_8, rfl, HA, HJ8, BK367, BK372, HR362, HB⟩ := hcut
     cases kq with
     | zero => exact absurd HA.out (by simp [unisonlaw01_ValueSums.j0])
     | succ kj8 =>
      have H := HA.out; clear HA
      simp only [unisonlaw01_ValueSums.j0] at H
      by_cases c23 : t355 = true
      ·
       subst c23
       have H1 : (if x9_8 = true then (if (t363 == t368 && (t364 == t369 && (t365.toList == t370.toList))) = true then (some (t366 == t371)) else (none)) else (none)) = some r := by (first | rw [if_pos rfl] at H | rw [if_pos True.intro] at H | skip); exact H
       clear H; have H := H1; clear H1
       by_cases c24 : x9_8 = true
       ·
        subst c24
        have H1 : (if (t363 == t368 && (t364 == t369 && (t365.toList == t370.toList))) = true then (some (t366 == t371)) else (none)) = some r := by (first | rw [if_pos rfl] at H | rw [if_pos True.intro] at H | skip); exact H
        clear H; have H := H1; clear H1
        by_cases c25 : (t363 == t368 && (t364 == t369 && (t365.toList == t370.toList))) = true
        ·
         rw [if_pos c25] at H
         have c25b0 : (t363 == t368 && (t364 == t369 && (t365.toList == t370.toList))) = true := c25
         (try (have c25b1 : decide (t363 = t368 && (t364 == t369 && (t365.toList == t370.toList))) = true := by simpa using c25))
         (try (have c25b2 : (t363 == t368 && (t364 == t369 && (t365.toList == t370.toList))) = true := by simpa using c25))
         clear c25
         obtain rfl := Option.some.inj H
         have hnb26 := NB367_372.out; have hnc26 := NB372_367.out; have hcz27_0 : wc.cell? ⟨gb367, 0, none⟩ = some (.int .i64 t363) := (blk_cell BK367.out 0).trans rfl; have hcz27_1 : wc.cell? ⟨gb367, 1, none⟩ = some (.int .i64 t364) := (blk_cell BK367.out 1).trans rfl; have hcz27_2 : wc.cell? ⟨gb367, 2, none⟩ = some (.string t365) := (blk_cell BK367.out 2).trans rfl; have hfz27_0 := blk_frozen BK367.out 0; have hfz27_1 := blk_frozen BK367.out 1; have hfz27_2 := blk_frozen BK367.out 2; have hcz28_0 : wc.cell? ⟨gb372, 0, none⟩ = some (.int .i64 t368) := (blk_cell BK372.out 0).trans rfl; have hcz28_1 : wc.cell? ⟨gb372, 1, none⟩ = some (.int .i64 t369) := (blk_cell BK372.out 1).trans rfl; have hcz28_2 : wc.cell? ⟨gb372, 2, none⟩ = some (.string t370) := (blk_cell BK372.out 2).trans rfl; have hfz28_0 := blk_frozen BK372.out 0; have hfz28_1 := blk_frozen BK372.out 1; have hfz28_2 := blk_frozen BK372.out 2
         go_wp2
         go_ret
         exact ⟨by first | (simp only [ByteArray.size_extract, Nat.min_self]; rfl) | rfl | (simp [errW_none, errW_some] <;> rfl) | (simp [*, errW_none, errW_some] <;> rfl), by repeat (first | (with_reducible first | exact HB.out | apply pA | apply pN | apply pD | refine pS ?_ GE367.out | refine pS ?_ GE372.out) | exact HB.out)⟩
        ·
         rw [if_neg c25] at H
         exact absurd H (by simp)
       ·
        replace c24 := Bool.eq_false_iff.mpr c24
        subst c24
        have H1 : (none) = some r := by rw [if_neg (show ¬ (false = true) by decide)] at H; exact H
        clear H; have H := H1; clear H1
        exact absurd H (by simp)
      ·
       replace c23 := Bool.eq_false_iff.mpr c23
       subst c23
       have H1 : (none) = some r := by rw [if_neg (show ¬ (false = true) by decide)] at H; exact H
       clear H; have H := H1; clear H1
       exact absurd H (by simp)
   ·
    rw [if_neg c6] at H
    exact absurd H (by simp)
  ·
   rw [if_neg c5] at H
   exact absurd H (by simp)
end Go.Proofs.YteehcopkljiikaaDoor.PA
