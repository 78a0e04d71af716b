-- Laid by a program of ours (wip/gen/xprint.py). Not trusted: Lean checks it.
import Derived.Test.YtohknmlcleifpaaDoorPAx0
import Derived.Test.YtohknmlcleifpaaDoorPAx1
import Derived.Test.YtohknmlcleifpaaDoorPAx2
import Derived.Test.YtohknmlcleifpaaDoorPAx5
import Derived.Test.YtohknmlcleifpaaDoorPAx8
import Derived.Test.YtohknmlcleifpaaDoorPAx10
import Derived.Test.YtohknmlcleifpaaDoorPAx13
namespace Go.Proofs.YtohknmlcleifpaaDoor.PA
open Go.RowKit Go.Proofs.YtohknmlcleifpaaDoorW.PrintWords Go.Proofs.YtohknmlcleifpaaDoorW.PrintLast Go.Proofs.YtohknmlcleifpaaDoorW.PrintMore Go.Proofs.YtohknmlcleifpaaDoorX
attribute [local go_sem] max2_int min2_int max_two min_two max_three min_three max_four min_four   -- for this text's walks alone
set_option linter.unusedVariables false
set_option linter.unusedSimpArgs false

attribute [local go_sem high] eqA25
theorem unisonlaw02_KeyReads.kn10 (r0_ : Int) (r1_ : Int) (r2_ : ByteArray) (h_ : unisonlaw02_number.f (-9) = some (r0_, r1_, r2_)) : r0_ = 1 ∧ r1_ = (-9) ∧ r2_ = (⟨#[]⟩ : ByteArray) := by
  have h2_ : unisonlaw02_number.f (-9) = some (1, (-9), (⟨#[]⟩ : ByteArray)) := by kernel_rfl
  have h3_ := Option.some.inj (h_.symm.trans h2_)
  simpa only [Prod.mk.injEq] using h3_
theorem unisonlaw02_KeyReads.kn11 (r0_ : Int) (r1_ : Int) (r2_ : ByteArray) (h_ : unisonlaw02_number.f 5 = some (r0_, r1_, r2_)) : r0_ = 1 ∧ r1_ = 5 ∧ r2_ = (⟨#[]⟩ : ByteArray) := by
  have h2_ : unisonlaw02_number.f 5 = some (1, 5, (⟨#[]⟩ : ByteArray)) := by kernel_rfl
  have h3_ := Option.some.inj (h_.symm.trans h2_)
  simpa only [Prod.mk.injEq] using h3_
/-! ### unisonlaw02_KeyReads: function 4 -/
mutual
def unisonlaw02_KeyReads.l0 : Nat → ByteArray → Bool → List (S25) → Int → List (S25) → Int → Bool → Int → Option (Bool)
 | 0, _, _, _, _, _, _, _, _ => none
 | k + 1, x0, x3, x4, x5, x6, x7, x8, x9 => if x9 < (x4.length : Int) then ((unisonlaw02_number.f (-9)).bind fun _ => (if 0 ≤ x9 then (unisonlaw02_KeyReads.l0 k x0 x3 (x4.set (x9 : Int).toNat (⟨1, (-9), (⟨#[]⟩ : ByteArray)⟩ : S25)) x5 x6 x7 x8 (wrap64 (x9 + 1))) else (none))) else ((unisonlaw02_number.f 5).bind fun _ => (if x4.length < 4398046511104 then ((key_Decode.f k x0).bind fun bt303 => ((unisonlaw02_same.f k bt303.1 x6).bind fun t307 => (unisonlaw02_KeyReads.j1 k x3 x5 x7 x8 bt303.2 t307))) else (none)))
def unisonlaw02_KeyReads.j1 : Nat → Bool → Int → Int → Bool → Int → Bool → Option (Bool)
 | 0, _, _, _, _, _, _ => none
 | k + 1, x3, x5, x7, x8, x11, x12 => if x3 = true then (if x8 = true then (if x12 = true then (if x5 = x7 then (some (x11 == x7)) else (none)) else (none)) else (none)) else (none)
end
def unisonlaw02_KeyReads.f (k : Nat) (a0 : ByteArray) : Option (Bool) := if (a0.size : Int) > 2147483647 then (some true) else ((unisonlaw02_awake.f k).bind fun t283 => ((key_Decode.f k a0).bind fun bt284 => ((unisonref02_Decode.f k a0).bind fun bt288 => ((unisonlaw02_same.f k bt284.1 bt288.1).bind fun t292 => (unisonlaw02_KeyReads.l0 k a0 t283 bt284.1 bt284.2 bt288.1 bt288.2 t292 0)))))
theorem unisonlaw02_KeyReads.mono_l : ∀ k, (∀ y0 y1 y2 y3 y4 y5 y6 y7, LeO (unisonlaw02_KeyReads.l0 k y0 y1 y2 y3 y4 y5 y6 y7) (unisonlaw02_KeyReads.l0 (k + 1) y0 y1 y2 y3 y4 y5 y6 y7)) ∧ (∀ y0 y1 y2 y3 y4 y5, LeO (unisonlaw02_KeyReads.j1 k y0 y1 y2 y3 y4 y5) (unisonlaw02_KeyReads.j1 (k + 1) y0 y1 y2 y3 y4 y5))
 | 0 => ⟨fun _ _ _ _ _ _ _ _ r h => by simp [unisonlaw02_KeyReads.l0] at h, fun _ _ _ _ _ _ r h => by simp [unisonlaw02_KeyReads.j1] at h⟩
 | k + 1 => by
  obtain ⟨ih0, ih1⟩ := unisonlaw02_KeyReads.mono_l k
  refine ⟨?_, ?_⟩
  ·
   intro y0 y1 y2 y3 y4 y5 y6 y7
   unfold unisonlaw02_KeyReads.l0
   repeat' first
   | (with_reducible exact ih0 _ _ _ _ _ _ _ _)
   | (with_reducible exact ih1 _ _ _ _ _ _)
   | (with_reducible exact key_Decode.mono _ _)
   | (with_reducible exact unisonlaw02_awake.mono _)
   | (with_reducible exact unisonlaw02_same.mono _ _ _)
   | (with_reducible exact unisonref02_Decode.mono _ _)
   | (with_reducible exact LeO.refl _)
   | (with_reducible exact LeO.none _)
   | (with_reducible refine LeO.ite ?_ ?_)
   | (with_reducible refine LeO.bind ?_ (fun _ => ?_))
   | exact ih0 _ _ _ _ _ _ _ _
   | exact ih1 _ _ _ _ _ _
   | exact key_Decode.mono _ _
   | exact unisonlaw02_awake.mono _
   | exact unisonlaw02_same.mono _ _ _
   | exact unisonref02_Decode.mono _ _
   | exact LeO.none _
   | refine LeO.ite ?_ ?_
   | refine LeO.bind ?_ (fun _ => ?_)
  ·
   intro y0 y1 y2 y3 y4 y5
   unfold unisonlaw02_KeyReads.j1
   repeat' first
   | (with_reducible exact ih0 _ _ _ _ _ _ _ _)
   | (with_reducible exact ih1 _ _ _ _ _ _)
   | (with_reducible exact key_Decode.mono _ _)
   | (with_reducible exact unisonlaw02_awake.mono _)
   | (with_reducible exact unisonlaw02_same.mono _ _ _)
   | (with_reducible exact unisonref02_Decode.mono _ _)
   | (with_reducible exact LeO.refl _)
   | (with_reducible exact LeO.none _)
   | (with_reducible refine LeO.ite ?_ ?_)
   | (with_reducible refine LeO.bind ?_ (fun _ => ?_))
   | exact ih0 _ _ _ _ _ _ _ _
   | exact ih1 _ _ _ _ _ _
   | exact key_Decode.mono _ _
   | exact unisonlaw02_awake.mono _
   | exact unisonlaw02_same.mono _ _ _
   | exact unisonref02_Decode.mono _ _
   | exact LeO.none _
   | refine LeO.ite ?_ ?_
   | refine LeO.bind ?_ (fun _ => ?_)
theorem unisonlaw02_KeyReads.mono : ∀ a0 k, LeO (unisonlaw02_KeyReads.f k a0) (unisonlaw02_KeyReads.f (k + 1) a0) := by
 intro a0 k
 obtain ⟨ih0, ih1⟩ := unisonlaw02_KeyReads.mono_l k
 unfold unisonlaw02_KeyReads.f
 repeat' first
   | (with_reducible exact ih0 _ _ _ _ _ _ _ _)
   | (with_reducible exact ih1 _ _ _ _ _ _)
   | (with_reducible exact key_Decode.mono _ _)
   | (with_reducible exact unisonlaw02_awake.mono _)
   | (with_reducible exact unisonlaw02_same.mono _ _ _)
   | (with_reducible exact unisonref02_Decode.mono _ _)
   | (with_reducible exact LeO.refl _)
   | (with_reducible exact LeO.none _)
   | (with_reducible refine LeO.ite ?_ ?_)
   | (with_reducible refine LeO.bind ?_ (fun _ => ?_))
   | exact ih0 _ _ _ _ _ _ _ _
   | exact ih1 _ _ _ _ _ _
   | exact key_Decode.mono _ _
   | exact unisonlaw02_awake.mono _
   | exact unisonlaw02_same.mono _ _ _
   | exact unisonref02_Decode.mono _ _
   | exact LeO.none _
   | refine LeO.ite ?_ ?_
   | refine LeO.bind ?_ (fun _ => ?_)
set_option maxHeartbeats 8000000 in
set_option maxRecDepth 100000 in
theorem unisonlaw02_KeyReads.calls (k : Nat) (a0 : ByteArray) (r : Bool) (w : World) (h : unisonlaw02_KeyReads.f k a0 = some r) :
  Calls Tryd.prog 4 #[.string a0] w fun e w' => e = .returned (.bool r) ∧ Below w.heap.size w w' := by
 have hu25 := Tryd.underlying25
 have HB := Aside0.mk (Below.refl w.heap.size w)
 have H : (if (a0.size : Int) > 2147483647 then (some true) else ((unisonlaw02_awake.f k).bind fun t283 => ((key_Decode.f k a0).bind fun bt284 => ((unisonref02_Decode.f k a0).bind fun bt288 => ((unisonlaw02_same.f k bt284.1 bt288.1).bind fun t292 => (unisonlaw02_KeyReads.l0 k a0 t283 bt284.1 bt284.2 bt288.1 bt288.2 t292 0)))))) = some r := h
 clear h
 by_cases c2 : (a0.size : Int) > 2147483647
 ·
  rw [if_pos c2] at H
  have c2b0 : decide (2147483647 < (a0.size : Int)) = true := decide_eq_true c2
  have c2b1 : decide (2147483647 < a0.size) = true := decide_eq_true (by omega)
  clear c2
  obtain rfl := Option.some.inj H
  go_enter Tryd.func4, Tryd.ntmps4
  go_wp2
  go_ret
  exact ⟨by first | rfl | (simp [errW_none, errW_some] <;> rfl) | (simp [*, errW_none, errW_some] <;> rfl), by repeat (first | (with_reducible first | exact HB.out | apply below_alloc | apply pw_below_drewN | apply below_drew1) | exact HB.out)⟩
 ·
  rw [if_neg c2] at H
  have c2b0 : decide (2147483647 < (a0.size : Int)) = false := decide_eq_false c2
  have c2b1 : decide (2147483647 < a0.size) = false := decide_eq_false (by omega)
  clear c2
  replace H := Option.bind_eq_some_iff.mp H
  obtain ⟨t283, A30, H⟩ := H
  replace H : ((key_Decode.f k a0).bind fun bt284 => ((unisonref02_Decode.f k a0).bind fun bt288 => ((unisonlaw02_same.f k bt284.1 bt288.1).bind fun t292 => (unisonlaw02_KeyReads.l0 k a0 t283 bt284.1 bt284.2 bt288.1 bt288.2 t292 0)))) = some r := H
  have A3 := Aside0.mk A30
  clear A30
  replace H := Option.bind_eq_some_iff.mp H
  obtain ⟨⟨t284, t285⟩, A40, H⟩ := H
  replace H : ((unisonref02_Decode.f k a0).bind fun bt288 => ((unisonlaw02_same.f k t284 bt288.1).bind fun t292 => (unisonlaw02_KeyReads.l0 k a0 t283 t284 t285 bt288.1 bt288.2 t292 0))) = some r := H
  have A4 := Aside0.mk A40
  clear A40
  replace H := Option.bind_eq_some_iff.mp H
  obtain ⟨⟨t288, t289⟩, A50, H⟩ := H
  replace H : ((unisonlaw02_same.f k t284 t288).bind fun t292 => (unisonlaw02_KeyReads.l0 k a0 t283 t284 t285 t288 t289 t292 0)) = some r := H
  have A5 := Aside0.mk A50
  clear A50
  replace H := Option.bind_eq_some_iff.mp H
  obtain ⟨t292, A60, H⟩ := H
  replace H : (unisonlaw02_KeyReads.l0 k a0 t283 t284 t285 t288 t289 t292 0) = some r := H
  have A6 := Aside0.mk A60
  clear A60
  have H' := Aside0.mk H
  clear H
  go_enter Tryd.func4, Tryd.ntmps4
  go_wp2_with (first | ((with_reducible refine gate_callee (f := 10) rfl ?_); refine goesL_ (some 16) rfl rfl Tryd.func10 (by kernel_rfl) rfl #[] rfl (by (try simp only [List.map_toArray, List.map_cons, List.map_nil]); first | done | rfl | (simp only [List.length_drop, List.length_take]; rfl)) ?_; (with_reducible refine (unisonlaw02_awake.calls k  t283 _ A3.out).mono ?_); rintro e w7 ⟨rfl, hb⟩; refine ⟨_, rfl, ?_⟩; have n0_ := Aside0.mk (below_step (by repeat (first | (with_reducible first | exact HB.out | apply below_alloc | apply pw_below_drewN | apply below_drew1) | exact HB.out)) hb); clear HB; have HB := n0_; clear n0_; (try clear hb); (try clear hb2); (try clear hk); (try clear hi)) | ((with_reducible refine gate_callee (f := 15) rfl ?_); refine goesL_ (some 19) rfl rfl Tryd.func15 (by kernel_rfl) rfl #[.string a0] rfl (by (try simp only [List.map_toArray, List.map_cons, List.map_nil]); first | done | rfl | (simp only [List.length_drop, List.length_take]; rfl)) ?_; (with_reducible refine (key_Decode.calls k a0 t284 t285 _ A4.out).mono ?_); rintro e w8 ⟨v286, rfl, ho0, hb⟩; refine ⟨_, rfl, ?_⟩; have n0_ := Aside0.mk (Kd.R_lower ho0 (below_size (by repeat (first | (with_reducible first | exact HB.out | apply below_alloc | apply pw_below_drewN | apply below_drew1) | exact HB.out)))); have n1_ := Aside0.mk (below_step (by repeat (first | (with_reducible first | exact HB.out | apply below_alloc | apply pw_below_drewN | apply below_drew1) | exact HB.out)) hb); clear HB; have HO287 := n0_; have HB := n1_; clear n0_ n1_; (try clear hb); (try clear hb2); (try clear hk); (try clear hi); (try clear ho0)) | ((with_reducible refine gate_callee (f := 16) rfl ?_); refine goesL_ (some 24) rfl rfl Tryd.func16 (by kernel_rfl) rfl #[.string a0] rfl (by (try simp only [List.map_toArray, List.map_cons, List.map_nil]); first | done | rfl | (simp only [List.length_drop, List.length_take]; rfl)) ?_; (with_reducible refine (unisonref02_Decode.calls k a0 t288 t289 _ A5.out).mono ?_); rintro e w9 ⟨v290, rfl, ho0, hb⟩; refine ⟨_, rfl, ?_⟩; have n0_ := Aside0.mk (Kd.R_elder' (by (with_reducible repeat (first | apply Kd.R_alloc | apply Kd.R_drewN | apply Kd.R_drew)); exact HO287.out) (Kd.R_base ho0) hb); have n1_ := Aside0.mk (Kd.R_lower (Kd.R_new' ho0 (Kd.R_lt (by (with_reducible repeat (first | apply Kd.R_alloc | apply Kd.R_drewN | apply Kd.R_drew)); exact HO287.out))) (below_size (by repeat (first | (with_reducible first | exact HB.out | apply below_alloc | apply pw_below_drewN | apply below_drew1) | exact HB.out)))); have n2_ := Aside0.mk (below_step (by repeat (first | (with_reducible first | exact HB.out | apply below_alloc | apply pw_below_drewN | apply below_drew1) | exact HB.out)) hb); clear HO287; clear HB; have HO287 := n0_; have HO291 := n1_; have HB := n2_; clear n0_ n1_ n2_; (try clear hb); (try clear hb2); (try clear hk); (try clear hi); (try clear ho0); obtain ⟨Ao10, co10, eo10⟩ := Kd.R_slice HO287.out; subst eo10; obtain ⟨Ao11, co11, eo11⟩ := Kd.R_slice HO291.out; subst eo11) | ((with_reducible refine gate_callee (f := 14) rfl ?_); refine goesL_ (some 29) rfl rfl Tryd.func14 (by kernel_rfl) rfl #[.slice Ao10 t284.length co10, .slice Ao11 t288.length co11] rfl (by (try simp only [List.map_toArray, List.map_cons, List.map_nil]); first | done | rfl | (simp only [List.length_drop, List.length_take]; rfl)) ?_; (with_reducible refine (unisonlaw02_same.calls k _ _ t284 _ _ t288 t292 _ ?side1 ?side2 ?side3 ?side4 A6.out).mono ?_); (case side1 => repeat (first | exact (Kd.R_reads' HO287.out).2.2 | (with_reducible refine Kd.C_alloc ?_ _) | (with_reducible refine Kd.C_drewN ?_ _) | (with_reducible refine Kd.C_drew ?_))); (case side2 => exact (Kd.R_reads' HO287.out).2.1); (case side3 => repeat (first | exact (Kd.R_reads' HO291.out).2.2 | (with_reducible refine Kd.C_alloc ?_ _) | (with_reducible refine Kd.C_drewN ?_ _) | (with_reducible refine Kd.C_drew ?_))); (case side4 => exact (Kd.R_reads' HO291.out).2.1); rintro e w' ⟨rfl, ⟨nd, rfl⟩⟩; refine ⟨_, rfl, ?_⟩))
  go_loopg [9] k (fun kq v9 w' => ∃ (x4_1 : List (S25)) (x9_1 : Int), v9 = .int .i64 x9_1 ∧ Aside0 (unisonlaw02_KeyReads.l0 kq a0 t283 x4_1 t285 t288 t289 t292 x9_1 = some r) ∧ Aside0 (kq ≤ k) ∧ Aside0 (Kd.R k25 25 w' w.heap.size (fun k_ => some k_ ≠ ((.slice Ao11 t288.length co11) : Value).ownBlock) (.slice Ao10 t284.length co10) x4_1) ∧ Aside0 (Kd.R k25 25 w' w.heap.size (fun k_ => some k_ ≠ ((.slice Ao10 t284.length co10) : Value).ownBlock) (.slice Ao11 t288.length co11) t288) ∧ Aside0 (Below w.heap.size w w'))
  case atStart => exact ⟨(t284), (0), (by first | rfl | (simp; done) | (simp [*]; done)), H', ⟨Nat.le_refl _⟩, ⟨by (with_reducible repeat (first | apply Kd.R_alloc | apply Kd.R_drewN | apply Kd.R_drew)); exact Kd.R_mono HO287.out (fun _ hk => hk.2)⟩, ⟨by (with_reducible repeat (first | apply Kd.R_alloc | apply Kd.R_drewN | apply Kd.R_drew)); exact Kd.R_mono HO291.out (fun _ hk => hk.2)⟩, ⟨by repeat (first | (with_reducible first | exact HB.out | apply below_alloc | apply pw_below_drewN | apply below_drew1) | exact HB.out)⟩⟩
  case round =>
   clear H'
   try clear c1
   try clear c2
   try clear c2b0
   try clear c2b1
   try clear p2
   try clear c4
   try clear c10
   obtain ⟨x4_1, x9_1, rfl, HA, HK1, HO_4, HO_6, HB⟩ := hrel
   have hl4_1 := (Kd.R_reads' HO_4.out).1
   rw [hl4_1] at HO_4
   (try simp only [hl4_1])
   (try simp only [hl4_1] at HO_6)
   cases gk with
   | zero => exact absurd HA.out (by simp [unisonlaw02_KeyReads.l0])
   | succ k1 =>
    have H := HA.out
    clear HA
    simp only [unisonlaw02_KeyReads.l0] at H
    by_cases c12 : x9_1 < (x4_1.length : Int)
    ·
     rw [if_pos c12] at H
     have c12b0 : decide (x9_1 < (x4_1.length : Int)) = true := decide_eq_true c12
     clear c12
     replace H := Option.bind_eq_some_iff.mp H
     obtain ⟨⟨t293, t294, t295⟩, A130, H⟩ := H
     replace H : (if 0 ≤ x9_1 then (unisonlaw02_KeyReads.l0 k1 a0 t283 (x4_1.set (x9_1 : Int).toNat (⟨1, (-9), (⟨#[]⟩ : ByteArray)⟩ : S25)) t285 t288 t289 t292 (wrap64 (x9_1 + 1))) else (none)) = some r := H
     have hk_ : t293 = 1 ∧ t294 = (-9) ∧ t295 = (⟨#[]⟩ : ByteArray) := unisonlaw02_KeyReads.kn10 _ _ _ (by have h_ := A130; exact h_)
     obtain ⟨rfl, rfl, rfl⟩ := hk_
     have A13 := Aside0.mk A130
     clear A130
     by_cases c14 : 0 ≤ x9_1
     ·
      rw [if_pos c14] at H
      have c14b0 : decide (0 ≤ x9_1) = true := decide_eq_true c14
      clear c14
      obtain ⟨y296, hy296⟩ : ∃ y_ : List (S25), y_ = (x4_1.set (x9_1 : Int).toNat (⟨1, (-9), (⟨#[]⟩ : ByteArray)⟩ : S25)) := ⟨_, rfl⟩
      replace H : (unisonlaw02_KeyReads.l0 k1 a0 t283 y296 t285 t288 t289 t292 (wrap64 (x9_1 + 1))) = some r := by first | (rw [hy296]; with_reducible exact H) | (have H2_ := (Option.bind_some _ _).symm.trans H; rw [hy296]; with_reducible exact H2_) | (have H2_ := (Option.bind_some _ _).symm.trans H; with_reducible exact H2_) | with_reducible exact H | (rw [hy296]; exact H) | exact H
      have Ny296 := Aside0.mk hy296
      clear hy296
      have H' := Aside0.mk H
      clear H
      go_wp2_with (first | ((with_reducible refine gate_callee (f := 11) rfl ?_); refine goesL_ (some 38) rfl rfl Tryd.func11 (by kernel_rfl) rfl #[.int .i64 (-9)] rfl (by (try simp only [List.map_toArray, List.map_cons, List.map_nil]); first | done | rfl | (simp only [List.length_drop, List.length_take]; rfl)) ?_; (with_reducible refine (unisonlaw02_number.calls (-9) 1 (-9) (⟨#[]⟩ : ByteArray) _ A13.out).mono ?_); rintro e w16 ⟨rfl, hb⟩; refine ⟨_, rfl, ?_⟩; have n0_ := Aside0.mk (Kd.R_below (by (with_reducible repeat (first | apply Kd.R_alloc | apply Kd.R_drewN | apply Kd.R_drew)); exact HO_4.out) hb); have n1_ := Aside0.mk (Kd.R_below (by (with_reducible repeat (first | apply Kd.R_alloc | apply Kd.R_drewN | apply Kd.R_drew)); exact HO_6.out) hb); have n2_ := Aside0.mk (below_step (by repeat (first | (with_reducible first | exact HB.out | apply below_alloc | apply pw_below_drewN | apply below_drew1) | exact HB.out)) hb); clear HO_4; clear HO_6; clear HB; have HO_4 := n0_; have HO_6 := n1_; have HB := n2_; clear n0_ n1_ n2_; (try clear hb); (try clear hb2); (try clear hk); (try clear hi); have p15 : 0 ≤ (x9_1 : Int) := of_decide_eq_true (by first | (with_reducible assumption) | assumption); have q15 : (x9_1 : Int) < ((x4_1.length : Int) : Int) := of_decide_eq_true (by first | (with_reducible assumption) | assumption); obtain ⟨go15, co15, eo15, gb15, gl15, cl15, HG15⟩ := Kd.R_form HO_4.out (by omega); (first | cases eo15 | (injection eo15 with ea_ en_ ec_; (first | subst ea_ | (injection ea_ with ea_; subst ea_)); subst ec_; clear en_)); have GB15 := Aside0.mk gb15; have GG15 := Aside0.mk HG15; clear gb15 gl15 HG15; obtain ⟨ce15, hcl15, hM15, hcc15, hfr15⟩ := Kd.R_elem HO_4.out z25 (x9_1 : Int) p15 q15; obtain rfl := k25_openM hM15; have hx15_0 : w16.cell? ⟨go15, (x9_1 : Int).toNat * 3, none⟩ = some (.int .i64 ((rd_T25 x4_1 x9_1).f0)) := hcc15 0 _ rfl; have hx15_1 : w16.cell? ⟨go15, (x9_1 : Int).toNat * 3 + 1, none⟩ = some (.int .i64 ((rd_T25 x4_1 x9_1).f1)) := hcc15 1 _ rfl; have hx15_2 : w16.cell? ⟨go15, (x9_1 : Int).toNat * 3 + 2, none⟩ = some (.string ((rd_T25 x4_1 x9_1).f2)) := hcc15 2 _ rfl; have hf15_0 : w16.frozen? ⟨go15, (x9_1 : Int).toNat * 3, none⟩ = false := hfr15 0; have hf15_1 : w16.frozen? ⟨go15, (x9_1 : Int).toNat * 3 + 1, none⟩ = false := hfr15 1; have hf15_2 : w16.frozen? ⟨go15, (x9_1 : Int).toNat * 3 + 2, none⟩ = false := hfr15 2; clear hcl15 hcc15 hfr15 hM15; replace p15 := eq_true p15; replace q15 := eq_true q15; have HX17 := Aside0.mk (show Kd.R k25 25 w16 w.heap.size (fun k_ => some k_ ≠ (.slice Ao11 t288.length co11 : Value).ownBlock) (.slice (some ⟨go15, 0, none⟩) x4_1.length co10) x4_1 from (by (with_reducible repeat (first | apply Kd.R_alloc | apply Kd.R_drewN | apply Kd.R_drew)); exact HO_4.out)); obtain ⟨ce17, hcl17, hM17, hcc17, hfr17⟩ := Kd.R_elem HX17.out z25 (x9_1 : Int) (of_decide_eq_true (by first | (with_reducible assumption) | assumption)) (by have h_ : (x9_1 : Int) < ((x4_1.length : Int) : Int) := of_decide_eq_true (by first | (with_reducible assumption) | assumption); first | exact h_ | (have e_ := (Kd.R_reads' HO_4.out).1; omega) | simpa using h_); obtain rfl := k25_openM hM17; have HP17 := Kd.R_seg HX17.out (x9_1 : Int) (of_decide_eq_true (by first | (with_reducible assumption) | assumption)) (by have h_ : (x9_1 : Int) < ((x4_1.length : Int) : Int) := of_decide_eq_true (by first | (with_reducible assumption) | assumption); first | exact h_ | (have e_ := (Kd.R_reads' HO_4.out).1; omega) | simpa using h_) (seg := [.int .i64 1, .int .i64 (-9), .string (⟨#[]⟩ : ByteArray)]) (j := 0) hcl17 hcc17 (show 3 ≤ 3 from by decide) (x' := (⟨1, (-9), (⟨#[]⟩ : ByteArray)⟩ : S25)) (k25_mkM _ _ _ (⟨1, (-9), (⟨#[]⟩ : ByteArray)⟩ : S25) ) (fun _ hk => hk); have hx17_0 := hcc17 0 _ rfl; (try simp only [show (k25).sz = 3 from rfl, Nat.mul_one, Nat.add_zero, Int.toNat_natCast] at hx17_0); have hf17_0 := hfr17 0; (try simp only [show (k25).sz = 3 from rfl, Nat.mul_one, Nat.add_zero, Int.toNat_natCast] at hf17_0); have hx17_1 := hcc17 1 _ rfl; (try simp only [show (k25).sz = 3 from rfl, Nat.mul_one, Nat.add_zero, Int.toNat_natCast] at hx17_1); have hf17_1 := hfr17 1; (try simp only [show (k25).sz = 3 from rfl, Nat.mul_one, Nat.add_zero, Int.toNat_natCast] at hf17_1); have hx17_2 := hcc17 2 _ rfl; (try simp only [show (k25).sz = 3 from rfl, Nat.mul_one, Nat.add_zero, Int.toNat_natCast] at hx17_2); have hf17_2 := hfr17 2; (try simp only [show (k25).sz = 3 from rfl, Nat.mul_one, Nat.add_zero, Int.toNat_natCast] at hf17_2); clear hcl17 hcc17 hfr17 hM17) | ((with_reducible refine gate_store (t := 25) (p := 39) rfl ?_); refine store_event (t := 25) (p := 39) (v := ?vo_w18) (w1 := (((w16.setCell ⟨go15, (x9_1 : Int).toNat * 3, none⟩ (.int .i64 1)).setCell ⟨go15, (x9_1 : Int).toNat * 3 + 1, none⟩ (.int .i64 (-9))).setCell ⟨go15, (x9_1 : Int).toNat * 3 + 2, none⟩ (.string (⟨#[]⟩ : ByteArray)))) ?hg ?ho ?hn ?hr ?_; (case ho => rfl); (case hg => rfl); (case hn => rfl); (case hr => first | (go_simp; done) | (go_simp; rfl)); intro w18 hw; have hg : w16.grownBy w18 (some go15) := (by rw [hw]; exact HP17.2); have hp_ : Kd.R k25 25 w18 w.heap.size (fun k_ => some k_ ≠ (.slice Ao11 t288.length co11 : Value).ownBlock) (.slice (some ⟨go15, 0, none⟩) x4_1.length co10) y296 := (by rw [hw, Ny296.out]; exact HP17.1); clear HP17; have n0_ := Aside0.mk (hp_); have n1_ := Aside0.mk (Kd.R_after (v := (.slice (some ⟨go15, 0, none⟩) x4_1.length co10)) (v1 := (.slice (some ⟨go15, 0, none⟩) x4_1.length co10)) (ok := (fun _ => True)) (by (with_reducible repeat (first | apply Kd.R_alloc | apply Kd.R_drewN | apply Kd.R_drew)); exact Kd.R_mono HO_6.out (fun _ hk => ⟨trivial, hk⟩)) hg (.inl rfl)); have n2_ := Aside0.mk ((by rw [hw]; exact below_set (below_set (below_set (HB.out) GB15.out) GB15.out) GB15.out : Below w.heap.size w w18)); clear HO_4; clear HO_6; clear HB; have HO_4 := n0_; have HO_6 := n1_; have HB := n2_; clear n0_ n1_ n2_; clear hg hw hp_))
      (try simp only [← hl4_1])
      go_roundg k1
      case measure => have := HK1.out; omega
      case rel => exact ⟨(y296), (wrap64 (x9_1 + 1)), (by first | rfl | (simp; done) | (simp [*]; done)), H', ⟨by have := HK1.out; omega⟩, ⟨by (try simp only [hl4_1]); (with_reducible repeat (first | apply Kd.R_alloc | apply Kd.R_drewN | apply Kd.R_drew)); exact HO_4.out⟩, ⟨by (try simp only [hl4_1]); (with_reducible repeat (first | apply Kd.R_alloc | apply Kd.R_drewN | apply Kd.R_drew)); exact Kd.R_mono HO_6.out (fun _ hk => hk.2)⟩, ⟨by repeat (first | (with_reducible first | exact HB.out | apply below_alloc | apply pw_below_drewN | apply below_drew1) | exact HB.out)⟩⟩
     ·
      rw [if_neg c14] at H
      exact absurd H (by simp)
    ·
     rw [if_neg c12] at H
     have c12b0 : decide (x9_1 < (x4_1.length : Int)) = false := decide_eq_false c12
     clear c12
     replace H := Option.bind_eq_some_iff.mp H
     obtain ⟨⟨t297, t298, t299⟩, A190, H⟩ := H
     replace H : (if x4_1.length < 4398046511104 then ((key_Decode.f k1 a0).bind fun bt303 => ((unisonlaw02_same.f k1 bt303.1 t288).bind fun t307 => (unisonlaw02_KeyReads.j1 k1 t283 t285 t289 t292 bt303.2 t307))) else (none)) = some r := H
     have hk_ : t297 = 1 ∧ t298 = 5 ∧ t299 = (⟨#[]⟩ : ByteArray) := unisonlaw02_KeyReads.kn11 _ _ _ (by have h_ := A190; exact h_)
     obtain ⟨rfl, rfl, rfl⟩ := hk_
     have A19 := Aside0.mk A190
     clear A190
     by_cases c20 : x4_1.length < 4398046511104
     ·
      rw [if_pos c20] at H
      have LMc20 := Aside0.mk c20
      clear c20
      obtain ⟨y300, hy300⟩ : ∃ y_ : List (S25), y_ = (x4_1 ++ [(⟨1, 5, (⟨#[]⟩ : ByteArray)⟩ : S25)]) := ⟨_, rfl⟩
      replace H : ((key_Decode.f k1 a0).bind fun bt303 => ((unisonlaw02_same.f k1 bt303.1 t288).bind fun t307 => (unisonlaw02_KeyReads.j1 k1 t283 t285 t289 t292 bt303.2 t307))) = some r := by first | (rw [hy300]; with_reducible exact H) | (have H2_ := (Option.bind_some _ _).symm.trans H; rw [hy300]; with_reducible exact H2_) | (have H2_ := (Option.bind_some _ _).symm.trans H; with_reducible exact H2_) | with_reducible exact H | (rw [hy300]; exact H) | exact H
      have Ny300 := Aside0.mk hy300
      clear hy300
      replace H := Option.bind_eq_some_iff.mp H
      obtain ⟨⟨t303, t304⟩, A210, H⟩ := H
      replace H : ((unisonlaw02_same.f k1 t303 t288).bind fun t307 => (unisonlaw02_KeyReads.j1 k1 t283 t285 t289 t292 t304 t307)) = some r := H
      have A21 := Aside0.mk A210
      clear A210
      have HC22 := Aside0.mk H
      clear H
      go_upto_region 13 with (first | ((with_reducible refine gate_callee (f := 11) rfl ?_); refine goesL_ (some 41) rfl rfl Tryd.func11 (by kernel_rfl) rfl #[.int .i64 5] rfl (by (try simp only [List.map_toArray, List.map_cons, List.map_nil]); first | done | rfl | (simp only [List.length_drop, List.length_take]; rfl)) ?_; (with_reducible refine (unisonlaw02_number.calls 5 1 5 (⟨#[]⟩ : ByteArray) _ A19.out).mono ?_); rintro e w23 ⟨rfl, hb⟩; refine ⟨_, rfl, ?_⟩; have n0_ := Aside0.mk (Kd.R_below (by (with_reducible repeat (first | apply Kd.R_alloc | apply Kd.R_drewN | apply Kd.R_drew)); exact HO_4.out) hb); have n1_ := Aside0.mk (Kd.R_below (by (with_reducible repeat (first | apply Kd.R_alloc | apply Kd.R_drewN | apply Kd.R_drew)); exact HO_6.out) hb); have n2_ := Aside0.mk (below_step (by repeat (first | (with_reducible first | exact HB.out | apply below_alloc | apply pw_below_drewN | apply below_drew1) | exact HB.out)) hb); clear HO_4; clear HO_6; clear HB; have HO_4 := n0_; have HO_6 := n1_; have HB := n2_; clear n0_ n1_ n2_; (try clear hb); (try clear hb2); (try clear hk); (try clear hi)) | ((with_reducible refine gate_builtin (b := .append) (xs := #[.tmp 40, .tmp 42]) rfl ?_); at_builtin; refine Kd.R_append k25 (w0 := w) w.heap.size rfl (.tmp 40) (.tmp 42) 22 25 (.agg #[(.int .i64 0), (.int .i64 0), (.string ⟨#[]⟩)]) 32 rfl Tryd.underlying22 info25 rfl (by decide) (by omega) (.slice Ao10 x4_1.length co10) x4_1 (⟨1, 5, (⟨#[]⟩ : ByteArray)⟩ : S25) [.int .i64 1, .int .i64 5, .string (⟨#[]⟩ : ByteArray)] (fun k_ => some k_ ≠ (.slice Ao11 t288.length co11 : Value).ownBlock) (fun _ => False) rfl rfl ?aP (fun _ hk => hk.elim) ?aF ?aO ?aB ?aS ?aL ?_; (case aP => exact k25_mkM _ _ _ (⟨1, 5, (⟨#[]⟩ : ByteArray)⟩ : S25)); (case aB => exact (by repeat (first | (with_reducible first | exact HB.out | apply below_alloc | apply pw_below_drewN | apply below_drew1) | exact HB.out))); (case aF => exact (fun k_ hk => Kd.fresh' (Kd.R_lt (by (with_reducible repeat (first | apply Kd.R_alloc | apply Kd.R_drewN | apply Kd.R_drew)); exact HO_6.out)) k_ hk)); (case aO => exact (by (with_reducible repeat (first | apply Kd.R_alloc | apply Kd.R_drewN | apply Kd.R_drew)); exact HO_4.out)); (case aS => exact (below_size (by repeat (first | (with_reducible first | exact HB.out | apply below_alloc | apply pw_below_drewN | apply below_drew1) | exact HB.out)))); (case aL => have := LMc20.out; omega); intro v301 w24 ho hb hg hat; rw [← Ny300.out] at ho; have n0_ := Aside0.mk (Kd.R_after (ok := (fun _ => True)) (by (with_reducible repeat (first | apply Kd.R_alloc | apply Kd.R_drewN | apply Kd.R_drew)); exact Kd.R_mono HO_6.out (fun _ hk => ⟨trivial, hk⟩)) hg hat); have n1_ := Aside0.mk (hb); have n2_ := Aside0.mk (ho); clear HO_6; clear HB; clear HO_4; have HO_6 := n0_; have HB := n1_; have HO302 := n2_; clear n0_ n1_ n2_; clear ho hb hg hat) | ((with_reducible refine gate_callee (f := 15) rfl ?_); refine goesL_ (some 46) rfl rfl Tryd.func15 (by kernel_rfl) rfl #[.string a0] rfl (by (try simp only [List.map_toArray, List.map_cons, List.map_nil]); first | done | rfl | (simp only [List.length_drop, List.length_take]; rfl)) ?_; (with_reducible refine (key_Decode.calls k1 a0 t303 t304 _ A21.out).mono ?_); rintro e w25 ⟨v305, rfl, ho0, hb⟩; refine ⟨_, rfl, ?_⟩; have n0_ := Aside0.mk (Kd.R_elder' (by (with_reducible repeat (first | apply Kd.R_alloc | apply Kd.R_drewN | apply Kd.R_drew)); exact HO_6.out) (Kd.R_base ho0) hb); have n1_ := Aside0.mk (Kd.R_elder' (by (with_reducible repeat (first | apply Kd.R_alloc | apply Kd.R_drewN | apply Kd.R_drew)); exact HO302.out) (Kd.R_base ho0) hb); have n2_ := Aside0.mk (Kd.R_lower (Kd.R_new' (Kd.R_new' ho0 (Kd.R_lt (by (with_reducible repeat (first | apply Kd.R_alloc | apply Kd.R_drewN | apply Kd.R_drew)); exact HO_6.out))) (Kd.R_lt (by (with_reducible repeat (first | apply Kd.R_alloc | apply Kd.R_drewN | apply Kd.R_drew)); exact HO302.out))) (below_size (by repeat (first | (with_reducible first | exact HB.out | apply below_alloc | apply pw_below_drewN | apply below_drew1) | exact HB.out)))); have n3_ := Aside0.mk (below_step (by repeat (first | (with_reducible first | exact HB.out | apply below_alloc | apply pw_below_drewN | apply below_drew1) | exact HB.out)) hb); clear HO_6; clear HO302; clear HB; have HO_6 := n0_; have HO302 := n1_; have HO306 := n2_; have HB := n3_; clear n0_ n1_ n2_ n3_; (try clear hb); (try clear hb2); (try clear hk); (try clear hi); (try clear ho0)))
      (try simp only [Act.put, List.setIfInBounds_toArray, List.set_cons_zero, List.set_cons_succ])
      go_cut [12] (fun v12 wc => ∃ (kq : Nat) (x12_21 : Bool), v12 = .bool x12_21 ∧ Aside0 (unisonlaw02_KeyReads.j1 kq t283 t285 t289 t292 t304 x12_21 = some r) ∧ Aside0 (kq ≤ k1) ∧ Aside0 (Below w.heap.size w wc))
      case first =>
       have H := HC22.out
       clear HC22
       replace H := Option.bind_eq_some_iff.mp H
       obtain ⟨t307, A260, H⟩ := H
       replace H : (unisonlaw02_KeyReads.j1 k1 t283 t285 t289 t292 t304 t307) = some r := H
       have A26 := Aside0.mk A260
       clear A260
       have H' := Aside0.mk H
       clear H
       obtain ⟨Ao27, co27, eo27⟩ := Kd.R_slice HO306.out
       subst eo27
       go_wp2_with (first | ((with_reducible refine gate_callee (f := 14) rfl ?_); refine goesL_ (some 51) rfl rfl Tryd.func14 (by kernel_rfl) rfl #[.slice Ao27 t303.length co27, .slice Ao11 t288.length co11] rfl (by (try simp only [List.map_toArray, List.map_cons, List.map_nil]); first | done | rfl | (simp only [List.length_drop, List.length_take]; rfl)) ?_; (with_reducible refine (unisonlaw02_same.calls k1 _ _ t303 _ _ t288 t307 _ ?side1 ?side2 ?side3 ?side4 A26.out).mono ?_); (case side1 => repeat (first | exact (Kd.R_reads' HO306.out).2.2 | (with_reducible refine Kd.C_alloc ?_ _) | (with_reducible refine Kd.C_drewN ?_ _) | (with_reducible refine Kd.C_drew ?_))); (case side2 => exact (Kd.R_reads' HO306.out).2.1); (case side3 => repeat (first | exact (Kd.R_reads' HO_6.out).2.2 | (with_reducible refine Kd.C_alloc ?_ _) | (with_reducible refine Kd.C_drewN ?_ _) | (with_reducible refine Kd.C_drew ?_))); (case side4 => exact (Kd.R_reads' HO_6.out).2.1); rintro e w' ⟨rfl, ⟨nd, rfl⟩⟩; refine ⟨_, rfl, ?_⟩))
       go_meet
       case rel => exact ⟨_, (t307), (by first | rfl | (simp; done) | (simp [*]; done)), H', ⟨by have := HK1.out; first | omega | exact Nat.le_refl _⟩, ⟨by repeat (first | (with_reducible first | exact HB.out | apply below_alloc | apply pw_below_drewN | apply below_drew1) | exact HB.out)⟩⟩
      case rest =>
       clear HC22
       try clear c1
       try clear p1
       try clear q1
       try clear hx1
       try clear hf1
       try clear c2
       try clear c2b0
       try clear c2b1
       try clear p2
       try clear c4
       try clear p6
       try clear c10
       try clear c11
       try clear c12
       try clear c12b0
       try clear c14
       try clear c14b0
       try clear c15
       try clear p15
       try clear q15
       try clear hx15
       try clear hf15
       try clear c16
       try clear c17
       try clear hx17
       try clear hf17
       try clear c20
       try clear hx15_0
       try clear hx15_1
       try clear hx15_2
       try clear hx17_0
       try clear hx17_1
       try clear hx17_2
       try clear p15
       try clear p2
       try clear q15
       obtain ⟨kq, x12_21, rfl, HA, HJ21, HB⟩ := hcut
       cases kq with
       | zero => exact absurd HA.out (by simp [unisonlaw02_KeyReads.j1])
       | succ kj21 =>
        have H := HA.out
        clear HA
        simp only [unisonlaw02_KeyReads.j1] at H
        by_cases c28 : t283 = true
        ·
         subst c28
         have H1 : (if t292 = true then (if x12_21 = true then (if t285 = t289 then (some (t304 == t289)) else (none)) else (none)) else (none)) = some r := by rw [if_pos rfl] at H; exact H
         clear H
         have H := H1
         clear H1
         by_cases c29 : t292 = true
         ·
          subst c29
          have H1 : (if x12_21 = true then (if t285 = t289 then (some (t304 == t289)) else (none)) else (none)) = some r := by rw [if_pos rfl] at H; exact H
          clear H
          have H := H1
          clear H1
          by_cases c30 : x12_21 = true
          ·
           subst c30
           have H1 : (if t285 = t289 then (some (t304 == t289)) else (none)) = some r := by rw [if_pos rfl] at H; exact H
           clear H
           have H := H1
           clear H1
           by_cases c31 : t285 = t289
           ·
            rw [if_pos c31] at H
            have c31b0 : (t285 == t289) = true := beq_iff_eq.mpr c31
            have c31b1 : (t285 != t289) = false := bne_eq_false_iff_eq.mpr c31
            clear c31
            obtain rfl := Option.some.inj H
            go_wp2
            go_ret
            exact ⟨by first | rfl | (simp [errW_none, errW_some] <;> rfl) | (simp [*, errW_none, errW_some] <;> rfl), by repeat (first | (with_reducible first | exact HB.out | apply below_alloc | apply pw_below_drewN | apply below_drew1) | exact HB.out)⟩
           ·
            rw [if_neg c31] at H
            exact absurd H (by simp)
          ·
           replace c30 := Bool.eq_false_iff.mpr c30
           subst c30
           have H1 : (none) = some r := by rw [if_neg (show ¬ (false = true) by decide)] at H; exact H
           clear H
           have H := H1
           clear H1
           exact absurd H (by simp)
         ·
          replace c29 := Bool.eq_false_iff.mpr c29
          subst c29
          have H1 : (none) = some r := by rw [if_neg (show ¬ (false = true) by decide)] at H; exact H
          clear H
          have H := H1
          clear H1
          exact absurd H (by simp)
        ·
         replace c28 := Bool.eq_false_iff.mpr c28
         subst c28
         have H1 : (none) = some r := by rw [if_neg (show ¬ (false = true) by decide)] at H; exact H
         clear H
         have H := H1
         clear H1
         exact absurd H (by simp)
     ·
      rw [if_neg c20] at H
      exact absurd H (by simp)

/-- THE ONE PURE STATEMENT of unisonlaw02_KeyReads: yours. -/
def unisonlaw02_KeyReads.Pure : Prop := ∀ (a0 : ByteArray), a0.size ≤ 140737488351232 → ∃ k, unisonlaw02_KeyReads.f k a0 = some true
theorem unisonlaw02_KeyReads.walk (P : unisonlaw02_KeyReads.Pure) (a0 : ByteArray) (w : World) (w0 : a0.size ≤ 140737488351232) :
  Calls Tryd.prog 4 #[.string a0] w fun e w' => e = .returned (.bool true) ∧ Below w.heap.size w w' := by
 obtain ⟨k, h⟩ := P a0 w0
 refine (unisonlaw02_KeyReads.calls k a0 true w h).mono ?_
 rintro e w' ⟨rfl, hd⟩
 exact ⟨rfl, hd⟩

/-! ### unisonref01_Order: function 29 -/
def unisonref01_Order.f (a0_0 : Int) (a0_1 : Int) (a0_2 : ByteArray) (a1_0 : Int) (a1_1 : Int) (a1_2 : ByteArray) : Option (Int) := if (a0_0 == a1_0 && (a0_1 == a1_1 && (a0_2.toList == a1_2.toList))) = true then (some 0) else (if a0_0 < a1_0 then (some (-1)) else (if a0_0 = a1_0 then (if a0_1 < a1_1 then (some (-1)) else (if a0_1 = a1_1 then (if (Op.bytesLess a0_2.toList a1_2.toList) = true then (some (-1)) else (some 1)) else (some 1))) else (some 1)))
set_option maxHeartbeats 8000000 in
set_option maxRecDepth 100000 in
theorem unisonref01_Order.calls (a0_0 : Int) (a0_1 : Int) (a0_2 : ByteArray) (a1_0 : Int) (a1_1 : Int) (a1_2 : ByteArray) (r : Int) (w : World) (h : unisonref01_Order.f a0_0 a0_1 a0_2 a1_0 a1_1 a1_2 = some r) :
  Calls Tryd.prog 29 #[.agg #[.int .i64 a0_0, .int .i64 a0_1, .string a0_2], .agg #[.int .i64 a1_0, .int .i64 a1_1, .string a1_2]] w fun e w' => e = .returned (.int .i64 r) ∧ Below w.heap.size w w' := by
 have hu25 := Tryd.underlying25
 have HB := Aside0.mk (Below.refl w.heap.size w)
 have H : (if (a0_0 == a1_0 && (a0_1 == a1_1 && (a0_2.toList == a1_2.toList))) = true then (some 0) else (if a0_0 < a1_0 then (some (-1)) else (if a0_0 = a1_0 then (if a0_1 < a1_1 then (some (-1)) else (if a0_1 = a1_1 then (if (Op.bytesLess a0_2.toList a1_2.toList) = true then (some (-1)) else (some 1)) else (some 1))) else (some 1)))) = some r := h
 clear h
 by_cases c3 : (a0_0 == a1_0 && (a0_1 == a1_1 && (a0_2.toList == a1_2.toList))) = true
 ·
  rw [if_pos c3] at H
  have c3b0 : (a0_0 == a1_0 && (a0_1 == a1_1 && (a0_2.toList == a1_2.toList))) = true := c3
  (try (have c3b1 : decide (a0_0 = a1_0 && (a0_1 == a1_1 && (a0_2.toList == a1_2.toList))) = true := by simpa using c3))
  (try (have c3b2 : (a0_0 == a1_0 && (a0_1 == a1_1 && (a0_2.toList == a1_2.toList))) = true := by simpa using c3))
  clear c3
  obtain rfl := Option.some.inj H
  go_enter Tryd.func29, Tryd.ntmps29
  go_wp2_with (first | ((with_reducible refine gate_dst (N := 2) rfl ?_); refine box_event ?hg (N := 2) ?hd (cs := #[.int .i64 a0_0, .int .i64 a0_1, .string a0_2]) (t := 25) ?hr ?_; (case hd => rfl); (case hg => rfl); (case hr => first | (go_simp; done) | (go_simp; rfl)); intro gb308 hg w4 hbox hb; have n0_ := Aside0.mk (below_step (by repeat (first | (with_reducible first | exact HB.out | apply below_alloc | apply pw_below_drewN | apply below_drew1) | exact HB.out)) hb); have n1_ := Aside0.mk (hbox); have n2_ := Aside0.mk ((by rw [hg]; exact (below_size (by repeat (first | (with_reducible first | exact HB.out | apply below_alloc | apply pw_below_drewN | apply below_drew1) | exact HB.out))) : w.heap.size ≤ gb308)); have n3_ := Aside0.mk ((by rw [hg]; exact (below_size (by repeat (first | (with_reducible first | exact HB.out | apply below_alloc | apply pw_below_drewN | apply below_drew1) | exact HB.out))) : w.heap.size ≤ gb308)); clear HB; have HB := n0_; have BK308 := n1_; have GW308 := n2_; have GE308 := n3_; clear n0_ n1_ n2_ n3_; clear hb hbox hg) | ((with_reducible refine gate_dst (N := 3) rfl ?_); refine box_event ?hg (N := 3) ?hd (cs := #[.int .i64 a1_0, .int .i64 a1_1, .string a1_2]) (t := 25) ?hr ?_; (case hd => rfl); (case hg => rfl); (case hr => first | (go_simp; done) | (go_simp; rfl)); intro gb309 hg w5 hbox hb; have n0_ := Aside0.mk (blk_below (g := gb308) (o := .cells #[.int .i64 a0_0, .int .i64 a0_1, .string a0_2] 25 (0, 0)) (by (with_reducible repeat (first | refine blk_drewN ?_ _ | refine blk_drew ?_ | refine blk_alloc ?_ _)); exact BK308.out) hb); have n1_ := Aside0.mk (below_step (by repeat (first | (with_reducible first | exact HB.out | apply below_alloc | apply pw_below_drewN | apply below_drew1 | refine below_set ?_ GE308.out) | exact HB.out)) hb); have n2_ := Aside0.mk (hbox); have n3_ := Aside0.mk ((by rw [hg]; exact (below_size (by repeat (first | (with_reducible first | exact HB.out | apply below_alloc | apply pw_below_drewN | apply below_drew1 | refine below_set ?_ GE308.out) | exact HB.out))) : w.heap.size ≤ gb309)); have n4_ := Aside0.mk ((by rw [hg]; exact (below_size (by repeat (first | (with_reducible first | exact HB.out | apply below_alloc | apply pw_below_drewN | apply below_drew1 | refine below_set ?_ GE308.out) | exact HB.out))) : w.heap.size ≤ gb309)); have n5_ := Aside0.mk ((by rw [hg]; exact Nat.ne_of_lt (blk_lt (g := gb308) (o := .cells #[.int .i64 a0_0, .int .i64 a0_1, .string a0_2] 25 (0, 0)) (by (with_reducible repeat (first | refine blk_drewN ?_ _ | refine blk_drew ?_ | refine blk_alloc ?_ _)); exact BK308.out)) : gb308 ≠ gb309)); have n6_ := Aside0.mk ((by rw [hg]; exact Nat.ne_of_gt (blk_lt (g := gb308) (o := .cells #[.int .i64 a0_0, .int .i64 a0_1, .string a0_2] 25 (0, 0)) (by (with_reducible repeat (first | refine blk_drewN ?_ _ | refine blk_drew ?_ | refine blk_alloc ?_ _)); exact BK308.out)) : gb309 ≠ gb308)); clear BK308; clear HB; have BK308 := n0_; have HB := n1_; have BK309 := n2_; have GW309 := n3_; have GE309 := n4_; have NB308_309 := n5_; have NB309_308 := n6_; clear n0_ n1_ n2_ n3_ n4_ n5_ n6_; clear hb hbox hg; have hnb6 := NB308_309.out; have hnc6 := NB309_308.out; have hcz7_0 : w5.cell? ⟨gb308, 0, none⟩ = some (.int .i64 a0_0) := (blk_cell BK308.out 0).trans rfl; have hcz7_1 : w5.cell? ⟨gb308, 1, none⟩ = some (.int .i64 a0_1) := (blk_cell BK308.out 1).trans rfl; have hcz7_2 : w5.cell? ⟨gb308, 2, none⟩ = some (.string a0_2) := (blk_cell BK308.out 2).trans rfl; have hfz7_0 := blk_frozen BK308.out 0; have hfz7_1 := blk_frozen BK308.out 1; have hfz7_2 := blk_frozen BK308.out 2; have hcz8_0 : w5.cell? ⟨gb309, 0, none⟩ = some (.int .i64 a1_0) := (blk_cell BK309.out 0).trans rfl; have hcz8_1 : w5.cell? ⟨gb309, 1, none⟩ = some (.int .i64 a1_1) := (blk_cell BK309.out 1).trans rfl; have hcz8_2 : w5.cell? ⟨gb309, 2, none⟩ = some (.string a1_2) := (blk_cell BK309.out 2).trans rfl; have hfz8_0 := blk_frozen BK309.out 0; have hfz8_1 := blk_frozen BK309.out 1; have hfz8_2 := blk_frozen BK309.out 2))
  go_ret
  exact ⟨by first | rfl | (simp [errW_none, errW_some] <;> rfl) | (simp [*, errW_none, errW_some] <;> rfl), by repeat (first | (with_reducible first | exact HB.out | apply below_alloc | apply pw_below_drewN | apply below_drew1 | refine below_set ?_ GE308.out | refine below_set ?_ GE309.out) | exact HB.out)⟩
 ·
  rw [if_neg c3] at H
  have c3b0 : (a0_0 == a1_0 && (a0_1 == a1_1 && (a0_2.toList == a1_2.toList))) = false := by simpa using c3
  (try (have c3b1 : decide (a0_0 = a1_0 && (a0_1 == a1_1 && (a0_2.toList == a1_2.toList))) = false := by simpa using c3))
  (try (have c3b2 : (a0_0 == a1_0 && (a0_1 == a1_1 && (a0_2.toList == a1_2.toList))) = false := by simpa using c3))
  (try (have c3b3 : ¬ (a0_0 = a1_0 && (a0_1 == a1_1 && (a0_2.toList == a1_2.toList))) := by simpa using c3))
  clear c3
  by_cases c9 : a0_0 < a1_0
  ·
   rw [if_pos c9] at H
   have c9b0 : decide (a0_0 < a1_0) = true := decide_eq_true c9
   clear c9
   obtain rfl := Option.some.inj H
   go_enter Tryd.func29, Tryd.ntmps29
   go_wp2_with (first | ((with_reducible refine gate_dst (N := 2) rfl ?_); refine box_event ?hg (N := 2) ?hd (cs := #[.int .i64 a0_0, .int .i64 a0_1, .string a0_2]) (t := 25) ?hr ?_; (case hd => rfl); (case hg => rfl); (case hr => first | (go_simp; done) | (go_simp; rfl)); intro gb308 hg w10 hbox hb; have n0_ := Aside0.mk (below_step (by repeat (first | (with_reducible first | exact HB.out | apply below_alloc | apply pw_below_drewN | apply below_drew1) | exact HB.out)) hb); have n1_ := Aside0.mk (hbox); have n2_ := Aside0.mk ((by rw [hg]; exact (below_size (by repeat (first | (with_reducible first | exact HB.out | apply below_alloc | apply pw_below_drewN | apply below_drew1) | exact HB.out))) : w.heap.size ≤ gb308)); have n3_ := Aside0.mk ((by rw [hg]; exact (below_size (by repeat (first | (with_reducible first | exact HB.out | apply below_alloc | apply pw_below_drewN | apply below_drew1) | exact HB.out))) : w.heap.size ≤ gb308)); clear HB; have HB := n0_; have BK308 := n1_; have GW308 := n2_; have GE308 := n3_; clear n0_ n1_ n2_ n3_; clear hb hbox hg) | ((with_reducible refine gate_dst (N := 3) rfl ?_); refine box_event ?hg (N := 3) ?hd (cs := #[.int .i64 a1_0, .int .i64 a1_1, .string a1_2]) (t := 25) ?hr ?_; (case hd => rfl); (case hg => rfl); (case hr => first | (go_simp; done) | (go_simp; rfl)); intro gb309 hg w11 hbox hb; have n0_ := Aside0.mk (blk_below (g := gb308) (o := .cells #[.int .i64 a0_0, .int .i64 a0_1, .string a0_2] 25 (0, 0)) (by (with_reducible repeat (first | refine blk_drewN ?_ _ | refine blk_drew ?_ | refine blk_alloc ?_ _)); exact BK308.out) hb); have n1_ := Aside0.mk (below_step (by repeat (first | (with_reducible first | exact HB.out | apply below_alloc | apply pw_below_drewN | apply below_drew1 | refine below_set ?_ GE308.out) | exact HB.out)) hb); have n2_ := Aside0.mk (hbox); have n3_ := Aside0.mk ((by rw [hg]; exact (below_size (by repeat (first | (with_reducible first | exact HB.out | apply below_alloc | apply pw_below_drewN | apply below_drew1 | refine below_set ?_ GE308.out) | exact HB.out))) : w.heap.size ≤ gb309)); have n4_ := Aside0.mk ((by rw [hg]; exact (below_size (by repeat (first | (with_reducible first | exact HB.out | apply below_alloc | apply pw_below_drewN | apply below_drew1 | refine below_set ?_ GE308.out) | exact HB.out))) : w.heap.size ≤ gb309)); have n5_ := Aside0.mk ((by rw [hg]; exact Nat.ne_of_lt (blk_lt (g := gb308) (o := .cells #[.int .i64 a0_0, .int .i64 a0_1, .string a0_2] 25 (0, 0)) (by (with_reducible repeat (first | refine blk_drewN ?_ _ | refine blk_drew ?_ | refine blk_alloc ?_ _)); exact BK308.out)) : gb308 ≠ gb309)); have n6_ := Aside0.mk ((by rw [hg]; exact Nat.ne_of_gt (blk_lt (g := gb308) (o := .cells #[.int .i64 a0_0, .int .i64 a0_1, .string a0_2] 25 (0, 0)) (by (with_reducible repeat (first | refine blk_drewN ?_ _ | refine blk_drew ?_ | refine blk_alloc ?_ _)); exact BK308.out)) : gb309 ≠ gb308)); clear BK308; clear HB; have BK308 := n0_; have HB := n1_; have BK309 := n2_; have GW309 := n3_; have GE309 := n4_; have NB308_309 := n5_; have NB309_308 := n6_; clear n0_ n1_ n2_ n3_ n4_ n5_ n6_; clear hb hbox hg; have hnb12 := NB308_309.out; have hnc12 := NB309_308.out; have hcz13_0 : w11.cell? ⟨gb308, 0, none⟩ = some (.int .i64 a0_0) := (blk_cell BK308.out 0).trans rfl; have hcz13_1 : w11.cell? ⟨gb308, 1, none⟩ = some (.int .i64 a0_1) := (blk_cell BK308.out 1).trans rfl; have hcz13_2 : w11.cell? ⟨gb308, 2, none⟩ = some (.string a0_2) := (blk_cell BK308.out 2).trans rfl; have hfz13_0 := blk_frozen BK308.out 0; have hfz13_1 := blk_frozen BK308.out 1; have hfz13_2 := blk_frozen BK308.out 2; have hcz14_0 : w11.cell? ⟨gb309, 0, none⟩ = some (.int .i64 a1_0) := (blk_cell BK309.out 0).trans rfl; have hcz14_1 : w11.cell? ⟨gb309, 1, none⟩ = some (.int .i64 a1_1) := (blk_cell BK309.out 1).trans rfl; have hcz14_2 : w11.cell? ⟨gb309, 2, none⟩ = some (.string a1_2) := (blk_cell BK309.out 2).trans rfl; have hfz14_0 := blk_frozen BK309.out 0; have hfz14_1 := blk_frozen BK309.out 1; have hfz14_2 := blk_frozen BK309.out 2))
   go_ret
   exact ⟨by first | rfl | (simp [errW_none, errW_some] <;> rfl) | (simp [*, errW_none, errW_some] <;> rfl), by repeat (first | (with_reducible first | exact HB.out | apply below_alloc | apply pw_below_drewN | apply below_drew1 | refine below_set ?_ GE308.out | refine below_set ?_ GE309.out) | exact HB.out)⟩
  ·
   rw [if_neg c9] at H
   have c9b0 : decide (a0_0 < a1_0) = false := decide_eq_false c9
   clear c9
   by_cases c15 : a0_0 = a1_0
   ·
    rw [if_pos c15] at H
    have c15b0 : (a0_0 == a1_0) = true := beq_iff_eq.mpr c15
    have c3b0_c15 : (a0_1 == a1_1 && (a0_2.toList == a1_2.toList)) = false := by simpa only [c15b0, Bool.true_and] using c3b0
    have c15b1 : (a0_0 != a1_0) = false := bne_eq_false_iff_eq.mpr c15
    clear c15
    by_cases c16 : a0_1 < a1_1
    ·
     rw [if_pos c16] at H
     have c16b0 : decide (a0_1 < a1_1) = true := decide_eq_true c16
     clear c16
     obtain rfl := Option.some.inj H
     go_enter Tryd.func29, Tryd.ntmps29
     go_wp2_with (first | ((with_reducible refine gate_dst (N := 2) rfl ?_); refine box_event ?hg (N := 2) ?hd (cs := #[.int .i64 a0_0, .int .i64 a0_1, .string a0_2]) (t := 25) ?hr ?_; (case hd => rfl); (case hg => rfl); (case hr => first | (go_simp; done) | (go_simp; rfl)); intro gb308 hg w17 hbox hb; have n0_ := Aside0.mk (below_step (by repeat (first | (with_reducible first | exact HB.out | apply below_alloc | apply pw_below_drewN | apply below_drew1) | exact HB.out)) hb); have n1_ := Aside0.mk (hbox); have n2_ := Aside0.mk ((by rw [hg]; exact (below_size (by repeat (first | (with_reducible first | exact HB.out | apply below_alloc | apply pw_below_drewN | apply below_drew1) | exact HB.out))) : w.heap.size ≤ gb308)); have n3_ := Aside0.mk ((by rw [hg]; exact (below_size (by repeat (first | (with_reducible first | exact HB.out | apply below_alloc | apply pw_below_drewN | apply below_drew1) | exact HB.out))) : w.heap.size ≤ gb308)); clear HB; have HB := n0_; have BK308 := n1_; have GW308 := n2_; have GE308 := n3_; clear n0_ n1_ n2_ n3_; clear hb hbox hg) | ((with_reducible refine gate_dst (N := 3) rfl ?_); refine box_event ?hg (N := 3) ?hd (cs := #[.int .i64 a1_0, .int .i64 a1_1, .string a1_2]) (t := 25) ?hr ?_; (case hd => rfl); (case hg => rfl); (case hr => first | (go_simp; done) | (go_simp; rfl)); intro gb309 hg w18 hbox hb; have n0_ := Aside0.mk (blk_below (g := gb308) (o := .cells #[.int .i64 a0_0, .int .i64 a0_1, .string a0_2] 25 (0, 0)) (by (with_reducible repeat (first | refine blk_drewN ?_ _ | refine blk_drew ?_ | refine blk_alloc ?_ _)); exact BK308.out) hb); have n1_ := Aside0.mk (below_step (by repeat (first | (with_reducible first | exact HB.out | apply below_alloc | apply pw_below_drewN | apply below_drew1 | refine below_set ?_ GE308.out) | exact HB.out)) hb); have n2_ := Aside0.mk (hbox); have n3_ := Aside0.mk ((by rw [hg]; exact (below_size (by repeat (first | (with_reducible first | exact HB.out | apply below_alloc | apply pw_below_drewN | apply below_drew1 | refine below_set ?_ GE308.out) | exact HB.out))) : w.heap.size ≤ gb309)); have n4_ := Aside0.mk ((by rw [hg]; exact (below_size (by repeat (first | (with_reducible first | exact HB.out | apply below_alloc | apply pw_below_drewN | apply below_drew1 | refine below_set ?_ GE308.out) | exact HB.out))) : w.heap.size ≤ gb309)); have n5_ := Aside0.mk ((by rw [hg]; exact Nat.ne_of_lt (blk_lt (g := gb308) (o := .cells #[.int .i64 a0_0, .int .i64 a0_1, .string a0_2] 25 (0, 0)) (by (with_reducible repeat (first | refine blk_drewN ?_ _ | refine blk_drew ?_ | refine blk_alloc ?_ _)); exact BK308.out)) : gb308 ≠ gb309)); have n6_ := Aside0.mk ((by rw [hg]; exact Nat.ne_of_gt (blk_lt (g := gb308) (o := .cells #[.int .i64 a0_0, .int .i64 a0_1, .string a0_2] 25 (0, 0)) (by (with_reducible repeat (first | refine blk_drewN ?_ _ | refine blk_drew ?_ | refine blk_alloc ?_ _)); exact BK308.out)) : gb309 ≠ gb308)); clear BK308; clear HB; have BK308 := n0_; have HB := n1_; have BK309 := n2_; have GW309 := n3_; have GE309 := n4_; have NB308_309 := n5_; have NB309_308 := n6_; clear n0_ n1_ n2_ n3_ n4_ n5_ n6_; clear hb hbox hg; have hnb19 := NB308_309.out; have hnc19 := NB309_308.out; have hcz20_0 : w18.cell? ⟨gb308, 0, none⟩ = some (.int .i64 a0_0) := (blk_cell BK308.out 0).trans rfl; have hcz20_1 : w18.cell? ⟨gb308, 1, none⟩ = some (.int .i64 a0_1) := (blk_cell BK308.out 1).trans rfl; have hcz20_2 : w18.cell? ⟨gb308, 2, none⟩ = some (.string a0_2) := (blk_cell BK308.out 2).trans rfl; have hfz20_0 := blk_frozen BK308.out 0; have hfz20_1 := blk_frozen BK308.out 1; have hfz20_2 := blk_frozen BK308.out 2; have hcz21_0 : w18.cell? ⟨gb309, 0, none⟩ = some (.int .i64 a1_0) := (blk_cell BK309.out 0).trans rfl; have hcz21_1 : w18.cell? ⟨gb309, 1, none⟩ = some (.int .i64 a1_1) := (blk_cell BK309.out 1).trans rfl; have hcz21_2 : w18.cell? ⟨gb309, 2, none⟩ = some (.string a1_2) := (blk_cell BK309.out 2).trans rfl; have hfz21_0 := blk_frozen BK309.out 0; have hfz21_1 := blk_frozen BK309.out 1; have hfz21_2 := blk_frozen BK309.out 2))
     go_ret
     exact ⟨by first | rfl | (simp [errW_none, errW_some] <;> rfl) | (simp [*, errW_none, errW_some] <;> rfl), by repeat (first | (with_reducible first | exact HB.out | apply below_alloc | apply pw_below_drewN | apply below_drew1 | refine below_set ?_ GE308.out | refine below_set ?_ GE309.out) | exact HB.out)⟩
    ·
     rw [if_neg c16] at H
     have c16b0 : decide (a0_1 < a1_1) = false := decide_eq_false c16
     clear c16
     by_cases c22 : a0_1 = a1_1
     ·
      rw [if_pos c22] at H
      have c22b0 : (a0_1 == a1_1) = true := beq_iff_eq.mpr c22
      have c3b0_c15_c22 : (a0_2.toList == a1_2.toList) = false := by simpa only [c22b0, Bool.true_and] using c3b0_c15
      have c22b1 : (a0_1 != a1_1) = false := bne_eq_false_iff_eq.mpr c22
      clear c22
      by_cases c23 : (Op.bytesLess a0_2.toList a1_2.toList) = true
      ·
       rw [if_pos c23] at H
       have c23b0 : (Op.bytesLess a0_2.toList a1_2.toList) = true := c23
       clear c23
       obtain rfl := Option.some.inj H
       go_enter Tryd.func29, Tryd.ntmps29
       go_wp2_with (first | ((with_reducible refine gate_dst (N := 2) rfl ?_); refine box_event ?hg (N := 2) ?hd (cs := #[.int .i64 a0_0, .int .i64 a0_1, .string a0_2]) (t := 25) ?hr ?_; (case hd => rfl); (case hg => rfl); (case hr => first | (go_simp; done) | (go_simp; rfl)); intro gb308 hg w24 hbox hb; have n0_ := Aside0.mk (below_step (by repeat (first | (with_reducible first | exact HB.out | apply below_alloc | apply pw_below_drewN | apply below_drew1) | exact HB.out)) hb); have n1_ := Aside0.mk (hbox); have n2_ := Aside0.mk ((by rw [hg]; exact (below_size (by repeat (first | (with_reducible first | exact HB.out | apply below_alloc | apply pw_below_drewN | apply below_drew1) | exact HB.out))) : w.heap.size ≤ gb308)); have n3_ := Aside0.mk ((by rw [hg]; exact (below_size (by repeat (first | (with_reducible first | exact HB.out | apply below_alloc | apply pw_below_drewN | apply below_drew1) | exact HB.out))) : w.heap.size ≤ gb308)); clear HB; have HB := n0_; have BK308 := n1_; have GW308 := n2_; have GE308 := n3_; clear n0_ n1_ n2_ n3_; clear hb hbox hg) | ((with_reducible refine gate_dst (N := 3) rfl ?_); refine box_event ?hg (N := 3) ?hd (cs := #[.int .i64 a1_0, .int .i64 a1_1, .string a1_2]) (t := 25) ?hr ?_; (case hd => rfl); (case hg => rfl); (case hr => first | (go_simp; done) | (go_simp; rfl)); intro gb309 hg w25 hbox hb; have n0_ := Aside0.mk (blk_below (g := gb308) (o := .cells #[.int .i64 a0_0, .int .i64 a0_1, .string a0_2] 25 (0, 0)) (by (with_reducible repeat (first | refine blk_drewN ?_ _ | refine blk_drew ?_ | refine blk_alloc ?_ _)); exact BK308.out) hb); have n1_ := Aside0.mk (below_step (by repeat (first | (with_reducible first | exact HB.out | apply below_alloc | apply pw_below_drewN | apply below_drew1 | refine below_set ?_ GE308.out) | exact HB.out)) hb); have n2_ := Aside0.mk (hbox); have n3_ := Aside0.mk ((by rw [hg]; exact (below_size (by repeat (first | (with_reducible first | exact HB.out | apply below_alloc | apply pw_below_drewN | apply below_drew1 | refine below_set ?_ GE308.out) | exact HB.out))) : w.heap.size ≤ gb309)); have n4_ := Aside0.mk ((by rw [hg]; exact (below_size (by repeat (first | (with_reducible first | exact HB.out | apply below_alloc | apply pw_below_drewN | apply below_drew1 | refine below_set ?_ GE308.out) | exact HB.out))) : w.heap.size ≤ gb309)); have n5_ := Aside0.mk ((by rw [hg]; exact Nat.ne_of_lt (blk_lt (g := gb308) (o := .cells #[.int .i64 a0_0, .int .i64 a0_1, .string a0_2] 25 (0, 0)) (by (with_reducible repeat (first | refine blk_drewN ?_ _ | refine blk_drew ?_ | refine blk_alloc ?_ _)); exact BK308.out)) : gb308 ≠ gb309)); have n6_ := Aside0.mk ((by rw [hg]; exact Nat.ne_of_gt (blk_lt (g := gb308) (o := .cells #[.int .i64 a0_0, .int .i64 a0_1, .string a0_2] 25 (0, 0)) (by (with_reducible repeat (first | refine blk_drewN ?_ _ | refine blk_drew ?_ | refine blk_alloc ?_ _)); exact BK308.out)) : gb309 ≠ gb308)); clear BK308; clear HB; have BK308 := n0_; have HB := n1_; have BK309 := n2_; have GW309 := n3_; have GE309 := n4_; have NB308_309 := n5_; have NB309_308 := n6_; clear n0_ n1_ n2_ n3_ n4_ n5_ n6_; clear hb hbox hg; have hnb26 := NB308_309.out; have hnc26 := NB309_308.out; have hcz27_0 : w25.cell? ⟨gb308, 0, none⟩ = some (.int .i64 a0_0) := (blk_cell BK308.out 0).trans rfl; have hcz27_1 : w25.cell? ⟨gb308, 1, none⟩ = some (.int .i64 a0_1) := (blk_cell BK308.out 1).trans rfl; have hcz27_2 : w25.cell? ⟨gb308, 2, none⟩ = some (.string a0_2) := (blk_cell BK308.out 2).trans rfl; have hfz27_0 := blk_frozen BK308.out 0; have hfz27_1 := blk_frozen BK308.out 1; have hfz27_2 := blk_frozen BK308.out 2; have hcz28_0 : w25.cell? ⟨gb309, 0, none⟩ = some (.int .i64 a1_0) := (blk_cell BK309.out 0).trans rfl; have hcz28_1 : w25.cell? ⟨gb309, 1, none⟩ = some (.int .i64 a1_1) := (blk_cell BK309.out 1).trans rfl; have hcz28_2 : w25.cell? ⟨gb309, 2, none⟩ = some (.string a1_2) := (blk_cell BK309.out 2).trans rfl; have hfz28_0 := blk_frozen BK309.out 0; have hfz28_1 := blk_frozen BK309.out 1; have hfz28_2 := blk_frozen BK309.out 2))
       go_ret
       exact ⟨by first | rfl | (simp [errW_none, errW_some] <;> rfl) | (simp [*, errW_none, errW_some] <;> rfl), by repeat (first | (with_reducible first | exact HB.out | apply below_alloc | apply pw_below_drewN | apply below_drew1 | refine below_set ?_ GE308.out | refine below_set ?_ GE309.out) | exact HB.out)⟩
      ·
       rw [if_neg c23] at H
       have c23b0 : (Op.bytesLess a0_2.toList a1_2.toList) = false := by simpa using c23
       clear c23
       obtain rfl := Option.some.inj H
       go_enter Tryd.func29, Tryd.ntmps29
       go_wp2_with (first | ((with_reducible refine gate_dst (N := 2) rfl ?_); refine box_event ?hg (N := 2) ?hd (cs := #[.int .i64 a0_0, .int .i64 a0_1, .string a0_2]) (t := 25) ?hr ?_; (case hd => rfl); (case hg => rfl); (case hr => first | (go_simp; done) | (go_simp; rfl)); intro gb308 hg w29 hbox hb; have n0_ := Aside0.mk (below_step (by repeat (first | (with_reducible first | exact HB.out | apply below_alloc | apply pw_below_drewN | apply below_drew1) | exact HB.out)) hb); have n1_ := Aside0.mk (hbox); have n2_ := Aside0.mk ((by rw [hg]; exact (below_size (by repeat (first | (with_reducible first | exact HB.out | apply below_alloc | apply pw_below_drewN | apply below_drew1) | exact HB.out))) : w.heap.size ≤ gb308)); have n3_ := Aside0.mk ((by rw [hg]; exact (below_size (by repeat (first | (with_reducible first | exact HB.out | apply below_alloc | apply pw_below_drewN | apply below_drew1) | exact HB.out))) : w.heap.size ≤ gb308)); clear HB; have HB := n0_; have BK308 := n1_; have GW308 := n2_; have GE308 := n3_; clear n0_ n1_ n2_ n3_; clear hb hbox hg) | ((with_reducible refine gate_dst (N := 3) rfl ?_); refine box_event ?hg (N := 3) ?hd (cs := #[.int .i64 a1_0, .int .i64 a1_1, .string a1_2]) (t := 25) ?hr ?_; (case hd => rfl); (case hg => rfl); (case hr => first | (go_simp; done) | (go_simp; rfl)); intro gb309 hg w30 hbox hb; have n0_ := Aside0.mk (blk_below (g := gb308) (o := .cells #[.int .i64 a0_0, .int .i64 a0_1, .string a0_2] 25 (0, 0)) (by (with_reducible repeat (first | refine blk_drewN ?_ _ | refine blk_drew ?_ | refine blk_alloc ?_ _)); exact BK308.out) hb); have n1_ := Aside0.mk (below_step (by repeat (first | (with_reducible first | exact HB.out | apply below_alloc | apply pw_below_drewN | apply below_drew1 | refine below_set ?_ GE308.out) | exact HB.out)) hb); have n2_ := Aside0.mk (hbox); have n3_ := Aside0.mk ((by rw [hg]; exact (below_size (by repeat (first | (with_reducible first | exact HB.out | apply below_alloc | apply pw_below_drewN | apply below_drew1 | refine below_set ?_ GE308.out) | exact HB.out))) : w.heap.size ≤ gb309)); have n4_ := Aside0.mk ((by rw [hg]; exact (below_size (by repeat (first | (with_reducible first | exact HB.out | apply below_alloc | apply pw_below_drewN | apply below_drew1 | refine below_set ?_ GE308.out) | exact HB.out))) : w.heap.size ≤ gb309)); have n5_ := Aside0.mk ((by rw [hg]; exact Nat.ne_of_lt (blk_lt (g := gb308) (o := .cells #[.int .i64 a0_0, .int .i64 a0_1, .string a0_2] 25 (0, 0)) (by (with_reducible repeat (first | refine blk_drewN ?_ _ | refine blk_drew ?_ | refine blk_alloc ?_ _)); exact BK308.out)) : gb308 ≠ gb309)); have n6_ := Aside0.mk ((by rw [hg]; exact Nat.ne_of_gt (blk_lt (g := gb308) (o := .cells #[.int .i64 a0_0, .int .i64 a0_1, .string a0_2] 25 (0, 0)) (by (with_reducible repeat (first | refine blk_drewN ?_ _ | refine blk_drew ?_ | refine blk_alloc ?_ _)); exact BK308.out)) : gb309 ≠ gb308)); clear BK308; clear HB; have BK308 := n0_; have HB := n1_; have BK309 := n2_; have GW309 := n3_; have GE309 := n4_; have NB308_309 := n5_; have NB309_308 := n6_; clear n0_ n1_ n2_ n3_ n4_ n5_ n6_; clear hb hbox hg; have hnb31 := NB308_309.out; have hnc31 := NB309_308.out; have hcz32_0 : w30.cell? ⟨gb308, 0, none⟩ = some (.int .i64 a0_0) := (blk_cell BK308.out 0).trans rfl; have hcz32_1 : w30.cell? ⟨gb308, 1, none⟩ = some (.int .i64 a0_1) := (blk_cell BK308.out 1).trans rfl; have hcz32_2 : w30.cell? ⟨gb308, 2, none⟩ = some (.string a0_2) := (blk_cell BK308.out 2).trans rfl; have hfz32_0 := blk_frozen BK308.out 0; have hfz32_1 := blk_frozen BK308.out 1; have hfz32_2 := blk_frozen BK308.out 2; have hcz33_0 : w30.cell? ⟨gb309, 0, none⟩ = some (.int .i64 a1_0) := (blk_cell BK309.out 0).trans rfl; have hcz33_1 : w30.cell? ⟨gb309, 1, none⟩ = some (.int .i64 a1_1) := (blk_cell BK309.out 1).trans rfl; have hcz33_2 : w30.cell? ⟨gb309, 2, none⟩ = some (.string a1_2) := (blk_cell BK309.out 2).trans rfl; have hfz33_0 := blk_frozen BK309.out 0; have hfz33_1 := blk_frozen BK309.out 1; have hfz33_2 := blk_frozen BK309.out 2))
       go_ret
       exact ⟨by first | rfl | (simp [errW_none, errW_some] <;> rfl) | (simp [*, errW_none, errW_some] <;> rfl), by repeat (first | (with_reducible first | exact HB.out | apply below_alloc | apply pw_below_drewN | apply below_drew1 | refine below_set ?_ GE308.out | refine below_set ?_ GE309.out) | exact HB.out)⟩
     ·
      rw [if_neg c22] at H
      have c22b0 : (a0_1 == a1_1) = false := beq_eq_false_iff_ne.mpr c22
      have c22b1 : (a0_1 != a1_1) = true := bne_iff_ne.mpr c22
      obtain rfl := Option.some.inj H
      go_enter Tryd.func29, Tryd.ntmps29
      go_wp2_with (first | ((with_reducible refine gate_dst (N := 2) rfl ?_); refine box_event ?hg (N := 2) ?hd (cs := #[.int .i64 a0_0, .int .i64 a0_1, .string a0_2]) (t := 25) ?hr ?_; (case hd => rfl); (case hg => rfl); (case hr => first | (go_simp; done) | (go_simp; rfl)); intro gb308 hg w34 hbox hb; have n0_ := Aside0.mk (below_step (by repeat (first | (with_reducible first | exact HB.out | apply below_alloc | apply pw_below_drewN | apply below_drew1) | exact HB.out)) hb); have n1_ := Aside0.mk (hbox); have n2_ := Aside0.mk ((by rw [hg]; exact (below_size (by repeat (first | (with_reducible first | exact HB.out | apply below_alloc | apply pw_below_drewN | apply below_drew1) | exact HB.out))) : w.heap.size ≤ gb308)); have n3_ := Aside0.mk ((by rw [hg]; exact (below_size (by repeat (first | (with_reducible first | exact HB.out | apply below_alloc | apply pw_below_drewN | apply below_drew1) | exact HB.out))) : w.heap.size ≤ gb308)); clear HB; have HB := n0_; have BK308 := n1_; have GW308 := n2_; have GE308 := n3_; clear n0_ n1_ n2_ n3_; clear hb hbox hg) | ((with_reducible refine gate_dst (N := 3) rfl ?_); refine box_event ?hg (N := 3) ?hd (cs := #[.int .i64 a1_0, .int .i64 a1_1, .string a1_2]) (t := 25) ?hr ?_; (case hd => rfl); (case hg => rfl); (case hr => first | (go_simp; done) | (go_simp; rfl)); intro gb309 hg w35 hbox hb; have n0_ := Aside0.mk (blk_below (g := gb308) (o := .cells #[.int .i64 a0_0, .int .i64 a0_1, .string a0_2] 25 (0, 0)) (by (with_reducible repeat (first | refine blk_drewN ?_ _ | refine blk_drew ?_ | refine blk_alloc ?_ _)); exact BK308.out) hb); have n1_ := Aside0.mk (below_step (by repeat (first | (with_reducible first | exact HB.out | apply below_alloc | apply pw_below_drewN | apply below_drew1 | refine below_set ?_ GE308.out) | exact HB.out)) hb); have n2_ := Aside0.mk (hbox); have n3_ := Aside0.mk ((by rw [hg]; exact (below_size (by repeat (first | (with_reducible first | exact HB.out | apply below_alloc | apply pw_below_drewN | apply below_drew1 | refine below_set ?_ GE308.out) | exact HB.out))) : w.heap.size ≤ gb309)); have n4_ := Aside0.mk ((by rw [hg]; exact (below_size (by repeat (first | (with_reducible first | exact HB.out | apply below_alloc | apply pw_below_drewN | apply below_drew1 | refine below_set ?_ GE308.out) | exact HB.out))) : w.heap.size ≤ gb309)); have n5_ := Aside0.mk ((by rw [hg]; exact Nat.ne_of_lt (blk_lt (g := gb308) (o := .cells #[.int .i64 a0_0, .int .i64 a0_1, .string a0_2] 25 (0, 0)) (by (with_reducible repeat (first | refine blk_drewN ?_ _ | refine blk_drew ?_ | refine blk_alloc ?_ _)); exact BK308.out)) : gb308 ≠ gb309)); have n6_ := Aside0.mk ((by rw [hg]; exact Nat.ne_of_gt (blk_lt (g := gb308) (o := .cells #[.int .i64 a0_0, .int .i64 a0_1, .string a0_2] 25 (0, 0)) (by (with_reducible repeat (first | refine blk_drewN ?_ _ | refine blk_drew ?_ | refine blk_alloc ?_ _)); exact BK308.out)) : gb309 ≠ gb308)); clear BK308; clear HB; have BK308 := n0_; have HB := n1_; have BK309 := n2_; have GW309 := n3_; have GE309 := n4_; have NB308_309 := n5_; have NB309_308 := n6_; clear n0_ n1_ n2_ n3_ n4_ n5_ n6_; clear hb hbox hg; have hnb36 := NB308_309.out; have hnc36 := NB309_308.out; have hcz37_0 : w35.cell? ⟨gb308, 0, none⟩ = some (.int .i64 a0_0) := (blk_cell BK308.out 0).trans rfl; have hcz37_1 : w35.cell? ⟨gb308, 1, none⟩ = some (.int .i64 a0_1) := (blk_cell BK308.out 1).trans rfl; have hcz37_2 : w35.cell? ⟨gb308, 2, none⟩ = some (.string a0_2) := (blk_cell BK308.out 2).trans rfl; have hfz37_0 := blk_frozen BK308.out 0; have hfz37_1 := blk_frozen BK308.out 1; have hfz37_2 := blk_frozen BK308.out 2; have hcz38_0 : w35.cell? ⟨gb309, 0, none⟩ = some (.int .i64 a1_0) := (blk_cell BK309.out 0).trans rfl; have hcz38_1 : w35.cell? ⟨gb309, 1, none⟩ = some (.int .i64 a1_1) := (blk_cell BK309.out 1).trans rfl; have hcz38_2 : w35.cell? ⟨gb309, 2, none⟩ = some (.string a1_2) := (blk_cell BK309.out 2).trans rfl; have hfz38_0 := blk_frozen BK309.out 0; have hfz38_1 := blk_frozen BK309.out 1; have hfz38_2 := blk_frozen BK309.out 2))
      go_ret
      exact ⟨by first | rfl | (simp [errW_none, errW_some] <;> rfl) | (simp [*, errW_none, errW_some] <;> rfl), by repeat (first | (with_reducible first | exact HB.out | apply below_alloc | apply pw_below_drewN | apply below_drew1 | refine below_set ?_ GE308.out | refine below_set ?_ GE309.out) | exact HB.out)⟩
   ·
    rw [if_neg c15] at H
    have c15b0 : (a0_0 == a1_0) = false := beq_eq_false_iff_ne.mpr c15
    have c15b1 : (a0_0 != a1_0) = true := bne_iff_ne.mpr c15
    obtain rfl := Option.some.inj H
    go_enter Tryd.func29, Tryd.ntmps29
    go_wp2_with (first | ((with_reducible refine gate_dst (N := 2) rfl ?_); refine box_event ?hg (N := 2) ?hd (cs := #[.int .i64 a0_0, .int .i64 a0_1, .string a0_2]) (t := 25) ?hr ?_; (case hd => rfl); (case hg => rfl); (case hr => first | (go_simp; done) | (go_simp; rfl)); intro gb308 hg w39 hbox hb; have n0_ := Aside0.mk (below_step (by repeat (first | (with_reducible first | exact HB.out | apply below_alloc | apply pw_below_drewN | apply below_drew1) | exact HB.out)) hb); have n1_ := Aside0.mk (hbox); have n2_ := Aside0.mk ((by rw [hg]; exact (below_size (by repeat (first | (with_reducible first | exact HB.out | apply below_alloc | apply pw_below_drewN | apply below_drew1) | exact HB.out))) : w.heap.size ≤ gb308)); have n3_ := Aside0.mk ((by rw [hg]; exact (below_size (by repeat (first | (with_reducible first | exact HB.out | apply below_alloc | apply pw_below_drewN | apply below_drew1) | exact HB.out))) : w.heap.size ≤ gb308)); clear HB; have HB := n0_; have BK308 := n1_; have GW308 := n2_; have GE308 := n3_; clear n0_ n1_ n2_ n3_; clear hb hbox hg) | ((with_reducible refine gate_dst (N := 3) rfl ?_); refine box_event ?hg (N := 3) ?hd (cs := #[.int .i64 a1_0, .int .i64 a1_1, .string a1_2]) (t := 25) ?hr ?_; (case hd => rfl); (case hg => rfl); (case hr => first | (go_simp; done) | (go_simp; rfl)); intro gb309 hg w40 hbox hb; have n0_ := Aside0.mk (blk_below (g := gb308) (o := .cells #[.int .i64 a0_0, .int .i64 a0_1, .string a0_2] 25 (0, 0)) (by (with_reducible repeat (first | refine blk_drewN ?_ _ | refine blk_drew ?_ | refine blk_alloc ?_ _)); exact BK308.out) hb); have n1_ := Aside0.mk (below_step (by repeat (first | (with_reducible first | exact HB.out | apply below_alloc | apply pw_below_drewN | apply below_drew1 | refine below_set ?_ GE308.out) | exact HB.out)) hb); have n2_ := Aside0.mk (hbox); have n3_ := Aside0.mk ((by rw [hg]; exact (below_size (by repeat (first | (with_reducible first | exact HB.out | apply below_alloc | apply pw_below_drewN | apply below_drew1 | refine below_set ?_ GE308.out) | exact HB.out))) : w.heap.size ≤ gb309)); have n4_ := Aside0.mk ((by rw [hg]; exact (below_size (by repeat (first | (with_reducible first | exact HB.out | apply below_alloc | apply pw_below_drewN | apply below_drew1 | refine below_set ?_ GE308.out) | exact HB.out))) : w.heap.size ≤ gb309)); have n5_ := Aside0.mk ((by rw [hg]; exact Nat.ne_of_lt (blk_lt (g := gb308) (o := .cells #[.int .i64 a0_0, .int .i64 a0_1, .string a0_2] 25 (0, 0)) (by (with_reducible repeat (first | refine blk_drewN ?_ _ | refine blk_drew ?_ | refine blk_alloc ?_ _)); exact BK308.out)) : gb308 ≠ gb309)); have n6_ := Aside0.mk ((by rw [hg]; exact Nat.ne_of_gt (blk_lt (g := gb308) (o := .cells #[.int .i64 a0_0, .int .i64 a0_1, .string a0_2] 25 (0, 0)) (by (with_reducible repeat (first | refine blk_drewN ?_ _ | refine blk_drew ?_ | refine blk_alloc ?_ _)); exact BK308.out)) : gb309 ≠ gb308)); clear BK308; clear HB; have BK308 := n0_; have HB := n1_; have BK309 := n2_; have GW309 := n3_; have GE309 := n4_; have NB308_309 := n5_; have NB309_308 := n6_; clear n0_ n1_ n2_ n3_ n4_ n5_ n6_; clear hb hbox hg; have hnb41 := NB308_309.out; have hnc41 := NB309_308.out; have hcz42_0 : w40.cell? ⟨gb308, 0, none⟩ = some (.int .i64 a0_0) := (blk_cell BK308.out 0).trans rfl; have hcz42_1 : w40.cell? ⟨gb308, 1, none⟩ = some (.int .i64 a0_1) := (blk_cell BK308.out 1).trans rfl; have hcz42_2 : w40.cell? ⟨gb308, 2, none⟩ = some (.string a0_2) := (blk_cell BK308.out 2).trans rfl; have hfz42_0 := blk_frozen BK308.out 0; have hfz42_1 := blk_frozen BK308.out 1; have hfz42_2 := blk_frozen BK308.out 2; have hcz43_0 : w40.cell? ⟨gb309, 0, none⟩ = some (.int .i64 a1_0) := (blk_cell BK309.out 0).trans rfl; have hcz43_1 : w40.cell? ⟨gb309, 1, none⟩ = some (.int .i64 a1_1) := (blk_cell BK309.out 1).trans rfl; have hcz43_2 : w40.cell? ⟨gb309, 2, none⟩ = some (.string a1_2) := (blk_cell BK309.out 2).trans rfl; have hfz43_0 := blk_frozen BK309.out 0; have hfz43_1 := blk_frozen BK309.out 1; have hfz43_2 := blk_frozen BK309.out 2))
    go_ret
    exact ⟨by first | rfl | (simp [errW_none, errW_some] <;> rfl) | (simp [*, errW_none, errW_some] <;> rfl), by repeat (first | (with_reducible first | exact HB.out | apply below_alloc | apply pw_below_drewN | apply below_drew1 | refine below_set ?_ GE308.out | refine below_set ?_ GE309.out) | exact HB.out)⟩

end Go.Proofs.YtohknmlcleifpaaDoor.PA
