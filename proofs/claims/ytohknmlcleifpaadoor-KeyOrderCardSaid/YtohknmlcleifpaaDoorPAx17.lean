-- Laid by a program of ours (wip/gen/xprint.py). Not trusted: Lean checks it.
import Derived.Test.YtohknmlcleifpaaDoorX2
import Derived.Test.YtohknmlcleifpaaDoorPAx0
import Derived.Test.YtohknmlcleifpaaDoorPAx3
import Derived.Test.YtohknmlcleifpaaDoorPAx5
import Derived.Test.YtohknmlcleifpaaDoorPAx6
import Derived.Test.YtohknmlcleifpaaDoorPAx8
import Derived.Test.YtohknmlcleifpaaDoorPAx10
namespace Go.Proofs.YtohknmlcleifpaaDoor.PA
open Go.RowKit Go.Proofs.YtohknmlcleifpaaDoorW.PrintWords Go.Proofs.YtohknmlcleifpaaDoorW.PrintLast Go.Proofs.YtohknmlcleifpaaDoorW.PrintMore Go.Proofs.YtohknmlcleifpaaDoorX
attribute [local go_sem] max2_int min2_int max_two min_two max_three min_three max_four min_four   -- for this text's walks alone
set_option linter.unusedVariables false
set_option linter.unusedSimpArgs false

/-! ### unisonlaw02_KeyOrder: function 6 -/
mutual
def unisonlaw02_KeyOrder.j0 : Nat → List (S25) → List (S25) → Bool → Option (Bool)
 | 0, _, _, _ => none
 | k + 1, x0, x1, x26 => if x26 = true then (some true) else ((unisonlaw02_awake.f k).bind fun t344 => ((key_Encode.f k x0).bind fun bt345 => ((key_Encode.f k x1).bind fun bt347 => ((unisonref02_Encode.f k x0).bind fun bt349 => ((unisonref02_Encode.f k x1).bind fun bt351 => (if bt345.2 = bt349.2 then (unisonlaw02_KeyOrder.j1 k x0 x1 t344 bt345.1 bt345.2 bt347.1 bt347.2 (bt347.2 != bt351.2)) else (unisonlaw02_KeyOrder.j1 k x0 x1 t344 bt345.1 bt345.2 bt347.1 bt347.2 true)))))))
def unisonlaw02_KeyOrder.j1 : Nat → List (S25) → List (S25) → Bool → ByteArray → Int → ByteArray → Int → Bool → Option (Bool)
 | 0, _, _, _, _, _, _, _, _ => none
 | k + 1, x0, x1, x5, x6, x7, x8, x9, x55 => if x55 = true then (none) else (if x7 = 0 then (unisonlaw02_KeyOrder.j2 k x0 x1 x5 x6 x8 (x9 != 0)) else (unisonlaw02_KeyOrder.j2 k x0 x1 x5 x6 x8 true))
def unisonlaw02_KeyOrder.j2 : Nat → List (S25) → List (S25) → Bool → ByteArray → ByteArray → Bool → Option (Bool)
 | 0, _, _, _, _, _, _ => none
 | k + 1, x0, x1, x5, x6, x8, x61 => if x61 = true then (some x5) else ((key_Decode.f k x6).bind fun bt353 => ((unisonlaw02_same.f k bt353.1 x0).bind fun t357 => ((key_Order.f k x0 x1).bind fun t358 => (if (Op.bytesLess x6.toList x8.toList) = true then (if x5 = true then (if t357 = true then (if bt353.2 = 0 then (some (t358 == (-1))) else (none)) else (none)) else (none)) else (if (Op.bytesLess x8.toList x6.toList) = true then (if x5 = true then (if t357 = true then (if bt353.2 = 0 then (some (t358 == 1)) else (none)) else (none)) else (none)) else ((unisonlaw02_same.f k x0 x1).bind fun t359 => (unisonlaw02_KeyOrder.j3 k x5 bt353.2 t357 t358 t359)))))))
def unisonlaw02_KeyOrder.j3 : Nat → Bool → Int → Bool → Int → Bool → Option (Bool)
 | 0, _, _, _, _, _ => none
 | k + 1, x5, x15, x16, x17, x18 => if x5 = true then (if x16 = true then (if x15 = 0 then (if x17 = 0 then (some x18) else (none)) else (none)) else (none)) else (none)
end
def unisonlaw02_KeyOrder.f (k : Nat) (l0 : List (S25)) (l1 : List (S25)) : Option (Bool) := if (l0.length : Int) > 2147483647 then (unisonlaw02_KeyOrder.j0 k l0 l1 true) else (unisonlaw02_KeyOrder.j0 k l0 l1 (decide ((l1.length : Int) > 2147483647)))
theorem unisonlaw02_KeyOrder.mono_l : ∀ k, (∀ y0 y1 y2, LeO (unisonlaw02_KeyOrder.j0 k y0 y1 y2) (unisonlaw02_KeyOrder.j0 (k + 1) y0 y1 y2)) ∧ (∀ y0 y1 y2 y3 y4 y5 y6 y7, LeO (unisonlaw02_KeyOrder.j1 k y0 y1 y2 y3 y4 y5 y6 y7) (unisonlaw02_KeyOrder.j1 (k + 1) y0 y1 y2 y3 y4 y5 y6 y7)) ∧ (∀ y0 y1 y2 y3 y4 y5, LeO (unisonlaw02_KeyOrder.j2 k y0 y1 y2 y3 y4 y5) (unisonlaw02_KeyOrder.j2 (k + 1) y0 y1 y2 y3 y4 y5)) ∧ (∀ y0 y1 y2 y3 y4, LeO (unisonlaw02_KeyOrder.j3 k y0 y1 y2 y3 y4) (unisonlaw02_KeyOrder.j3 (k + 1) y0 y1 y2 y3 y4))
 | 0 => ⟨fun _ _ _ r h => by simp [unisonlaw02_KeyOrder.j0] at h, fun _ _ _ _ _ _ _ _ r h => by simp [unisonlaw02_KeyOrder.j1] at h, fun _ _ _ _ _ _ r h => by simp [unisonlaw02_KeyOrder.j2] at h, fun _ _ _ _ _ r h => by simp [unisonlaw02_KeyOrder.j3] at h⟩
 | k + 1 => by
  obtain ⟨ih0, ih1, ih2, ih3⟩ := unisonlaw02_KeyOrder.mono_l k
  refine ⟨?_, ?_, ?_, ?_⟩
  ·
   intro y0 y1 y2
   unfold unisonlaw02_KeyOrder.j0
   repeat' first
   | (with_reducible exact ih0 _ _ _)
   | (with_reducible exact ih1 _ _ _ _ _ _ _ _)
   | (with_reducible exact ih2 _ _ _ _ _ _)
   | (with_reducible exact ih3 _ _ _ _ _)
   | (with_reducible exact key_Decode.mono _ _)
   | (with_reducible exact key_Encode.mono _ _)
   | (with_reducible exact key_Order.mono _ _ _)
   | (with_reducible exact unisonlaw02_awake.mono _)
   | (with_reducible exact unisonlaw02_same.mono _ _ _)
   | (with_reducible exact unisonref02_Encode.mono _ _)
   | (with_reducible exact LeO.refl _)
   | (with_reducible exact LeO.none _)
   | (with_reducible refine LeO.ite ?_ ?_)
   | (with_reducible refine LeO.bind ?_ (fun _ => ?_))
   | exact ih0 _ _ _
   | exact ih1 _ _ _ _ _ _ _ _
   | exact ih2 _ _ _ _ _ _
   | exact ih3 _ _ _ _ _
   | exact key_Decode.mono _ _
   | exact key_Encode.mono _ _
   | exact key_Order.mono _ _ _
   | exact unisonlaw02_awake.mono _
   | exact unisonlaw02_same.mono _ _ _
   | exact unisonref02_Encode.mono _ _
   | exact LeO.none _
   | refine LeO.ite ?_ ?_
   | refine LeO.bind ?_ (fun _ => ?_)
  ·
   intro y0 y1 y2 y3 y4 y5 y6 y7
   unfold unisonlaw02_KeyOrder.j1
   repeat' first
   | (with_reducible exact ih0 _ _ _)
   | (with_reducible exact ih1 _ _ _ _ _ _ _ _)
   | (with_reducible exact ih2 _ _ _ _ _ _)
   | (with_reducible exact ih3 _ _ _ _ _)
   | (with_reducible exact key_Decode.mono _ _)
   | (with_reducible exact key_Encode.mono _ _)
   | (with_reducible exact key_Order.mono _ _ _)
   | (with_reducible exact unisonlaw02_awake.mono _)
   | (with_reducible exact unisonlaw02_same.mono _ _ _)
   | (with_reducible exact unisonref02_Encode.mono _ _)
   | (with_reducible exact LeO.refl _)
   | (with_reducible exact LeO.none _)
   | (with_reducible refine LeO.ite ?_ ?_)
   | (with_reducible refine LeO.bind ?_ (fun _ => ?_))
   | exact ih0 _ _ _
   | exact ih1 _ _ _ _ _ _ _ _
   | exact ih2 _ _ _ _ _ _
   | exact ih3 _ _ _ _ _
   | exact key_Decode.mono _ _
   | exact key_Encode.mono _ _
   | exact key_Order.mono _ _ _
   | exact unisonlaw02_awake.mono _
   | exact unisonlaw02_same.mono _ _ _
   | exact unisonref02_Encode.mono _ _
   | exact LeO.none _
   | refine LeO.ite ?_ ?_
   | refine LeO.bind ?_ (fun _ => ?_)
  ·
   intro y0 y1 y2 y3 y4 y5
   unfold unisonlaw02_KeyOrder.j2
   repeat' first
   | (with_reducible exact ih0 _ _ _)
   | (with_reducible exact ih1 _ _ _ _ _ _ _ _)
   | (with_reducible exact ih2 _ _ _ _ _ _)
   | (with_reducible exact ih3 _ _ _ _ _)
   | (with_reducible exact key_Decode.mono _ _)
   | (with_reducible exact key_Encode.mono _ _)
   | (with_reducible exact key_Order.mono _ _ _)
   | (with_reducible exact unisonlaw02_awake.mono _)
   | (with_reducible exact unisonlaw02_same.mono _ _ _)
   | (with_reducible exact unisonref02_Encode.mono _ _)
   | (with_reducible exact LeO.refl _)
   | (with_reducible exact LeO.none _)
   | (with_reducible refine LeO.ite ?_ ?_)
   | (with_reducible refine LeO.bind ?_ (fun _ => ?_))
   | exact ih0 _ _ _
   | exact ih1 _ _ _ _ _ _ _ _
   | exact ih2 _ _ _ _ _ _
   | exact ih3 _ _ _ _ _
   | exact key_Decode.mono _ _
   | exact key_Encode.mono _ _
   | exact key_Order.mono _ _ _
   | exact unisonlaw02_awake.mono _
   | exact unisonlaw02_same.mono _ _ _
   | exact unisonref02_Encode.mono _ _
   | exact LeO.none _
   | refine LeO.ite ?_ ?_
   | refine LeO.bind ?_ (fun _ => ?_)
  ·
   intro y0 y1 y2 y3 y4
   unfold unisonlaw02_KeyOrder.j3
   repeat' first
   | (with_reducible exact ih0 _ _ _)
   | (with_reducible exact ih1 _ _ _ _ _ _ _ _)
   | (with_reducible exact ih2 _ _ _ _ _ _)
   | (with_reducible exact ih3 _ _ _ _ _)
   | (with_reducible exact key_Decode.mono _ _)
   | (with_reducible exact key_Encode.mono _ _)
   | (with_reducible exact key_Order.mono _ _ _)
   | (with_reducible exact unisonlaw02_awake.mono _)
   | (with_reducible exact unisonlaw02_same.mono _ _ _)
   | (with_reducible exact unisonref02_Encode.mono _ _)
   | (with_reducible exact LeO.refl _)
   | (with_reducible exact LeO.none _)
   | (with_reducible refine LeO.ite ?_ ?_)
   | (with_reducible refine LeO.bind ?_ (fun _ => ?_))
   | exact ih0 _ _ _
   | exact ih1 _ _ _ _ _ _ _ _
   | exact ih2 _ _ _ _ _ _
   | exact ih3 _ _ _ _ _
   | exact key_Decode.mono _ _
   | exact key_Encode.mono _ _
   | exact key_Order.mono _ _ _
   | exact unisonlaw02_awake.mono _
   | exact unisonlaw02_same.mono _ _ _
   | exact unisonref02_Encode.mono _ _
   | exact LeO.none _
   | refine LeO.ite ?_ ?_
   | refine LeO.bind ?_ (fun _ => ?_)
theorem unisonlaw02_KeyOrder.mono : ∀ a0 a1 k, LeO (unisonlaw02_KeyOrder.f k a0 a1) (unisonlaw02_KeyOrder.f (k + 1) a0 a1) := by
 intro a0 a1 k
 obtain ⟨ih0, ih1, ih2, ih3⟩ := unisonlaw02_KeyOrder.mono_l k
 unfold unisonlaw02_KeyOrder.f
 repeat' first
   | (with_reducible exact ih0 _ _ _)
   | (with_reducible exact ih1 _ _ _ _ _ _ _ _)
   | (with_reducible exact ih2 _ _ _ _ _ _)
   | (with_reducible exact ih3 _ _ _ _ _)
   | (with_reducible exact key_Decode.mono _ _)
   | (with_reducible exact key_Encode.mono _ _)
   | (with_reducible exact key_Order.mono _ _ _)
   | (with_reducible exact unisonlaw02_awake.mono _)
   | (with_reducible exact unisonlaw02_same.mono _ _ _)
   | (with_reducible exact unisonref02_Encode.mono _ _)
   | (with_reducible exact LeO.refl _)
   | (with_reducible exact LeO.none _)
   | (with_reducible refine LeO.ite ?_ ?_)
   | (with_reducible refine LeO.bind ?_ (fun _ => ?_))
   | exact ih0 _ _ _
   | exact ih1 _ _ _ _ _ _ _ _
   | exact ih2 _ _ _ _ _ _
   | exact ih3 _ _ _ _ _
   | exact key_Decode.mono _ _
   | exact key_Encode.mono _ _
   | exact key_Order.mono _ _ _
   | exact unisonlaw02_awake.mono _
   | exact unisonlaw02_same.mono _ _ _
   | exact unisonref02_Encode.mono _ _
   | exact LeO.none _
   | refine LeO.ite ?_ ?_
   | refine LeO.bind ?_ (fun _ => ?_)
set_option maxHeartbeats 8000000 in
set_option maxRecDepth 100000 in
theorem unisonlaw02_KeyOrder.calls (k : Nat) (A0 : Option Addr) (c0 : Nat) (l0 : List (S25)) (A1 : Option Addr) (c1 : Nat) (l1 : List (S25)) (r : Bool) (w : World) (hr0 : Kd.C k25 w A0 l0.length l0) (hc0 : l0.length ≤ c0) (hr1 : Kd.C k25 w A1 l1.length l1) (hc1 : l1.length ≤ c1) (h : unisonlaw02_KeyOrder.f k l0 l1 = some r) :
  Calls Tryd.prog 6 #[.slice A0 l0.length c0, .slice A1 l1.length c1] w fun e w' => e = .returned (.bool r) ∧ Below w.heap.size w w' := by
 have HR0 := Aside0.mk hr0
 have HC0 := Aside0.mk hc0
 clear hr0 hc0
 have HR1 := Aside0.mk hr1
 have HC1 := Aside0.mk hc1
 clear hr1 hc1
 have HB := Aside0.mk (Below.refl w.heap.size w)
 have H : (if (l0.length : Int) > 2147483647 then (unisonlaw02_KeyOrder.j0 k l0 l1 true) else (unisonlaw02_KeyOrder.j0 k l0 l1 (decide ((l1.length : Int) > 2147483647)))) = some r := h
 clear h
 have HC3 := Aside0.mk H
 clear H
 go_enter Tryd.func6, Tryd.ntmps6
 go_upto_region 1 with (fail)
 go_cut [26] (fun v26 wc => ∃ (kq : Nat) (x26_2 : Bool), v26 = .bool x26_2 ∧ Aside0 (unisonlaw02_KeyOrder.j0 kq l0 l1 x26_2 = some r) ∧ Aside0 (kq ≤ k) ∧ Aside0 (Below w.heap.size w wc))
 case first =>
  have H := HC3.out
  clear HC3
  by_cases c4 : (l0.length : Int) > 2147483647
  ·
   rw [if_pos c4] at H
   have c4b0 : decide (2147483647 < (l0.length : Int)) = true := decide_eq_true c4
   have c4b1 : decide (2147483647 < l0.length) = true := decide_eq_true (by omega)
   clear c4
   (first | rw [c4b0] | (simp only [i64_w, i32_w, u8_w, u32_w]; rw [c4b0]) | rw [c4b1] | skip)
   have H' := Aside0.mk H
   clear H
   go_wp2
   go_meet
   case rel => exact ⟨_, (true), (by first | rfl | (simp; done) | (simp [*]; done)), H', ⟨by first | omega | exact Nat.le_refl _⟩, ⟨by repeat (first | (with_reducible first | exact HB.out | apply below_alloc | apply pw_below_drewN | apply below_drew1) | exact HB.out)⟩⟩
  ·
   rw [if_neg c4] at H
   have c4b0 : decide (2147483647 < (l0.length : Int)) = false := decide_eq_false c4
   have c4b1 : decide (2147483647 < l0.length) = false := decide_eq_false (by omega)
   clear c4
   (first | rw [c4b0] | (simp only [i64_w, i32_w, u8_w, u32_w]; rw [c4b0]) | rw [c4b1] | skip)
   have H' := Aside0.mk H
   clear H
   go_wp2
   go_meet
   case rel => exact ⟨_, (decide ((l1.length : Int) > 2147483647)), (by first | rfl | (simp; done) | (simp [*]; done)), H', ⟨by first | omega | exact Nat.le_refl _⟩, ⟨by repeat (first | (with_reducible first | exact HB.out | apply below_alloc | apply pw_below_drewN | apply below_drew1) | exact HB.out)⟩⟩
 case rest =>
  clear HC3
  try clear c1
  try clear p2
  try clear c4
  try clear c4b0
  try clear c4b1
  obtain ⟨kq, x26_2, rfl, HA, HJ2, HB⟩ := hcut
  cases kq with
  | zero => exact absurd HA.out (by simp [unisonlaw02_KeyOrder.j0])
  | succ kj2 =>
   have H := HA.out
   clear HA
   simp only [unisonlaw02_KeyOrder.j0] at H
   by_cases c5 : x26_2 = true
   ·
    subst c5
    have H1 : (some true) = some r := by (first | rw [if_pos rfl] at H | rw [if_pos True.intro] at H | skip); exact H
    clear H
    have H := H1
    clear H1
    obtain rfl := Option.some.inj H
    go_wp2
    go_ret
    exact ⟨by first | (simp only [ByteArray.size_extract, Nat.min_self]; rfl) | rfl | (simp [errW_none, errW_some] <;> rfl) | (simp [*, errW_none, errW_some] <;> rfl), by repeat (first | (with_reducible first | exact HB.out | apply below_alloc | apply pw_below_drewN | apply below_drew1) | exact HB.out)⟩
   ·
    replace c5 := Bool.eq_false_iff.mpr c5
    subst c5
    have H1 : ((unisonlaw02_awake.f kj2).bind fun t344 => ((key_Encode.f kj2 l0).bind fun bt345 => ((key_Encode.f kj2 l1).bind fun bt347 => ((unisonref02_Encode.f kj2 l0).bind fun bt349 => ((unisonref02_Encode.f kj2 l1).bind fun bt351 => (if bt345.2 = bt349.2 then (unisonlaw02_KeyOrder.j1 kj2 l0 l1 t344 bt345.1 bt345.2 bt347.1 bt347.2 (bt347.2 != bt351.2)) else (unisonlaw02_KeyOrder.j1 kj2 l0 l1 t344 bt345.1 bt345.2 bt347.1 bt347.2 true))))))) = some r := by rw [if_neg (show ¬ (false = true) by decide)] at H; exact H
    clear H
    have H := H1
    clear H1
    replace H := Option.bind_eq_some_iff.mp H
    obtain ⟨t344, A60, H⟩ := H
    replace H : ((key_Encode.f kj2 l0).bind fun bt345 => ((key_Encode.f kj2 l1).bind fun bt347 => ((unisonref02_Encode.f kj2 l0).bind fun bt349 => ((unisonref02_Encode.f kj2 l1).bind fun bt351 => (if bt345.2 = bt349.2 then (unisonlaw02_KeyOrder.j1 kj2 l0 l1 t344 bt345.1 bt345.2 bt347.1 bt347.2 (bt347.2 != bt351.2)) else (unisonlaw02_KeyOrder.j1 kj2 l0 l1 t344 bt345.1 bt345.2 bt347.1 bt347.2 true)))))) = some r := H
    have A6 := Aside0.mk A60
    clear A60
    replace H := Option.bind_eq_some_iff.mp H
    obtain ⟨⟨t345, t346⟩, A70, H⟩ := H
    replace H : ((key_Encode.f kj2 l1).bind fun bt347 => ((unisonref02_Encode.f kj2 l0).bind fun bt349 => ((unisonref02_Encode.f kj2 l1).bind fun bt351 => (if t346 = bt349.2 then (unisonlaw02_KeyOrder.j1 kj2 l0 l1 t344 t345 t346 bt347.1 bt347.2 (bt347.2 != bt351.2)) else (unisonlaw02_KeyOrder.j1 kj2 l0 l1 t344 t345 t346 bt347.1 bt347.2 true))))) = some r := H
    have A7 := Aside0.mk A70
    clear A70
    replace H := Option.bind_eq_some_iff.mp H
    obtain ⟨⟨t347, t348⟩, A80, H⟩ := H
    replace H : ((unisonref02_Encode.f kj2 l0).bind fun bt349 => ((unisonref02_Encode.f kj2 l1).bind fun bt351 => (if t346 = bt349.2 then (unisonlaw02_KeyOrder.j1 kj2 l0 l1 t344 t345 t346 t347 t348 (t348 != bt351.2)) else (unisonlaw02_KeyOrder.j1 kj2 l0 l1 t344 t345 t346 t347 t348 true)))) = some r := H
    have A8 := Aside0.mk A80
    clear A80
    replace H := Option.bind_eq_some_iff.mp H
    obtain ⟨⟨t349, t350⟩, A90, H⟩ := H
    replace H : ((unisonref02_Encode.f kj2 l1).bind fun bt351 => (if t346 = t350 then (unisonlaw02_KeyOrder.j1 kj2 l0 l1 t344 t345 t346 t347 t348 (t348 != bt351.2)) else (unisonlaw02_KeyOrder.j1 kj2 l0 l1 t344 t345 t346 t347 t348 true))) = some r := H
    have A9 := Aside0.mk A90
    clear A90
    replace H := Option.bind_eq_some_iff.mp H
    obtain ⟨⟨t351, t352⟩, A100, H⟩ := H
    replace H : (if t346 = t350 then (unisonlaw02_KeyOrder.j1 kj2 l0 l1 t344 t345 t346 t347 t348 (t348 != t352)) else (unisonlaw02_KeyOrder.j1 kj2 l0 l1 t344 t345 t346 t347 t348 true)) = some r := H
    have A10 := Aside0.mk A100
    clear A100
    have HC11 := Aside0.mk H
    clear H
    go_upto_region 8 with (first | ((with_reducible refine gate_callee (f := 10) rfl ?_); refine goesL_ (some 27) rfl rfl Tryd.func10 (by kernel_rfl) rfl #[] rfl (by (try simp only [List.map_toArray, List.map_cons, List.map_nil]); first | done | rfl | (simp only [List.length_drop, List.length_take]; rfl)) ?_; (with_reducible refine (unisonlaw02_awake.calls kj2  t344 _ A6.out).mono ?_); rintro e w12 ⟨rfl, hb⟩; refine ⟨_, rfl, ?_⟩; have n0_ := Aside0.mk (below_step (by repeat (first | (with_reducible first | exact HB.out | apply below_alloc | apply pw_below_drewN | apply below_drew1) | exact HB.out)) hb); clear HB; have HB := n0_; clear n0_; (try clear hb); (try clear hb2); (try clear hk); (try clear hi)) | ((with_reducible refine gate_callee (f := 12) rfl ?_); refine goesL_ (some 30) rfl rfl Tryd.func12 (by kernel_rfl) rfl #[.slice A0 l0.length c0] rfl (by (try simp only [List.map_toArray, List.map_cons, List.map_nil]); first | done | rfl | (simp only [List.length_drop, List.length_take]; rfl)) ?_; (with_reducible refine (key_Encode.calls kj2 _ _ l0 t345 t346 _ ?side1 ?side2 A7.out).mono ?_); (case side1 => repeat (first | exact (Kd.C_below HR0.out HB.out) | (with_reducible refine Kd.C_alloc ?_ _) | (with_reducible refine Kd.C_drewN ?_ _) | (with_reducible refine Kd.C_drew ?_))); (case side2 => exact HC0.out); rintro e w13 ⟨rfl, hb⟩; refine ⟨_, rfl, ?_⟩; have n0_ := Aside0.mk (below_step (by repeat (first | (with_reducible first | exact HB.out | apply below_alloc | apply pw_below_drewN | apply below_drew1) | exact HB.out)) hb); clear HB; have HB := n0_; clear n0_; (try clear hb); (try clear hb2); (try clear hk); (try clear hi)) | ((with_reducible refine gate_callee (f := 12) rfl ?_); refine goesL_ (some 35) rfl rfl Tryd.func12 (by kernel_rfl) rfl #[.slice A1 l1.length c1] rfl (by (try simp only [List.map_toArray, List.map_cons, List.map_nil]); first | done | rfl | (simp only [List.length_drop, List.length_take]; rfl)) ?_; (with_reducible refine (key_Encode.calls kj2 _ _ l1 t347 t348 _ ?side1 ?side2 A8.out).mono ?_); (case side1 => repeat (first | exact (Kd.C_below HR1.out HB.out) | (with_reducible refine Kd.C_alloc ?_ _) | (with_reducible refine Kd.C_drewN ?_ _) | (with_reducible refine Kd.C_drew ?_))); (case side2 => exact HC1.out); rintro e w14 ⟨rfl, hb⟩; refine ⟨_, rfl, ?_⟩; have n0_ := Aside0.mk (below_step (by repeat (first | (with_reducible first | exact HB.out | apply below_alloc | apply pw_below_drewN | apply below_drew1) | exact HB.out)) hb); clear HB; have HB := n0_; clear n0_; (try clear hb); (try clear hb2); (try clear hk); (try clear hi)) | ((with_reducible refine gate_callee (f := 13) rfl ?_); refine goesL_ (some 40) rfl rfl Tryd.func13 (by kernel_rfl) rfl #[.slice A0 l0.length c0] rfl (by (try simp only [List.map_toArray, List.map_cons, List.map_nil]); first | done | rfl | (simp only [List.length_drop, List.length_take]; rfl)) ?_; (with_reducible refine (unisonref02_Encode.calls kj2 _ _ l0 t349 t350 _ ?side1 ?side2 A9.out).mono ?_); (case side1 => repeat (first | exact (Kd.C_below HR0.out HB.out) | (with_reducible refine Kd.C_alloc ?_ _) | (with_reducible refine Kd.C_drewN ?_ _) | (with_reducible refine Kd.C_drew ?_))); (case side2 => exact HC0.out); rintro e w15 ⟨rfl, hb⟩; refine ⟨_, rfl, ?_⟩; have n0_ := Aside0.mk (below_step (by repeat (first | (with_reducible first | exact HB.out | apply below_alloc | apply pw_below_drewN | apply below_drew1) | exact HB.out)) hb); clear HB; have HB := n0_; clear n0_; (try clear hb); (try clear hb2); (try clear hk); (try clear hi)) | ((with_reducible refine gate_callee (f := 13) rfl ?_); refine goesL_ (some 45) rfl rfl Tryd.func13 (by kernel_rfl) rfl #[.slice A1 l1.length c1] rfl (by (try simp only [List.map_toArray, List.map_cons, List.map_nil]); first | done | rfl | (simp only [List.length_drop, List.length_take]; rfl)) ?_; (with_reducible refine (unisonref02_Encode.calls kj2 _ _ l1 t351 t352 _ ?side1 ?side2 A10.out).mono ?_); (case side1 => repeat (first | exact (Kd.C_below HR1.out HB.out) | (with_reducible refine Kd.C_alloc ?_ _) | (with_reducible refine Kd.C_drewN ?_ _) | (with_reducible refine Kd.C_drew ?_))); (case side2 => exact HC1.out); rintro e w16 ⟨rfl, hb⟩; refine ⟨_, rfl, ?_⟩; have n0_ := Aside0.mk (below_step (by repeat (first | (with_reducible first | exact HB.out | apply below_alloc | apply pw_below_drewN | apply below_drew1) | exact HB.out)) hb); clear HB; have HB := n0_; clear n0_; (try clear hb); (try clear hb2); (try clear hk); (try clear hi)))
    (try simp only [Act.put, List.setIfInBounds_toArray, List.set_cons_zero, List.set_cons_succ])
    go_cut [55] (fun v55 wc => ∃ (kq : Nat) (x55_10 : Bool), v55 = .bool x55_10 ∧ Aside0 (unisonlaw02_KeyOrder.j1 kq l0 l1 t344 t345 t346 t347 t348 x55_10 = some r) ∧ Aside0 (kq ≤ kj2) ∧ Aside0 (Below w.heap.size w wc))
    case first =>
     have H := HC11.out
     clear HC11
     by_cases c17 : t346 = t350
     ·
      rw [if_pos c17] at H
      have c17b0 : (t346 == t350) = true := beq_iff_eq.mpr c17
      have c17b1 : (t346 != t350) = false := bne_eq_false_iff_eq.mpr c17
      clear c17
      (first | rw [c17b0] | (simp only [i64_w, i32_w, u8_w, u32_w]; rw [c17b0]) | rw [c17b1] | skip)
      have H' := Aside0.mk H
      clear H
      go_wp2
      go_meet
      case rel => exact ⟨_, ((t348 != t352)), (by first | rfl | (simp; done) | (simp [*]; done)), H', ⟨by have := HJ2.out; first | omega | exact Nat.le_refl _⟩, ⟨by repeat (first | (with_reducible first | exact HB.out | apply below_alloc | apply pw_below_drewN | apply below_drew1) | exact HB.out)⟩⟩
     ·
      rw [if_neg c17] at H
      have c17b0 : (t346 == t350) = false := beq_eq_false_iff_ne.mpr c17
      have c17b1 : (t346 != t350) = true := bne_iff_ne.mpr c17
      (first | rw [c17b0] | (simp only [i64_w, i32_w, u8_w, u32_w]; rw [c17b0]) | rw [c17b1] | skip)
      have H' := Aside0.mk H
      clear H
      go_wp2
      go_meet
      case rel => exact ⟨_, (true), (by first | rfl | (simp; done) | (simp [*]; done)), H', ⟨by have := HJ2.out; first | omega | exact Nat.le_refl _⟩, ⟨by repeat (first | (with_reducible first | exact HB.out | apply below_alloc | apply pw_below_drewN | apply below_drew1) | exact HB.out)⟩⟩
    case rest =>
     clear HC11
     try clear c1
     try clear p2
     try clear c4
     try clear c4b0
     try clear c4b1
     try clear c5
     try clear c6
     try clear c10
     try clear c12
     try clear c13
     try clear c17
     try clear c17b0
     try clear c17b1
     try clear p2
     obtain ⟨kq, x55_10, rfl, HA, HJ10, HB⟩ := hcut
     cases kq with
     | zero => exact absurd HA.out (by simp [unisonlaw02_KeyOrder.j1])
     | succ kj10 =>
      have H := HA.out
      clear HA
      simp only [unisonlaw02_KeyOrder.j1] at H
      by_cases c18 : x55_10 = true
      ·
       subst c18
       have H1 : (none) = some r := by (first | rw [if_pos rfl] at H | rw [if_pos True.intro] at H | skip); exact H
       clear H
       have H := H1
       clear H1
       exact absurd H (by simp)
      ·
       replace c18 := Bool.eq_false_iff.mpr c18
       subst c18
       have H1 : (if t346 = 0 then (unisonlaw02_KeyOrder.j2 kj10 l0 l1 t344 t345 t347 (t348 != 0)) else (unisonlaw02_KeyOrder.j2 kj10 l0 l1 t344 t345 t347 true)) = some r := by rw [if_neg (show ¬ (false = true) by decide)] at H; exact H
       clear H
       have H := H1
       clear H1
       have HC19 := Aside0.mk H
       clear H
       go_upto_region 10 with (fail)
       go_cut [61] (fun v61 wc => ∃ (kq : Nat) (x61_18 : Bool), v61 = .bool x61_18 ∧ Aside0 (unisonlaw02_KeyOrder.j2 kq l0 l1 t344 t345 t347 x61_18 = some r) ∧ Aside0 (kq ≤ kj10) ∧ Aside0 (Below w.heap.size w wc))
       case first =>
        have H := HC19.out
        clear HC19
        by_cases c20 : t346 = 0
        ·
         rw [if_pos c20] at H
         have c20b0 : (t346 == 0) = true := beq_iff_eq.mpr c20
         have c20b1 : (t346 != 0) = false := bne_eq_false_iff_eq.mpr c20
         clear c20
         (first | rw [c20b0] | (simp only [i64_w, i32_w, u8_w, u32_w]; rw [c20b0]) | rw [c20b1] | skip)
         have H' := Aside0.mk H
         clear H
         go_wp2
         go_meet
         case rel => exact ⟨_, ((t348 != 0)), (by first | rfl | (simp; done) | (simp [*]; done)), H', ⟨by have := HJ2.out; have := HJ10.out; first | omega | exact Nat.le_refl _⟩, ⟨by repeat (first | (with_reducible first | exact HB.out | apply below_alloc | apply pw_below_drewN | apply below_drew1) | exact HB.out)⟩⟩
        ·
         rw [if_neg c20] at H
         have c20b0 : (t346 == 0) = false := beq_eq_false_iff_ne.mpr c20
         have c20b1 : (t346 != 0) = true := bne_iff_ne.mpr c20
         (first | rw [c20b0] | (simp only [i64_w, i32_w, u8_w, u32_w]; rw [c20b0]) | rw [c20b1] | skip)
         have H' := Aside0.mk H
         clear H
         go_wp2
         go_meet
         case rel => exact ⟨_, (true), (by first | rfl | (simp; done) | (simp [*]; done)), H', ⟨by have := HJ2.out; have := HJ10.out; first | omega | exact Nat.le_refl _⟩, ⟨by repeat (first | (with_reducible first | exact HB.out | apply below_alloc | apply pw_below_drewN | apply below_drew1) | exact HB.out)⟩⟩
       case rest =>
        clear HC19
        try clear c1
        try clear c2
        try clear p2
        try clear c4
        try clear c4b0
        try clear c4b1
        try clear c5
        try clear c6
        try clear c10
        try clear c12
        try clear c13
        try clear c17
        try clear c17b0
        try clear c17b1
        try clear c18
        try clear c20
        try clear c20b0
        try clear c20b1
        try clear p2
        obtain ⟨kq, x61_18, rfl, HA, HJ18, HB⟩ := hcut
        cases kq with
        | zero => exact absurd HA.out (by simp [unisonlaw02_KeyOrder.j2])
        | succ kj18 =>
         have H := HA.out
         clear HA
         simp only [unisonlaw02_KeyOrder.j2] at H
         by_cases c21 : x61_18 = true
         ·
          subst c21
          have H1 : (some t344) = some r := by (first | rw [if_pos rfl] at H | rw [if_pos True.intro] at H | skip); exact H
          clear H
          have H := H1
          clear H1
          obtain rfl := Option.some.inj H
          go_wp2
          go_ret
          exact ⟨by first | (simp only [ByteArray.size_extract, Nat.min_self]; rfl) | rfl | (simp [errW_none, errW_some] <;> rfl) | (simp [*, errW_none, errW_some] <;> rfl), by repeat (first | (with_reducible first | exact HB.out | apply below_alloc | apply pw_below_drewN | apply below_drew1) | exact HB.out)⟩
         ·
          replace c21 := Bool.eq_false_iff.mpr c21
          subst c21
          have H1 : ((key_Decode.f kj18 t345).bind fun bt353 => ((unisonlaw02_same.f kj18 bt353.1 l0).bind fun t357 => ((key_Order.f kj18 l0 l1).bind fun t358 => (if (Op.bytesLess t345.toList t347.toList) = true then (if t344 = true then (if t357 = true then (if bt353.2 = 0 then (some (t358 == (-1))) else (none)) else (none)) else (none)) else (if (Op.bytesLess t347.toList t345.toList) = true then (if t344 = true then (if t357 = true then (if bt353.2 = 0 then (some (t358 == 1)) else (none)) else (none)) else (none)) else ((unisonlaw02_same.f kj18 l0 l1).bind fun t359 => (unisonlaw02_KeyOrder.j3 kj18 t344 bt353.2 t357 t358 t359))))))) = some r := by rw [if_neg (show ¬ (false = true) by decide)] at H; exact H
          clear H
          have H := H1
          clear H1
          replace H := Option.bind_eq_some_iff.mp H
          obtain ⟨⟨t353, t354⟩, A220, H⟩ := H
          replace H : ((unisonlaw02_same.f kj18 t353 l0).bind fun t357 => ((key_Order.f kj18 l0 l1).bind fun t358 => (if (Op.bytesLess t345.toList t347.toList) = true then (if t344 = true then (if t357 = true then (if t354 = 0 then (some (t358 == (-1))) else (none)) else (none)) else (none)) else (if (Op.bytesLess t347.toList t345.toList) = true then (if t344 = true then (if t357 = true then (if t354 = 0 then (some (t358 == 1)) else (none)) else (none)) else (none)) else ((unisonlaw02_same.f kj18 l0 l1).bind fun t359 => (unisonlaw02_KeyOrder.j3 kj18 t344 t354 t357 t358 t359)))))) = some r := H
          have A22 := Aside0.mk A220
          clear A220
          replace H := Option.bind_eq_some_iff.mp H
          obtain ⟨t357, A230, H⟩ := H
          replace H : ((key_Order.f kj18 l0 l1).bind fun t358 => (if (Op.bytesLess t345.toList t347.toList) = true then (if t344 = true then (if t357 = true then (if t354 = 0 then (some (t358 == (-1))) else (none)) else (none)) else (none)) else (if (Op.bytesLess t347.toList t345.toList) = true then (if t344 = true then (if t357 = true then (if t354 = 0 then (some (t358 == 1)) else (none)) else (none)) else (none)) else ((unisonlaw02_same.f kj18 l0 l1).bind fun t359 => (unisonlaw02_KeyOrder.j3 kj18 t344 t354 t357 t358 t359))))) = some r := H
          have A23 := Aside0.mk A230
          clear A230
          replace H := Option.bind_eq_some_iff.mp H
          obtain ⟨t358, A240, H⟩ := H
          replace H : (if (Op.bytesLess t345.toList t347.toList) = true then (if t344 = true then (if t357 = true then (if t354 = 0 then (some (t358 == (-1))) else (none)) else (none)) else (none)) else (if (Op.bytesLess t347.toList t345.toList) = true then (if t344 = true then (if t357 = true then (if t354 = 0 then (some (t358 == 1)) else (none)) else (none)) else (none)) else ((unisonlaw02_same.f kj18 l0 l1).bind fun t359 => (unisonlaw02_KeyOrder.j3 kj18 t344 t354 t357 t358 t359)))) = some r := H
          have A24 := Aside0.mk A240
          clear A240
          by_cases c25 : (Op.bytesLess t345.toList t347.toList) = true
          ·
           rw [if_pos c25] at H
           have c25b0 : (Op.bytesLess t345.toList t347.toList) = true := c25
           have c25bn : (!Op.bytesLess t345.toList t347.toList) = false := by rw [c25b0]; rfl
           have c25be : (t345.toList == t347.toList) = false := bl_ne c25b0
           have c25bf : (t347.toList == t345.toList) = false := bl_ne' c25b0
           have c25bg : Op.bytesLess t347.toList t345.toList = false := bl_asymm c25b0
           clear c25
           by_cases c26 : t344 = true
           ·
            subst c26
            have H1 : (if t357 = true then (if t354 = 0 then (some (t358 == (-1))) else (none)) else (none)) = some r := by (first | rw [if_pos rfl] at H | rw [if_pos True.intro] at H | skip); exact H
            clear H
            have H := H1
            clear H1
            by_cases c27 : t357 = true
            ·
             subst c27
             have H1 : (if t354 = 0 then (some (t358 == (-1))) else (none)) = some r := by (first | rw [if_pos rfl] at H | rw [if_pos True.intro] at H | skip); exact H
             clear H
             have H := H1
             clear H1
             by_cases c28 : t354 = 0
             ·
              rw [if_pos c28] at H
              have c28b0 : (t354 == 0) = true := beq_iff_eq.mpr c28
              have c28b1 : (t354 != 0) = false := bne_eq_false_iff_eq.mpr c28
              clear c28
              obtain rfl := Option.some.inj H
              go_wp2_with (first | ((with_reducible refine gate_callee (f := 15) rfl ?_); refine goesL_ (some 65) rfl rfl Tryd.func15 (by kernel_rfl) rfl #[.string t345] rfl (by (try simp only [List.map_toArray, List.map_cons, List.map_nil]); first | done | rfl | (simp only [List.length_drop, List.length_take]; rfl)) ?_; (with_reducible refine (key_Decode.calls kj18 t345 t353 t354 _ A22.out).mono ?_); rintro e w29 ⟨v355, rfl, ho0, hb⟩; refine ⟨_, rfl, ?_⟩; have n0_ := Aside0.mk (Kd.R_lower ho0 (below_size (by repeat (first | (with_reducible first | exact HB.out | apply below_alloc | apply pw_below_drewN | apply below_drew1) | exact HB.out)))); have n1_ := Aside0.mk (below_step (by repeat (first | (with_reducible first | exact HB.out | apply below_alloc | apply pw_below_drewN | apply below_drew1) | exact HB.out)) hb); clear HB; have HO356 := n0_; have HB := n1_; clear n0_ n1_; (try clear hb); (try clear hb2); (try clear hk); (try clear hi); (try clear ho0); obtain ⟨Ao30, co30, eo30⟩ := Kd.R_slice HO356.out; subst eo30) | ((with_reducible refine gate_callee (f := 14) rfl ?_); refine goesL_ (some 70) rfl rfl Tryd.func14 (by kernel_rfl) rfl #[.slice Ao30 t353.length co30, .slice A0 l0.length c0] rfl (by (try simp only [List.map_toArray, List.map_cons, List.map_nil]); first | done | rfl | (simp only [List.length_drop, List.length_take]; rfl)) ?_; (with_reducible refine (unisonlaw02_same.calls kj18 _ _ t353 _ _ l0 true _ ?side1 ?side2 ?side3 ?side4 A23.out).mono ?_); (case side1 => repeat (first | exact (Kd.R_reads' HO356.out).2.2 | (with_reducible refine Kd.C_alloc ?_ _) | (with_reducible refine Kd.C_drewN ?_ _) | (with_reducible refine Kd.C_drew ?_))); (case side2 => exact (Kd.R_reads' HO356.out).2.1); (case side3 => repeat (first | exact (Kd.C_below HR0.out HB.out) | (with_reducible refine Kd.C_alloc ?_ _) | (with_reducible refine Kd.C_drewN ?_ _) | (with_reducible refine Kd.C_drew ?_))); (case side4 => exact HC0.out); rintro e w' ⟨rfl, ⟨nd, rfl⟩⟩; refine ⟨_, rfl, ?_⟩) | ((with_reducible refine gate_callee (f := 17) rfl ?_); refine goesL_ (some 73) rfl rfl Tryd.func17 (by kernel_rfl) rfl #[.slice A0 l0.length c0, .slice A1 l1.length c1] rfl (by (try simp only [List.map_toArray, List.map_cons, List.map_nil]); first | done | rfl | (simp only [List.length_drop, List.length_take]; rfl)) ?_; (with_reducible refine (key_Order.calls kj18 _ _ l0 _ _ l1 t358 _ ?side1 ?side2 ?side3 ?side4 A24.out).mono ?_); (case side1 => repeat (first | exact (Kd.C_below HR0.out (by repeat (first | (with_reducible first | exact HB.out | apply below_alloc | apply pw_below_drewN | apply below_drew1) | exact HB.out))) | (with_reducible refine Kd.C_alloc ?_ _) | (with_reducible refine Kd.C_drewN ?_ _) | (with_reducible refine Kd.C_drew ?_))); (case side2 => exact HC0.out); (case side3 => repeat (first | exact (Kd.C_below HR1.out (by repeat (first | (with_reducible first | exact HB.out | apply below_alloc | apply pw_below_drewN | apply below_drew1) | exact HB.out))) | (with_reducible refine Kd.C_alloc ?_ _) | (with_reducible refine Kd.C_drewN ?_ _) | (with_reducible refine Kd.C_drew ?_))); (case side4 => exact HC1.out); rintro e w31 ⟨rfl, hb⟩; refine ⟨_, rfl, ?_⟩; have n0_ := Aside0.mk (Kd.R_below (by (with_reducible repeat (first | apply Kd.R_alloc | apply Kd.R_drewN | apply Kd.R_drew)); exact HO356.out) hb); have n1_ := Aside0.mk (below_step (by repeat (first | (with_reducible first | exact HB.out | apply below_alloc | apply pw_below_drewN | apply below_drew1) | exact HB.out)) hb); clear HO356; clear HB; have HO356 := n0_; have HB := n1_; clear n0_ n1_; (try clear hb); (try clear hb2); (try clear hk); (try clear hi)))
              go_ret
              exact ⟨by first | (simp only [ByteArray.size_extract, Nat.min_self]; rfl) | rfl | (simp [errW_none, errW_some] <;> rfl) | (simp [*, errW_none, errW_some] <;> rfl), by repeat (first | (with_reducible first | exact HB.out | apply below_alloc | apply pw_below_drewN | apply below_drew1) | exact HB.out)⟩
             ·
              rw [if_neg c28] at H
              exact absurd H (by simp)
            ·
             replace c27 := Bool.eq_false_iff.mpr c27
             subst c27
             have H1 : (none) = some r := by rw [if_neg (show ¬ (false = true) by decide)] at H; exact H
             clear H
             have H := H1
             clear H1
             exact absurd H (by simp)
           ·
            replace c26 := Bool.eq_false_iff.mpr c26
            subst c26
            have H1 : (none) = some r := by rw [if_neg (show ¬ (false = true) by decide)] at H; exact H
            clear H
            have H := H1
            clear H1
            exact absurd H (by simp)
          ·
           rw [if_neg c25] at H
           have c25b0 : (Op.bytesLess t345.toList t347.toList) = false := by simpa using c25
           have c25bn : (!Op.bytesLess t345.toList t347.toList) = true := by rw [c25b0]; rfl
           try (have c25be : (t345.toList == t347.toList) = true := bl_eq c25b0 (by assumption))
           try (have c25bf : (t347.toList == t345.toList) = true := bl_eq (by assumption) c25b0)
           clear c25
           by_cases c32 : (Op.bytesLess t347.toList t345.toList) = true
           ·
            rw [if_pos c32] at H
            have c32b0 : (Op.bytesLess t347.toList t345.toList) = true := c32
            have c32bn : (!Op.bytesLess t347.toList t345.toList) = false := by rw [c32b0]; rfl
            have c32be : (t347.toList == t345.toList) = false := bl_ne c32b0
            have c32bf : (t345.toList == t347.toList) = false := bl_ne' c32b0
            have c32bg : Op.bytesLess t345.toList t347.toList = false := bl_asymm c32b0
            clear c32
            by_cases c33 : t344 = true
            ·
             subst c33
             have H1 : (if t357 = true then (if t354 = 0 then (some (t358 == 1)) else (none)) else (none)) = some r := by (first | rw [if_pos rfl] at H | rw [if_pos True.intro] at H | skip); exact H
             clear H
             have H := H1
             clear H1
             by_cases c34 : t357 = true
             ·
              subst c34
              have H1 : (if t354 = 0 then (some (t358 == 1)) else (none)) = some r := by (first | rw [if_pos rfl] at H | rw [if_pos True.intro] at H | skip); exact H
              clear H
              have H := H1
              clear H1
              by_cases c35 : t354 = 0
              ·
               rw [if_pos c35] at H
               have c35b0 : (t354 == 0) = true := beq_iff_eq.mpr c35
               have c35b1 : (t354 != 0) = false := bne_eq_false_iff_eq.mpr c35
               clear c35
               obtain rfl := Option.some.inj H
               go_wp2_with (first | ((with_reducible refine gate_callee (f := 15) rfl ?_); refine goesL_ (some 65) rfl rfl Tryd.func15 (by kernel_rfl) rfl #[.string t345] rfl (by (try simp only [List.map_toArray, List.map_cons, List.map_nil]); first | done | rfl | (simp only [List.length_drop, List.length_take]; rfl)) ?_; (with_reducible refine (key_Decode.calls kj18 t345 t353 t354 _ A22.out).mono ?_); rintro e w36 ⟨v355, rfl, ho0, hb⟩; refine ⟨_, rfl, ?_⟩; have n0_ := Aside0.mk (Kd.R_lower ho0 (below_size (by repeat (first | (with_reducible first | exact HB.out | apply below_alloc | apply pw_below_drewN | apply below_drew1) | exact HB.out)))); have n1_ := Aside0.mk (below_step (by repeat (first | (with_reducible first | exact HB.out | apply below_alloc | apply pw_below_drewN | apply below_drew1) | exact HB.out)) hb); clear HB; have HO356 := n0_; have HB := n1_; clear n0_ n1_; (try clear hb); (try clear hb2); (try clear hk); (try clear hi); (try clear ho0); obtain ⟨Ao37, co37, eo37⟩ := Kd.R_slice HO356.out; subst eo37) | ((with_reducible refine gate_callee (f := 14) rfl ?_); refine goesL_ (some 70) rfl rfl Tryd.func14 (by kernel_rfl) rfl #[.slice Ao37 t353.length co37, .slice A0 l0.length c0] rfl (by (try simp only [List.map_toArray, List.map_cons, List.map_nil]); first | done | rfl | (simp only [List.length_drop, List.length_take]; rfl)) ?_; (with_reducible refine (unisonlaw02_same.calls kj18 _ _ t353 _ _ l0 true _ ?side1 ?side2 ?side3 ?side4 A23.out).mono ?_); (case side1 => repeat (first | exact (Kd.R_reads' HO356.out).2.2 | (with_reducible refine Kd.C_alloc ?_ _) | (with_reducible refine Kd.C_drewN ?_ _) | (with_reducible refine Kd.C_drew ?_))); (case side2 => exact (Kd.R_reads' HO356.out).2.1); (case side3 => repeat (first | exact (Kd.C_below HR0.out HB.out) | (with_reducible refine Kd.C_alloc ?_ _) | (with_reducible refine Kd.C_drewN ?_ _) | (with_reducible refine Kd.C_drew ?_))); (case side4 => exact HC0.out); rintro e w' ⟨rfl, ⟨nd, rfl⟩⟩; refine ⟨_, rfl, ?_⟩) | ((with_reducible refine gate_callee (f := 17) rfl ?_); refine goesL_ (some 73) rfl rfl Tryd.func17 (by kernel_rfl) rfl #[.slice A0 l0.length c0, .slice A1 l1.length c1] rfl (by (try simp only [List.map_toArray, List.map_cons, List.map_nil]); first | done | rfl | (simp only [List.length_drop, List.length_take]; rfl)) ?_; (with_reducible refine (key_Order.calls kj18 _ _ l0 _ _ l1 t358 _ ?side1 ?side2 ?side3 ?side4 A24.out).mono ?_); (case side1 => repeat (first | exact (Kd.C_below HR0.out (by repeat (first | (with_reducible first | exact HB.out | apply below_alloc | apply pw_below_drewN | apply below_drew1) | exact HB.out))) | (with_reducible refine Kd.C_alloc ?_ _) | (with_reducible refine Kd.C_drewN ?_ _) | (with_reducible refine Kd.C_drew ?_))); (case side2 => exact HC0.out); (case side3 => repeat (first | exact (Kd.C_below HR1.out (by repeat (first | (with_reducible first | exact HB.out | apply below_alloc | apply pw_below_drewN | apply below_drew1) | exact HB.out))) | (with_reducible refine Kd.C_alloc ?_ _) | (with_reducible refine Kd.C_drewN ?_ _) | (with_reducible refine Kd.C_drew ?_))); (case side4 => exact HC1.out); rintro e w38 ⟨rfl, hb⟩; refine ⟨_, rfl, ?_⟩; have n0_ := Aside0.mk (Kd.R_below (by (with_reducible repeat (first | apply Kd.R_alloc | apply Kd.R_drewN | apply Kd.R_drew)); exact HO356.out) hb); have n1_ := Aside0.mk (below_step (by repeat (first | (with_reducible first | exact HB.out | apply below_alloc | apply pw_below_drewN | apply below_drew1) | exact HB.out)) hb); clear HO356; clear HB; have HO356 := n0_; have HB := n1_; clear n0_ n1_; (try clear hb); (try clear hb2); (try clear hk); (try clear hi)))
               go_ret
               exact ⟨by first | (simp only [ByteArray.size_extract, Nat.min_self]; rfl) | rfl | (simp [errW_none, errW_some] <;> rfl) | (simp [*, errW_none, errW_some] <;> rfl), by repeat (first | (with_reducible first | exact HB.out | apply below_alloc | apply pw_below_drewN | apply below_drew1) | exact HB.out)⟩
              ·
               rw [if_neg c35] at H
               exact absurd H (by simp)
             ·
              replace c34 := Bool.eq_false_iff.mpr c34
              subst c34
              have H1 : (none) = some r := by rw [if_neg (show ¬ (false = true) by decide)] at H; exact H
              clear H
              have H := H1
              clear H1
              exact absurd H (by simp)
            ·
             replace c33 := Bool.eq_false_iff.mpr c33
             subst c33
             have H1 : (none) = some r := by rw [if_neg (show ¬ (false = true) by decide)] at H; exact H
             clear H
             have H := H1
             clear H1
             exact absurd H (by simp)
           ·
            rw [if_neg c32] at H
            have c32b0 : (Op.bytesLess t347.toList t345.toList) = false := by simpa using c32
            have c32bn : (!Op.bytesLess t347.toList t345.toList) = true := by rw [c32b0]; rfl
            try (have c32be : (t347.toList == t345.toList) = true := bl_eq c32b0 (by assumption))
            try (have c32bf : (t345.toList == t347.toList) = true := bl_eq (by assumption) c32b0)
            clear c32
            have HC39 := Aside0.mk H
            clear H
            go_upto_region 19 with (first | ((with_reducible refine gate_callee (f := 15) rfl ?_); refine goesL_ (some 65) rfl rfl Tryd.func15 (by kernel_rfl) rfl #[.string t345] rfl (by (try simp only [List.map_toArray, List.map_cons, List.map_nil]); first | done | rfl | (simp only [List.length_drop, List.length_take]; rfl)) ?_; (with_reducible refine (key_Decode.calls kj18 t345 t353 t354 _ A22.out).mono ?_); rintro e w40 ⟨v355, rfl, ho0, hb⟩; refine ⟨_, rfl, ?_⟩; have n0_ := Aside0.mk (Kd.R_lower ho0 (below_size (by repeat (first | (with_reducible first | exact HB.out | apply below_alloc | apply pw_below_drewN | apply below_drew1) | exact HB.out)))); have n1_ := Aside0.mk (below_step (by repeat (first | (with_reducible first | exact HB.out | apply below_alloc | apply pw_below_drewN | apply below_drew1) | exact HB.out)) hb); clear HB; have HO356 := n0_; have HB := n1_; clear n0_ n1_; (try clear hb); (try clear hb2); (try clear hk); (try clear hi); (try clear ho0); obtain ⟨Ao41, co41, eo41⟩ := Kd.R_slice HO356.out; subst eo41) | ((with_reducible refine gate_callee (f := 14) rfl ?_); refine goesL_ (some 70) rfl rfl Tryd.func14 (by kernel_rfl) rfl #[.slice Ao41 t353.length co41, .slice A0 l0.length c0] rfl (by (try simp only [List.map_toArray, List.map_cons, List.map_nil]); first | done | rfl | (simp only [List.length_drop, List.length_take]; rfl)) ?_; (with_reducible refine (unisonlaw02_same.calls kj18 _ _ t353 _ _ l0 t357 _ ?side1 ?side2 ?side3 ?side4 A23.out).mono ?_); (case side1 => repeat (first | exact (Kd.R_reads' HO356.out).2.2 | (with_reducible refine Kd.C_alloc ?_ _) | (with_reducible refine Kd.C_drewN ?_ _) | (with_reducible refine Kd.C_drew ?_))); (case side2 => exact (Kd.R_reads' HO356.out).2.1); (case side3 => repeat (first | exact (Kd.C_below HR0.out HB.out) | (with_reducible refine Kd.C_alloc ?_ _) | (with_reducible refine Kd.C_drewN ?_ _) | (with_reducible refine Kd.C_drew ?_))); (case side4 => exact HC0.out); rintro e w' ⟨rfl, ⟨nd, rfl⟩⟩; refine ⟨_, rfl, ?_⟩) | ((with_reducible refine gate_callee (f := 17) rfl ?_); refine goesL_ (some 73) rfl rfl Tryd.func17 (by kernel_rfl) rfl #[.slice A0 l0.length c0, .slice A1 l1.length c1] rfl (by (try simp only [List.map_toArray, List.map_cons, List.map_nil]); first | done | rfl | (simp only [List.length_drop, List.length_take]; rfl)) ?_; (with_reducible refine (key_Order.calls kj18 _ _ l0 _ _ l1 t358 _ ?side1 ?side2 ?side3 ?side4 A24.out).mono ?_); (case side1 => repeat (first | exact (Kd.C_below HR0.out (by repeat (first | (with_reducible first | exact HB.out | apply below_alloc | apply pw_below_drewN | apply below_drew1) | exact HB.out))) | (with_reducible refine Kd.C_alloc ?_ _) | (with_reducible refine Kd.C_drewN ?_ _) | (with_reducible refine Kd.C_drew ?_))); (case side2 => exact HC0.out); (case side3 => repeat (first | exact (Kd.C_below HR1.out (by repeat (first | (with_reducible first | exact HB.out | apply below_alloc | apply pw_below_drewN | apply below_drew1) | exact HB.out))) | (with_reducible refine Kd.C_alloc ?_ _) | (with_reducible refine Kd.C_drewN ?_ _) | (with_reducible refine Kd.C_drew ?_))); (case side4 => exact HC1.out); rintro e w42 ⟨rfl, hb⟩; refine ⟨_, rfl, ?_⟩; have n0_ := Aside0.mk (Kd.R_below (by (with_reducible repeat (first | apply Kd.R_alloc | apply Kd.R_drewN | apply Kd.R_drew)); exact HO356.out) hb); have n1_ := Aside0.mk (below_step (by repeat (first | (with_reducible first | exact HB.out | apply below_alloc | apply pw_below_drewN | apply below_drew1) | exact HB.out)) hb); clear HO356; clear HB; have HO356 := n0_; have HB := n1_; clear n0_ n1_; (try clear hb); (try clear hb2); (try clear hk); (try clear hi)))
            (try simp only [Act.put, List.setIfInBounds_toArray, List.set_cons_zero, List.set_cons_succ])
            go_cut [18] (fun v18 wc => ∃ (kq : Nat) (x18_38 : Bool), v18 = .bool x18_38 ∧ Aside0 (unisonlaw02_KeyOrder.j3 kq t344 t354 t357 t358 x18_38 = some r) ∧ Aside0 (kq ≤ kj18) ∧ Aside0 (Below w.heap.size w wc))
            case first =>
             have H := HC39.out
             clear HC39
             replace H := Option.bind_eq_some_iff.mp H
             obtain ⟨t359, A430, H⟩ := H
             replace H : (unisonlaw02_KeyOrder.j3 kj18 t344 t354 t357 t358 t359) = some r := H
             have A43 := Aside0.mk A430
             clear A430
             have H' := Aside0.mk H
             clear H
             go_wp2_with (first | ((with_reducible refine gate_callee (f := 14) rfl ?_); refine goesL_ (some 106) rfl rfl Tryd.func14 (by kernel_rfl) rfl #[.slice A0 l0.length c0, .slice A1 l1.length c1] rfl (by (try simp only [List.map_toArray, List.map_cons, List.map_nil]); first | done | rfl | (simp only [List.length_drop, List.length_take]; rfl)) ?_; (with_reducible refine (unisonlaw02_same.calls kj18 _ _ l0 _ _ l1 t359 _ ?side1 ?side2 ?side3 ?side4 A43.out).mono ?_); (case side1 => repeat (first | exact (Kd.C_below HR0.out HB.out) | (with_reducible refine Kd.C_alloc ?_ _) | (with_reducible refine Kd.C_drewN ?_ _) | (with_reducible refine Kd.C_drew ?_))); (case side2 => exact HC0.out); (case side3 => repeat (first | exact (Kd.C_below HR1.out HB.out) | (with_reducible refine Kd.C_alloc ?_ _) | (with_reducible refine Kd.C_drewN ?_ _) | (with_reducible refine Kd.C_drew ?_))); (case side4 => exact HC1.out); rintro e w' ⟨rfl, ⟨nd, rfl⟩⟩; refine ⟨_, rfl, ?_⟩))
             go_meet
             case rel => exact ⟨_, (t359), (by first | rfl | (simp; done) | (simp [*]; done)), H', ⟨by have := HJ2.out; have := HJ10.out; have := HJ18.out; first | omega | exact Nat.le_refl _⟩, ⟨by repeat (first | (with_reducible first | exact HB.out | apply below_alloc | apply pw_below_drewN | apply below_drew1) | exact HB.out)⟩⟩
            case rest =>
             clear HC39
             try clear c1
             try clear c2
             try clear p2
             try clear c3
             try clear c4
             try clear c4b0
             try clear c4b1
             try clear c5
             try clear c6
             try clear c10
             try clear c12
             try clear c13
             try clear c14
             try clear c15
             try clear c17
             try clear c17b0
             try clear c17b1
             try clear c18
             try clear c20
             try clear c20b0
             try clear c20b1
             try clear c21
             try clear c25
             try clear c25b0
             try clear c26
             try clear c27
             try clear c28
             try clear c28b0
             try clear c28b1
             try clear c32
             try clear c32b0
             try clear c33
             try clear c34
             try clear c35
             try clear c35b0
             try clear c35b1
             try clear p2
             obtain ⟨kq, x18_38, rfl, HA, HJ38, HB⟩ := hcut
             cases kq with
             | zero => exact absurd HA.out (by simp [unisonlaw02_KeyOrder.j3])
             | succ kj38 =>
              have H := HA.out
              clear HA
              simp only [unisonlaw02_KeyOrder.j3] at H
              by_cases c44 : t344 = true
              ·
               subst c44
               have H1 : (if t357 = true then (if t354 = 0 then (if t358 = 0 then (some x18_38) else (none)) else (none)) else (none)) = some r := by (first | rw [if_pos rfl] at H | rw [if_pos True.intro] at H | skip); exact H
               clear H
               have H := H1
               clear H1
               by_cases c45 : t357 = true
               ·
                subst c45
                have H1 : (if t354 = 0 then (if t358 = 0 then (some x18_38) else (none)) else (none)) = some r := by (first | rw [if_pos rfl] at H | rw [if_pos True.intro] at H | skip); exact H
                clear H
                have H := H1
                clear H1
                by_cases c46 : t354 = 0
                ·
                 rw [if_pos c46] at H
                 have c46b0 : (t354 == 0) = true := beq_iff_eq.mpr c46
                 have c46b1 : (t354 != 0) = false := bne_eq_false_iff_eq.mpr c46
                 clear c46
                 by_cases c47 : t358 = 0
                 ·
                  rw [if_pos c47] at H
                  have c47b0 : (t358 == 0) = true := beq_iff_eq.mpr c47
                  have c47b1 : (t358 != 0) = false := bne_eq_false_iff_eq.mpr c47
                  clear c47
                  obtain rfl := Option.some.inj H
                  go_wp2
                  go_ret
                  exact ⟨by first | (simp only [ByteArray.size_extract, Nat.min_self]; rfl) | rfl | (simp [errW_none, errW_some] <;> rfl) | (simp [*, errW_none, errW_some] <;> rfl), by repeat (first | (with_reducible first | exact HB.out | apply below_alloc | apply pw_below_drewN | apply below_drew1) | exact HB.out)⟩
                 ·
                  rw [if_neg c47] at H
                  exact absurd H (by simp)
                ·
                 rw [if_neg c46] at H
                 exact absurd H (by simp)
               ·
                replace c45 := Bool.eq_false_iff.mpr c45
                subst c45
                have H1 : (none) = some r := by rw [if_neg (show ¬ (false = true) by decide)] at H; exact H
                clear H
                have H := H1
                clear H1
                exact absurd H (by simp)
              ·
               replace c44 := Bool.eq_false_iff.mpr c44
               subst c44
               have H1 : (none) = some r := by rw [if_neg (show ¬ (false = true) by decide)] at H; exact H
               clear H
               have H := H1
               clear H1
               exact absurd H (by simp)

end Go.Proofs.YtohknmlcleifpaaDoor.PA
