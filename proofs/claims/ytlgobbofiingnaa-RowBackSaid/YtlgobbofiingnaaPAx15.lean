-- Laid by a program of ours (wip/gen/xprint.py). Not trusted: Lean checks it.
import Derived.Test.YtlgobbofiingnaaPAx0
import Derived.Test.YtlgobbofiingnaaPAx3
import Derived.Test.YtlgobbofiingnaaPAx4
import Derived.Test.YtlgobbofiingnaaPAx6
import Derived.Test.YtlgobbofiingnaaPAx7
import Derived.Test.YtlgobbofiingnaaPAx9
import Derived.Test.YtlgobbofiingnaaPAx10
namespace Go.Proofs.Ytlgobbofiingnaa.PA
open Go.RowKit Go.Proofs.YtlgobbofiingnaaW.PrintWords Go.Proofs.YtlgobbofiingnaaW.PrintLast Go.Proofs.YtlgobbofiingnaaW.PrintMore Go.Proofs.YtlgobbofiingnaaX
attribute [local go_sem] max2_int min2_int max_two min_two max_three min_three max_four min_four   -- for this text's walks alone
set_option linter.unusedVariables false
set_option linter.unusedSimpArgs false

/-! ### unisonlaw03_RowBack: function 5 -/
mutual
def unisonlaw03_RowBack.j0 : Nat → List (S25) → List (S25) → Bool → Option (Bool)
 | 0, _, _, _ => none
 | k + 1, x0, x1, x28 => if x28 = true then (some true) else ((unisonlaw03_awake.f k).bind fun t313 => ((row_Encode.f k x0).bind fun bt314 => ((row_Encode.f k x1).bind fun bt316 => ((unisonref03_Encode.f k x0).bind fun bt318 => ((unisonref03_Encode.f k x1).bind fun bt320 => (if bt314.2 = bt318.2 then (unisonlaw03_RowBack.j1 k x0 x1 t313 bt314.1 bt314.2 bt316.1 bt316.2 (bt316.2 != bt320.2)) else (unisonlaw03_RowBack.j1 k x0 x1 t313 bt314.1 bt314.2 bt316.1 bt316.2 true)))))))
def unisonlaw03_RowBack.j1 : Nat → List (S25) → List (S25) → Bool → ByteArray → Int → ByteArray → Int → Bool → Option (Bool)
 | 0, _, _, _, _, _, _, _, _ => none
 | k + 1, x0, x1, x5, x6, x7, x8, x9, x57 => if x57 = true then (none) else (if x7 = 0 then (unisonlaw03_RowBack.j2 k x0 x1 x5 x6 x8 (x9 != 0)) else (unisonlaw03_RowBack.j2 k x0 x1 x5 x6 x8 true))
def unisonlaw03_RowBack.j2 : Nat → List (S25) → List (S25) → Bool → ByteArray → ByteArray → Bool → Option (Bool)
 | 0, _, _, _, _, _, _ => none
 | k + 1, x0, x1, x5, x6, x8, x63 => if x63 = true then (some x5) else ((row_Decode.f k x6).bind fun bt322 => ((unisonlaw03_same.f k bt322.1 x0).bind fun t326 => ((unisonlaw03_same.f k x0 x1).bind fun t327 => ((row_Size.f k x0).bind fun bt328 => (if (x6.size : Int) ≤ (x8.size : Int) then (if 0 ≤ (x6.size : Int) then (unisonlaw03_RowBack.j3 k x5 x6 bt322.2 t326 t327 bt328.1 bt328.2 ((x8.extract 0 ((x6.size : Int) : Int).toNat).toList == x6.toList)) else (none)) else (unisonlaw03_RowBack.j3 k x5 x6 bt322.2 t326 t327 bt328.1 bt328.2 false))))))
def unisonlaw03_RowBack.j3 : Nat → Bool → ByteArray → Int → Bool → Bool → Int → Int → Bool → Option (Bool)
 | 0, _, _, _, _, _, _, _, _ => none
 | k + 1, x5, x6, x15, x16, x17, x18, x19, x20 => if x5 = true then (if x16 = true then (if x15 = 0 then (if (x20 == x17) = true then (if x18 = (x6.size : Int) then (some (x19 == 0)) else (none)) else (none)) else (none)) else (none)) else (none)
end
def unisonlaw03_RowBack.f (k : Nat) (l0 : List (S25)) (l1 : List (S25)) : Option (Bool) := if (l0.length : Int) > 2147483647 then (unisonlaw03_RowBack.j0 k l0 l1 true) else (unisonlaw03_RowBack.j0 k l0 l1 (decide ((l1.length : Int) > 2147483647)))
theorem unisonlaw03_RowBack.mono_l : ∀ k, (∀ y0 y1 y2, LeO (unisonlaw03_RowBack.j0 k y0 y1 y2) (unisonlaw03_RowBack.j0 (k + 1) y0 y1 y2)) ∧ (∀ y0 y1 y2 y3 y4 y5 y6 y7, LeO (unisonlaw03_RowBack.j1 k y0 y1 y2 y3 y4 y5 y6 y7) (unisonlaw03_RowBack.j1 (k + 1) y0 y1 y2 y3 y4 y5 y6 y7)) ∧ (∀ y0 y1 y2 y3 y4 y5, LeO (unisonlaw03_RowBack.j2 k y0 y1 y2 y3 y4 y5) (unisonlaw03_RowBack.j2 (k + 1) y0 y1 y2 y3 y4 y5)) ∧ (∀ y0 y1 y2 y3 y4 y5 y6 y7, LeO (unisonlaw03_RowBack.j3 k y0 y1 y2 y3 y4 y5 y6 y7) (unisonlaw03_RowBack.j3 (k + 1) y0 y1 y2 y3 y4 y5 y6 y7))
 | 0 => ⟨fun _ _ _ r h => by simp [unisonlaw03_RowBack.j0] at h, fun _ _ _ _ _ _ _ _ r h => by simp [unisonlaw03_RowBack.j1] at h, fun _ _ _ _ _ _ r h => by simp [unisonlaw03_RowBack.j2] at h, fun _ _ _ _ _ _ _ _ r h => by simp [unisonlaw03_RowBack.j3] at h⟩
 | k + 1 => by
  obtain ⟨ih0, ih1, ih2, ih3⟩ := unisonlaw03_RowBack.mono_l k
  refine ⟨?_, ?_, ?_, ?_⟩
  ·
   intro y0 y1 y2
   unfold unisonlaw03_RowBack.j0
   repeat' first
   | (with_reducible exact ih0 _ _ _)
   | (with_reducible exact ih1 _ _ _ _ _ _ _ _)
   | (with_reducible exact ih2 _ _ _ _ _ _)
   | (with_reducible exact ih3 _ _ _ _ _ _ _ _)
   | (with_reducible exact row_Decode.mono _ _)
   | (with_reducible exact row_Encode.mono _ _)
   | (with_reducible exact row_Size.mono _ _)
   | (with_reducible exact unisonlaw03_awake.mono _)
   | (with_reducible exact unisonlaw03_same.mono _ _ _)
   | (with_reducible exact unisonref03_Encode.mono _ _)
   | (with_reducible exact LeO.refl _)
   | (with_reducible exact LeO.none _)
   | (with_reducible refine LeO.ite ?_ ?_)
   | (with_reducible refine LeO.bind ?_ (fun _ => ?_))
   | exact ih0 _ _ _
   | exact ih1 _ _ _ _ _ _ _ _
   | exact ih2 _ _ _ _ _ _
   | exact ih3 _ _ _ _ _ _ _ _
   | exact row_Decode.mono _ _
   | exact row_Encode.mono _ _
   | exact row_Size.mono _ _
   | exact unisonlaw03_awake.mono _
   | exact unisonlaw03_same.mono _ _ _
   | exact unisonref03_Encode.mono _ _
   | exact LeO.none _
   | refine LeO.ite ?_ ?_
   | refine LeO.bind ?_ (fun _ => ?_)
  ·
   intro y0 y1 y2 y3 y4 y5 y6 y7
   unfold unisonlaw03_RowBack.j1
   repeat' first
   | (with_reducible exact ih0 _ _ _)
   | (with_reducible exact ih1 _ _ _ _ _ _ _ _)
   | (with_reducible exact ih2 _ _ _ _ _ _)
   | (with_reducible exact ih3 _ _ _ _ _ _ _ _)
   | (with_reducible exact row_Decode.mono _ _)
   | (with_reducible exact row_Encode.mono _ _)
   | (with_reducible exact row_Size.mono _ _)
   | (with_reducible exact unisonlaw03_awake.mono _)
   | (with_reducible exact unisonlaw03_same.mono _ _ _)
   | (with_reducible exact unisonref03_Encode.mono _ _)
   | (with_reducible exact LeO.refl _)
   | (with_reducible exact LeO.none _)
   | (with_reducible refine LeO.ite ?_ ?_)
   | (with_reducible refine LeO.bind ?_ (fun _ => ?_))
   | exact ih0 _ _ _
   | exact ih1 _ _ _ _ _ _ _ _
   | exact ih2 _ _ _ _ _ _
   | exact ih3 _ _ _ _ _ _ _ _
   | exact row_Decode.mono _ _
   | exact row_Encode.mono _ _
   | exact row_Size.mono _ _
   | exact unisonlaw03_awake.mono _
   | exact unisonlaw03_same.mono _ _ _
   | exact unisonref03_Encode.mono _ _
   | exact LeO.none _
   | refine LeO.ite ?_ ?_
   | refine LeO.bind ?_ (fun _ => ?_)
  ·
   intro y0 y1 y2 y3 y4 y5
   unfold unisonlaw03_RowBack.j2
   repeat' first
   | (with_reducible exact ih0 _ _ _)
   | (with_reducible exact ih1 _ _ _ _ _ _ _ _)
   | (with_reducible exact ih2 _ _ _ _ _ _)
   | (with_reducible exact ih3 _ _ _ _ _ _ _ _)
   | (with_reducible exact row_Decode.mono _ _)
   | (with_reducible exact row_Encode.mono _ _)
   | (with_reducible exact row_Size.mono _ _)
   | (with_reducible exact unisonlaw03_awake.mono _)
   | (with_reducible exact unisonlaw03_same.mono _ _ _)
   | (with_reducible exact unisonref03_Encode.mono _ _)
   | (with_reducible exact LeO.refl _)
   | (with_reducible exact LeO.none _)
   | (with_reducible refine LeO.ite ?_ ?_)
   | (with_reducible refine LeO.bind ?_ (fun _ => ?_))
   | exact ih0 _ _ _
   | exact ih1 _ _ _ _ _ _ _ _
   | exact ih2 _ _ _ _ _ _
   | exact ih3 _ _ _ _ _ _ _ _
   | exact row_Decode.mono _ _
   | exact row_Encode.mono _ _
   | exact row_Size.mono _ _
   | exact unisonlaw03_awake.mono _
   | exact unisonlaw03_same.mono _ _ _
   | exact unisonref03_Encode.mono _ _
   | exact LeO.none _
   | refine LeO.ite ?_ ?_
   | refine LeO.bind ?_ (fun _ => ?_)
  ·
   intro y0 y1 y2 y3 y4 y5 y6 y7
   unfold unisonlaw03_RowBack.j3
   repeat' first
   | (with_reducible exact ih0 _ _ _)
   | (with_reducible exact ih1 _ _ _ _ _ _ _ _)
   | (with_reducible exact ih2 _ _ _ _ _ _)
   | (with_reducible exact ih3 _ _ _ _ _ _ _ _)
   | (with_reducible exact row_Decode.mono _ _)
   | (with_reducible exact row_Encode.mono _ _)
   | (with_reducible exact row_Size.mono _ _)
   | (with_reducible exact unisonlaw03_awake.mono _)
   | (with_reducible exact unisonlaw03_same.mono _ _ _)
   | (with_reducible exact unisonref03_Encode.mono _ _)
   | (with_reducible exact LeO.refl _)
   | (with_reducible exact LeO.none _)
   | (with_reducible refine LeO.ite ?_ ?_)
   | (with_reducible refine LeO.bind ?_ (fun _ => ?_))
   | exact ih0 _ _ _
   | exact ih1 _ _ _ _ _ _ _ _
   | exact ih2 _ _ _ _ _ _
   | exact ih3 _ _ _ _ _ _ _ _
   | exact row_Decode.mono _ _
   | exact row_Encode.mono _ _
   | exact row_Size.mono _ _
   | exact unisonlaw03_awake.mono _
   | exact unisonlaw03_same.mono _ _ _
   | exact unisonref03_Encode.mono _ _
   | exact LeO.none _
   | refine LeO.ite ?_ ?_
   | refine LeO.bind ?_ (fun _ => ?_)
theorem unisonlaw03_RowBack.mono : ∀ a0 a1 k, LeO (unisonlaw03_RowBack.f k a0 a1) (unisonlaw03_RowBack.f (k + 1) a0 a1) := by
 intro a0 a1 k
 obtain ⟨ih0, ih1, ih2, ih3⟩ := unisonlaw03_RowBack.mono_l k
 unfold unisonlaw03_RowBack.f
 repeat' first
   | (with_reducible exact ih0 _ _ _)
   | (with_reducible exact ih1 _ _ _ _ _ _ _ _)
   | (with_reducible exact ih2 _ _ _ _ _ _)
   | (with_reducible exact ih3 _ _ _ _ _ _ _ _)
   | (with_reducible exact row_Decode.mono _ _)
   | (with_reducible exact row_Encode.mono _ _)
   | (with_reducible exact row_Size.mono _ _)
   | (with_reducible exact unisonlaw03_awake.mono _)
   | (with_reducible exact unisonlaw03_same.mono _ _ _)
   | (with_reducible exact unisonref03_Encode.mono _ _)
   | (with_reducible exact LeO.refl _)
   | (with_reducible exact LeO.none _)
   | (with_reducible refine LeO.ite ?_ ?_)
   | (with_reducible refine LeO.bind ?_ (fun _ => ?_))
   | exact ih0 _ _ _
   | exact ih1 _ _ _ _ _ _ _ _
   | exact ih2 _ _ _ _ _ _
   | exact ih3 _ _ _ _ _ _ _ _
   | exact row_Decode.mono _ _
   | exact row_Encode.mono _ _
   | exact row_Size.mono _ _
   | exact unisonlaw03_awake.mono _
   | exact unisonlaw03_same.mono _ _ _
   | exact unisonref03_Encode.mono _ _
   | exact LeO.none _
   | refine LeO.ite ?_ ?_
   | refine LeO.bind ?_ (fun _ => ?_)
set_option maxHeartbeats 8000000 in
set_option maxRecDepth 100000 in
theorem unisonlaw03_RowBack.calls (k : Nat) (A0 : Option Addr) (c0 : Nat) (l0 : List (S25)) (A1 : Option Addr) (c1 : Nat) (l1 : List (S25)) (r : Bool) (w : World) (hr0 : Kd.C k25 w A0 l0.length l0) (hc0 : l0.length ≤ c0) (hr1 : Kd.C k25 w A1 l1.length l1) (hc1 : l1.length ≤ c1) (h : unisonlaw03_RowBack.f k l0 l1 = some r) :
  Calls Try.prog 5 #[.slice A0 l0.length c0, .slice A1 l1.length c1] w fun e w' => e = .returned (.bool r) ∧ Below w.heap.size w w' := by
 have HR0 := Aside0.mk hr0
 have HC0 := Aside0.mk hc0
 clear hr0 hc0
 have HR1 := Aside0.mk hr1
 have HC1 := Aside0.mk hc1
 clear hr1 hc1
 have HB := Aside0.mk (Below.refl w.heap.size w)
 have H : (if (l0.length : Int) > 2147483647 then (unisonlaw03_RowBack.j0 k l0 l1 true) else (unisonlaw03_RowBack.j0 k l0 l1 (decide ((l1.length : Int) > 2147483647)))) = some r := h
 clear h
 have HC3 := Aside0.mk H
 clear H
 go_enter Try.func5, Try.ntmps5
 go_upto_region 1 with (fail)
 go_cut [28] (fun v28 wc => ∃ (kq : Nat) (x28_2 : Bool), v28 = .bool x28_2 ∧ Aside0 (unisonlaw03_RowBack.j0 kq l0 l1 x28_2 = some r) ∧ Aside0 (kq ≤ k) ∧ Aside0 (Below w.heap.size w wc))
 case first =>
  have H := HC3.out
  clear HC3
  by_cases c4 : (l0.length : Int) > 2147483647
  ·
   rw [if_pos c4] at H
   have c4b0 : decide (2147483647 < (l0.length : Int)) = true := decide_eq_true c4
   have c4b1 : decide (2147483647 < l0.length) = true := decide_eq_true (by omega)
   clear c4
   (first | rw [c4b0] | (simp only [i64_w, i32_w, u8_w, u32_w]; rw [c4b0]) | rw [c4b1] | skip)
   have H' := Aside0.mk H
   clear H
   go_wp2
   go_meet
   case rel => exact ⟨_, (true), (by first | rfl | (simp; done) | (simp [*]; done)), H', ⟨by first | omega | exact Nat.le_refl _⟩, ⟨by repeat (first | (with_reducible first | exact HB.out | apply below_alloc | apply pw_below_drewN | apply below_drew1) | exact HB.out)⟩⟩
  ·
   rw [if_neg c4] at H
   have c4b0 : decide (2147483647 < (l0.length : Int)) = false := decide_eq_false c4
   have c4b1 : decide (2147483647 < l0.length) = false := decide_eq_false (by omega)
   clear c4
   (first | rw [c4b0] | (simp only [i64_w, i32_w, u8_w, u32_w]; rw [c4b0]) | rw [c4b1] | skip)
   have H' := Aside0.mk H
   clear H
   go_wp2
   go_meet
   case rel => exact ⟨_, (decide ((l1.length : Int) > 2147483647)), (by first | rfl | (simp; done) | (simp [*]; done)), H', ⟨by first | omega | exact Nat.le_refl _⟩, ⟨by repeat (first | (with_reducible first | exact HB.out | apply below_alloc | apply pw_below_drewN | apply below_drew1) | exact HB.out)⟩⟩
 case rest =>
  clear HC3
  try clear c1
  try clear p2
  try clear c4
  try clear c4b0
  try clear c4b1
  obtain ⟨kq, x28_2, rfl, HA, HJ2, HB⟩ := hcut
  cases kq with
  | zero => exact absurd HA.out (by simp [unisonlaw03_RowBack.j0])
  | succ kj2 =>
   have H := HA.out
   clear HA
   simp only [unisonlaw03_RowBack.j0] at H
   by_cases c5 : x28_2 = true
   ·
    subst c5
    have H1 : (some true) = some r := by rw [if_pos rfl] at H; exact H
    clear H
    have H := H1
    clear H1
    obtain rfl := Option.some.inj H
    go_wp2
    go_ret
    exact ⟨by first | rfl | (simp [errW_none, errW_some] <;> rfl) | (simp [*, errW_none, errW_some] <;> rfl), by repeat (first | (with_reducible first | exact HB.out | apply below_alloc | apply pw_below_drewN | apply below_drew1) | exact HB.out)⟩
   ·
    replace c5 := Bool.eq_false_iff.mpr c5
    subst c5
    have H1 : ((unisonlaw03_awake.f kj2).bind fun t313 => ((row_Encode.f kj2 l0).bind fun bt314 => ((row_Encode.f kj2 l1).bind fun bt316 => ((unisonref03_Encode.f kj2 l0).bind fun bt318 => ((unisonref03_Encode.f kj2 l1).bind fun bt320 => (if bt314.2 = bt318.2 then (unisonlaw03_RowBack.j1 kj2 l0 l1 t313 bt314.1 bt314.2 bt316.1 bt316.2 (bt316.2 != bt320.2)) else (unisonlaw03_RowBack.j1 kj2 l0 l1 t313 bt314.1 bt314.2 bt316.1 bt316.2 true))))))) = some r := by rw [if_neg (show ¬ (false = true) by decide)] at H; exact H
    clear H
    have H := H1
    clear H1
    replace H := Option.bind_eq_some_iff.mp H
    obtain ⟨t313, A60, H⟩ := H
    replace H : ((row_Encode.f kj2 l0).bind fun bt314 => ((row_Encode.f kj2 l1).bind fun bt316 => ((unisonref03_Encode.f kj2 l0).bind fun bt318 => ((unisonref03_Encode.f kj2 l1).bind fun bt320 => (if bt314.2 = bt318.2 then (unisonlaw03_RowBack.j1 kj2 l0 l1 t313 bt314.1 bt314.2 bt316.1 bt316.2 (bt316.2 != bt320.2)) else (unisonlaw03_RowBack.j1 kj2 l0 l1 t313 bt314.1 bt314.2 bt316.1 bt316.2 true)))))) = some r := H
    have A6 := Aside0.mk A60
    clear A60
    replace H := Option.bind_eq_some_iff.mp H
    obtain ⟨⟨t314, t315⟩, A70, H⟩ := H
    replace H : ((row_Encode.f kj2 l1).bind fun bt316 => ((unisonref03_Encode.f kj2 l0).bind fun bt318 => ((unisonref03_Encode.f kj2 l1).bind fun bt320 => (if t315 = bt318.2 then (unisonlaw03_RowBack.j1 kj2 l0 l1 t313 t314 t315 bt316.1 bt316.2 (bt316.2 != bt320.2)) else (unisonlaw03_RowBack.j1 kj2 l0 l1 t313 t314 t315 bt316.1 bt316.2 true))))) = some r := H
    have A7 := Aside0.mk A70
    clear A70
    replace H := Option.bind_eq_some_iff.mp H
    obtain ⟨⟨t316, t317⟩, A80, H⟩ := H
    replace H : ((unisonref03_Encode.f kj2 l0).bind fun bt318 => ((unisonref03_Encode.f kj2 l1).bind fun bt320 => (if t315 = bt318.2 then (unisonlaw03_RowBack.j1 kj2 l0 l1 t313 t314 t315 t316 t317 (t317 != bt320.2)) else (unisonlaw03_RowBack.j1 kj2 l0 l1 t313 t314 t315 t316 t317 true)))) = some r := H
    have A8 := Aside0.mk A80
    clear A80
    replace H := Option.bind_eq_some_iff.mp H
    obtain ⟨⟨t318, t319⟩, A90, H⟩ := H
    replace H : ((unisonref03_Encode.f kj2 l1).bind fun bt320 => (if t315 = t319 then (unisonlaw03_RowBack.j1 kj2 l0 l1 t313 t314 t315 t316 t317 (t317 != bt320.2)) else (unisonlaw03_RowBack.j1 kj2 l0 l1 t313 t314 t315 t316 t317 true))) = some r := H
    have A9 := Aside0.mk A90
    clear A90
    replace H := Option.bind_eq_some_iff.mp H
    obtain ⟨⟨t320, t321⟩, A100, H⟩ := H
    replace H : (if t315 = t319 then (unisonlaw03_RowBack.j1 kj2 l0 l1 t313 t314 t315 t316 t317 (t317 != t321)) else (unisonlaw03_RowBack.j1 kj2 l0 l1 t313 t314 t315 t316 t317 true)) = some r := H
    have A10 := Aside0.mk A100
    clear A100
    have HC11 := Aside0.mk H
    clear H
    go_upto_region 8 with (first | ((with_reducible refine gate_callee (f := 6) rfl ?_); refine goesL_ (some 29) rfl rfl Try.func6 (by kernel_rfl) rfl #[] rfl (by (try simp only [List.map_toArray, List.map_cons, List.map_nil]); first | done | rfl | (simp only [List.length_drop, List.length_take]; rfl)) ?_; (with_reducible refine (unisonlaw03_awake.calls kj2  t313 _ A6.out).mono ?_); rintro e w12 ⟨rfl, hb⟩; refine ⟨_, rfl, ?_⟩; have n0_ := Aside0.mk (below_step (by repeat (first | (with_reducible first | exact HB.out | apply below_alloc | apply pw_below_drewN | apply below_drew1) | exact HB.out)) hb); clear HB; have HB := n0_; clear n0_; (try clear hb); (try clear hb2); (try clear hk); (try clear hi)) | ((with_reducible refine gate_callee (f := 8) rfl ?_); refine goesL_ (some 32) rfl rfl Try.func8 (by kernel_rfl) rfl #[.slice A0 l0.length c0] rfl (by (try simp only [List.map_toArray, List.map_cons, List.map_nil]); first | done | rfl | (simp only [List.length_drop, List.length_take]; rfl)) ?_; (with_reducible refine (row_Encode.calls kj2 _ _ l0 t314 t315 _ ?side1 ?side2 A7.out).mono ?_); (case side1 => repeat (first | exact (Kd.C_below HR0.out HB.out) | (with_reducible refine Kd.C_alloc ?_ _) | (with_reducible refine Kd.C_drewN ?_ _) | (with_reducible refine Kd.C_drew ?_))); (case side2 => exact HC0.out); rintro e w13 ⟨rfl, hb⟩; refine ⟨_, rfl, ?_⟩; have n0_ := Aside0.mk (below_step (by repeat (first | (with_reducible first | exact HB.out | apply below_alloc | apply pw_below_drewN | apply below_drew1) | exact HB.out)) hb); clear HB; have HB := n0_; clear n0_; (try clear hb); (try clear hb2); (try clear hk); (try clear hi)) | ((with_reducible refine gate_callee (f := 8) rfl ?_); refine goesL_ (some 37) rfl rfl Try.func8 (by kernel_rfl) rfl #[.slice A1 l1.length c1] rfl (by (try simp only [List.map_toArray, List.map_cons, List.map_nil]); first | done | rfl | (simp only [List.length_drop, List.length_take]; rfl)) ?_; (with_reducible refine (row_Encode.calls kj2 _ _ l1 t316 t317 _ ?side1 ?side2 A8.out).mono ?_); (case side1 => repeat (first | exact (Kd.C_below HR1.out HB.out) | (with_reducible refine Kd.C_alloc ?_ _) | (with_reducible refine Kd.C_drewN ?_ _) | (with_reducible refine Kd.C_drew ?_))); (case side2 => exact HC1.out); rintro e w14 ⟨rfl, hb⟩; refine ⟨_, rfl, ?_⟩; have n0_ := Aside0.mk (below_step (by repeat (first | (with_reducible first | exact HB.out | apply below_alloc | apply pw_below_drewN | apply below_drew1) | exact HB.out)) hb); clear HB; have HB := n0_; clear n0_; (try clear hb); (try clear hb2); (try clear hk); (try clear hi)) | ((with_reducible refine gate_callee (f := 9) rfl ?_); refine goesL_ (some 42) rfl rfl Try.func9 (by kernel_rfl) rfl #[.slice A0 l0.length c0] rfl (by (try simp only [List.map_toArray, List.map_cons, List.map_nil]); first | done | rfl | (simp only [List.length_drop, List.length_take]; rfl)) ?_; (with_reducible refine (unisonref03_Encode.calls kj2 _ _ l0 t318 t319 _ ?side1 ?side2 A9.out).mono ?_); (case side1 => repeat (first | exact (Kd.C_below HR0.out HB.out) | (with_reducible refine Kd.C_alloc ?_ _) | (with_reducible refine Kd.C_drewN ?_ _) | (with_reducible refine Kd.C_drew ?_))); (case side2 => exact HC0.out); rintro e w15 ⟨rfl, hb⟩; refine ⟨_, rfl, ?_⟩; have n0_ := Aside0.mk (below_step (by repeat (first | (with_reducible first | exact HB.out | apply below_alloc | apply pw_below_drewN | apply below_drew1) | exact HB.out)) hb); clear HB; have HB := n0_; clear n0_; (try clear hb); (try clear hb2); (try clear hk); (try clear hi)) | ((with_reducible refine gate_callee (f := 9) rfl ?_); refine goesL_ (some 47) rfl rfl Try.func9 (by kernel_rfl) rfl #[.slice A1 l1.length c1] rfl (by (try simp only [List.map_toArray, List.map_cons, List.map_nil]); first | done | rfl | (simp only [List.length_drop, List.length_take]; rfl)) ?_; (with_reducible refine (unisonref03_Encode.calls kj2 _ _ l1 t320 t321 _ ?side1 ?side2 A10.out).mono ?_); (case side1 => repeat (first | exact (Kd.C_below HR1.out HB.out) | (with_reducible refine Kd.C_alloc ?_ _) | (with_reducible refine Kd.C_drewN ?_ _) | (with_reducible refine Kd.C_drew ?_))); (case side2 => exact HC1.out); rintro e w16 ⟨rfl, hb⟩; refine ⟨_, rfl, ?_⟩; have n0_ := Aside0.mk (below_step (by repeat (first | (with_reducible first | exact HB.out | apply below_alloc | apply pw_below_drewN | apply below_drew1) | exact HB.out)) hb); clear HB; have HB := n0_; clear n0_; (try clear hb); (try clear hb2); (try clear hk); (try clear hi)))
    (try simp only [Act.put, List.setIfInBounds_toArray, List.set_cons_zero, List.set_cons_succ])
    go_cut [57] (fun v57 wc => ∃ (kq : Nat) (x57_10 : Bool), v57 = .bool x57_10 ∧ Aside0 (unisonlaw03_RowBack.j1 kq l0 l1 t313 t314 t315 t316 t317 x57_10 = some r) ∧ Aside0 (kq ≤ kj2) ∧ Aside0 (Below w.heap.size w wc))
    case first =>
     have H := HC11.out
     clear HC11
     by_cases c17 : t315 = t319
     ·
      rw [if_pos c17] at H
      have c17b0 : (t315 == t319) = true := beq_iff_eq.mpr c17
      have c17b1 : (t315 != t319) = false := bne_eq_false_iff_eq.mpr c17
      clear c17
      (first | rw [c17b0] | (simp only [i64_w, i32_w, u8_w, u32_w]; rw [c17b0]) | rw [c17b1] | skip)
      have H' := Aside0.mk H
      clear H
      go_wp2
      go_meet
      case rel => exact ⟨_, ((t317 != t321)), (by first | rfl | (simp; done) | (simp [*]; done)), H', ⟨by have := HJ2.out; first | omega | exact Nat.le_refl _⟩, ⟨by repeat (first | (with_reducible first | exact HB.out | apply below_alloc | apply pw_below_drewN | apply below_drew1) | exact HB.out)⟩⟩
     ·
      rw [if_neg c17] at H
      have c17b0 : (t315 == t319) = false := beq_eq_false_iff_ne.mpr c17
      have c17b1 : (t315 != t319) = true := bne_iff_ne.mpr c17
      (first | rw [c17b0] | (simp only [i64_w, i32_w, u8_w, u32_w]; rw [c17b0]) | rw [c17b1] | skip)
      have H' := Aside0.mk H
      clear H
      go_wp2
      go_meet
      case rel => exact ⟨_, (true), (by first | rfl | (simp; done) | (simp [*]; done)), H', ⟨by have := HJ2.out; first | omega | exact Nat.le_refl _⟩, ⟨by repeat (first | (with_reducible first | exact HB.out | apply below_alloc | apply pw_below_drewN | apply below_drew1) | exact HB.out)⟩⟩
    case rest =>
     clear HC11
     try clear c1
     try clear p2
     try clear c4
     try clear c4b0
     try clear c4b1
     try clear c5
     try clear c6
     try clear c8
     try clear c9
     try clear c17
     try clear c17b0
     try clear c17b1
     try clear p2
     obtain ⟨kq, x57_10, rfl, HA, HJ10, HB⟩ := hcut
     cases kq with
     | zero => exact absurd HA.out (by simp [unisonlaw03_RowBack.j1])
     | succ kj10 =>
      have H := HA.out
      clear HA
      simp only [unisonlaw03_RowBack.j1] at H
      by_cases c18 : x57_10 = true
      ·
       subst c18
       have H1 : (none) = some r := by rw [if_pos rfl] at H; exact H
       clear H
       have H := H1
       clear H1
       exact absurd H (by simp)
      ·
       replace c18 := Bool.eq_false_iff.mpr c18
       subst c18
       have H1 : (if t315 = 0 then (unisonlaw03_RowBack.j2 kj10 l0 l1 t313 t314 t316 (t317 != 0)) else (unisonlaw03_RowBack.j2 kj10 l0 l1 t313 t314 t316 true)) = some r := by rw [if_neg (show ¬ (false = true) by decide)] at H; exact H
       clear H
       have H := H1
       clear H1
       have HC19 := Aside0.mk H
       clear H
       go_upto_region 10 with (fail)
       go_cut [63] (fun v63 wc => ∃ (kq : Nat) (x63_18 : Bool), v63 = .bool x63_18 ∧ Aside0 (unisonlaw03_RowBack.j2 kq l0 l1 t313 t314 t316 x63_18 = some r) ∧ Aside0 (kq ≤ kj10) ∧ Aside0 (Below w.heap.size w wc))
       case first =>
        have H := HC19.out
        clear HC19
        by_cases c20 : t315 = 0
        ·
         rw [if_pos c20] at H
         have c20b0 : (t315 == 0) = true := beq_iff_eq.mpr c20
         have c20b1 : (t315 != 0) = false := bne_eq_false_iff_eq.mpr c20
         clear c20
         (first | rw [c20b0] | (simp only [i64_w, i32_w, u8_w, u32_w]; rw [c20b0]) | rw [c20b1] | skip)
         have H' := Aside0.mk H
         clear H
         go_wp2
         go_meet
         case rel => exact ⟨_, ((t317 != 0)), (by first | rfl | (simp; done) | (simp [*]; done)), H', ⟨by have := HJ2.out; have := HJ10.out; first | omega | exact Nat.le_refl _⟩, ⟨by repeat (first | (with_reducible first | exact HB.out | apply below_alloc | apply pw_below_drewN | apply below_drew1) | exact HB.out)⟩⟩
        ·
         rw [if_neg c20] at H
         have c20b0 : (t315 == 0) = false := beq_eq_false_iff_ne.mpr c20
         have c20b1 : (t315 != 0) = true := bne_iff_ne.mpr c20
         (first | rw [c20b0] | (simp only [i64_w, i32_w, u8_w, u32_w]; rw [c20b0]) | rw [c20b1] | skip)
         have H' := Aside0.mk H
         clear H
         go_wp2
         go_meet
         case rel => exact ⟨_, (true), (by first | rfl | (simp; done) | (simp [*]; done)), H', ⟨by have := HJ2.out; have := HJ10.out; first | omega | exact Nat.le_refl _⟩, ⟨by repeat (first | (with_reducible first | exact HB.out | apply below_alloc | apply pw_below_drewN | apply below_drew1) | exact HB.out)⟩⟩
       case rest =>
        clear HC19
        try clear c1
        try clear c2
        try clear p2
        try clear c4
        try clear c4b0
        try clear c4b1
        try clear c5
        try clear c6
        try clear c8
        try clear c9
        try clear c17
        try clear c17b0
        try clear c17b1
        try clear c18
        try clear c20
        try clear c20b0
        try clear c20b1
        try clear p2
        obtain ⟨kq, x63_18, rfl, HA, HJ18, HB⟩ := hcut
        cases kq with
        | zero => exact absurd HA.out (by simp [unisonlaw03_RowBack.j2])
        | succ kj18 =>
         have H := HA.out
         clear HA
         simp only [unisonlaw03_RowBack.j2] at H
         by_cases c21 : x63_18 = true
         ·
          subst c21
          have H1 : (some t313) = some r := by rw [if_pos rfl] at H; exact H
          clear H
          have H := H1
          clear H1
          obtain rfl := Option.some.inj H
          go_wp2
          go_ret
          exact ⟨by first | rfl | (simp [errW_none, errW_some] <;> rfl) | (simp [*, errW_none, errW_some] <;> rfl), by repeat (first | (with_reducible first | exact HB.out | apply below_alloc | apply pw_below_drewN | apply below_drew1) | exact HB.out)⟩
         ·
          replace c21 := Bool.eq_false_iff.mpr c21
          subst c21
          have H1 : ((row_Decode.f kj18 t314).bind fun bt322 => ((unisonlaw03_same.f kj18 bt322.1 l0).bind fun t326 => ((unisonlaw03_same.f kj18 l0 l1).bind fun t327 => ((row_Size.f kj18 l0).bind fun bt328 => (if (t314.size : Int) ≤ (t316.size : Int) then (if 0 ≤ (t314.size : Int) then (unisonlaw03_RowBack.j3 kj18 t313 t314 bt322.2 t326 t327 bt328.1 bt328.2 ((t316.extract 0 ((t314.size : Int) : Int).toNat).toList == t314.toList)) else (none)) else (unisonlaw03_RowBack.j3 kj18 t313 t314 bt322.2 t326 t327 bt328.1 bt328.2 false)))))) = some r := by rw [if_neg (show ¬ (false = true) by decide)] at H; exact H
          clear H
          have H := H1
          clear H1
          replace H := Option.bind_eq_some_iff.mp H
          obtain ⟨⟨t322, t323⟩, A220, H⟩ := H
          replace H : ((unisonlaw03_same.f kj18 t322 l0).bind fun t326 => ((unisonlaw03_same.f kj18 l0 l1).bind fun t327 => ((row_Size.f kj18 l0).bind fun bt328 => (if (t314.size : Int) ≤ (t316.size : Int) then (if 0 ≤ (t314.size : Int) then (unisonlaw03_RowBack.j3 kj18 t313 t314 t323 t326 t327 bt328.1 bt328.2 ((t316.extract 0 ((t314.size : Int) : Int).toNat).toList == t314.toList)) else (none)) else (unisonlaw03_RowBack.j3 kj18 t313 t314 t323 t326 t327 bt328.1 bt328.2 false))))) = some r := H
          have A22 := Aside0.mk A220
          clear A220
          replace H := Option.bind_eq_some_iff.mp H
          obtain ⟨t326, A230, H⟩ := H
          replace H : ((unisonlaw03_same.f kj18 l0 l1).bind fun t327 => ((row_Size.f kj18 l0).bind fun bt328 => (if (t314.size : Int) ≤ (t316.size : Int) then (if 0 ≤ (t314.size : Int) then (unisonlaw03_RowBack.j3 kj18 t313 t314 t323 t326 t327 bt328.1 bt328.2 ((t316.extract 0 ((t314.size : Int) : Int).toNat).toList == t314.toList)) else (none)) else (unisonlaw03_RowBack.j3 kj18 t313 t314 t323 t326 t327 bt328.1 bt328.2 false)))) = some r := H
          have A23 := Aside0.mk A230
          clear A230
          replace H := Option.bind_eq_some_iff.mp H
          obtain ⟨t327, A240, H⟩ := H
          replace H : ((row_Size.f kj18 l0).bind fun bt328 => (if (t314.size : Int) ≤ (t316.size : Int) then (if 0 ≤ (t314.size : Int) then (unisonlaw03_RowBack.j3 kj18 t313 t314 t323 t326 t327 bt328.1 bt328.2 ((t316.extract 0 ((t314.size : Int) : Int).toNat).toList == t314.toList)) else (none)) else (unisonlaw03_RowBack.j3 kj18 t313 t314 t323 t326 t327 bt328.1 bt328.2 false))) = some r := H
          have A24 := Aside0.mk A240
          clear A240
          replace H := Option.bind_eq_some_iff.mp H
          obtain ⟨⟨t328, t329⟩, A250, H⟩ := H
          replace H : (if (t314.size : Int) ≤ (t316.size : Int) then (if 0 ≤ (t314.size : Int) then (unisonlaw03_RowBack.j3 kj18 t313 t314 t323 t326 t327 t328 t329 ((t316.extract 0 ((t314.size : Int) : Int).toNat).toList == t314.toList)) else (none)) else (unisonlaw03_RowBack.j3 kj18 t313 t314 t323 t326 t327 t328 t329 false)) = some r := H
          have A25 := Aside0.mk A250
          clear A250
          have HC26 := Aside0.mk H
          clear H
          go_upto_region 16 with (first | ((with_reducible refine gate_callee (f := 13) rfl ?_); refine goesL_ (some 67) rfl rfl Try.func13 (by kernel_rfl) rfl #[.string t314] rfl (by (try simp only [List.map_toArray, List.map_cons, List.map_nil]); first | done | rfl | (simp only [List.length_drop, List.length_take]; rfl)) ?_; (with_reducible refine (row_Decode.calls kj18 t314 t322 t323 _ A22.out).mono ?_); rintro e w27 ⟨v324, rfl, ho0, hb⟩; refine ⟨_, rfl, ?_⟩; have n0_ := Aside0.mk (Kd.R_lower ho0 (below_size (by repeat (first | (with_reducible first | exact HB.out | apply below_alloc | apply pw_below_drewN | apply below_drew1) | exact HB.out)))); have n1_ := Aside0.mk (below_step (by repeat (first | (with_reducible first | exact HB.out | apply below_alloc | apply pw_below_drewN | apply below_drew1) | exact HB.out)) hb); clear HB; have HO325 := n0_; have HB := n1_; clear n0_ n1_; (try clear hb); (try clear hb2); (try clear hk); (try clear hi); (try clear ho0); obtain ⟨Ao28, co28, eo28⟩ := Kd.R_slice HO325.out; subst eo28) | ((with_reducible refine gate_callee (f := 12) rfl ?_); refine goesL_ (some 72) rfl rfl Try.func12 (by kernel_rfl) rfl #[.slice Ao28 t322.length co28, .slice A0 l0.length c0] rfl (by (try simp only [List.map_toArray, List.map_cons, List.map_nil]); first | done | rfl | (simp only [List.length_drop, List.length_take]; rfl)) ?_; (with_reducible refine (unisonlaw03_same.calls kj18 _ _ t322 _ _ l0 t326 _ ?side1 ?side2 ?side3 ?side4 A23.out).mono ?_); (case side1 => repeat (first | exact (Kd.R_reads' HO325.out).2.2 | (with_reducible refine Kd.C_alloc ?_ _) | (with_reducible refine Kd.C_drewN ?_ _) | (with_reducible refine Kd.C_drew ?_))); (case side2 => exact (Kd.R_reads' HO325.out).2.1); (case side3 => repeat (first | exact (Kd.C_below HR0.out HB.out) | (with_reducible refine Kd.C_alloc ?_ _) | (with_reducible refine Kd.C_drewN ?_ _) | (with_reducible refine Kd.C_drew ?_))); (case side4 => exact HC0.out); rintro e w' ⟨rfl, ⟨nd, rfl⟩⟩; refine ⟨_, rfl, ?_⟩) | ((with_reducible refine gate_callee (f := 12) rfl ?_); refine goesL_ (some 75) rfl rfl Try.func12 (by kernel_rfl) rfl #[.slice A0 l0.length c0, .slice A1 l1.length c1] rfl (by (try simp only [List.map_toArray, List.map_cons, List.map_nil]); first | done | rfl | (simp only [List.length_drop, List.length_take]; rfl)) ?_; (with_reducible refine (unisonlaw03_same.calls kj18 _ _ l0 _ _ l1 t327 _ ?side1 ?side2 ?side3 ?side4 A24.out).mono ?_); (case side1 => repeat (first | exact (Kd.C_below HR0.out (by repeat (first | (with_reducible first | exact HB.out | apply below_alloc | apply pw_below_drewN | apply below_drew1) | exact HB.out))) | (with_reducible refine Kd.C_alloc ?_ _) | (with_reducible refine Kd.C_drewN ?_ _) | (with_reducible refine Kd.C_drew ?_))); (case side2 => exact HC0.out); (case side3 => repeat (first | exact (Kd.C_below HR1.out (by repeat (first | (with_reducible first | exact HB.out | apply below_alloc | apply pw_below_drewN | apply below_drew1) | exact HB.out))) | (with_reducible refine Kd.C_alloc ?_ _) | (with_reducible refine Kd.C_drewN ?_ _) | (with_reducible refine Kd.C_drew ?_))); (case side4 => exact HC1.out); rintro e w' ⟨rfl, ⟨nd, rfl⟩⟩; refine ⟨_, rfl, ?_⟩) | ((with_reducible refine gate_callee (f := 10) rfl ?_); refine goesL_ (some 78) rfl rfl Try.func10 (by kernel_rfl) rfl #[.slice A0 l0.length c0] rfl (by (try simp only [List.map_toArray, List.map_cons, List.map_nil]); first | done | rfl | (simp only [List.length_drop, List.length_take]; rfl)) ?_; (with_reducible refine (row_Size.calls kj18 _ _ l0 t328 t329 _ ?side1 ?side2 A25.out).mono ?_); (case side1 => repeat (first | exact (Kd.C_below HR0.out (by repeat (first | (with_reducible first | exact HB.out | apply below_alloc | apply pw_below_drewN | apply below_drew1) | exact HB.out))) | (with_reducible refine Kd.C_alloc ?_ _) | (with_reducible refine Kd.C_drewN ?_ _) | (with_reducible refine Kd.C_drew ?_))); (case side2 => exact HC0.out); rintro e w29 ⟨rfl, hb⟩; refine ⟨_, rfl, ?_⟩; have n0_ := Aside0.mk (Kd.R_below (by (with_reducible repeat (first | apply Kd.R_alloc | apply Kd.R_drewN | apply Kd.R_drew)); exact HO325.out) hb); have n1_ := Aside0.mk (below_step (by repeat (first | (with_reducible first | exact HB.out | apply below_alloc | apply pw_below_drewN | apply below_drew1) | exact HB.out)) hb); clear HO325; clear HB; have HO325 := n0_; have HB := n1_; clear n0_ n1_; (try clear hb); (try clear hb2); (try clear hk); (try clear hi)))
          (try simp only [Act.put, List.setIfInBounds_toArray, List.set_cons_zero, List.set_cons_succ])
          go_cut [20] (fun v20 wc => ∃ (kq : Nat) (x20_25 : Bool), v20 = .bool x20_25 ∧ Aside0 (unisonlaw03_RowBack.j3 kq t313 t314 t323 t326 t327 t328 t329 x20_25 = some r) ∧ Aside0 (kq ≤ kj18) ∧ Aside0 (Below w.heap.size w wc))
          case first =>
           have H := HC26.out
           clear HC26
           by_cases c30 : (t314.size : Int) ≤ (t316.size : Int)
           ·
            rw [if_pos c30] at H
            have c30b0 : decide ((t314.size : Int) ≤ (t316.size : Int)) = true := decide_eq_true c30
            have c30b1 : decide (t314.size ≤ t316.size) = true := decide_eq_true (Int.ofNat_le.mp c30)
            clear c30
            (first | rw [c30b0] | (simp only [i64_w, i32_w, u8_w, u32_w]; rw [c30b0]) | rw [c30b1] | skip)
            by_cases c31 : 0 ≤ (t314.size : Int)
            ·
             rw [if_pos c31] at H
             have c31b0 := eq_true c31
             have c31b1 : decide (0 ≤ (t314.size : Int)) = true := decide_eq_true c31
             clear c31
             have c32b0 := eq_true (of_decide_eq_true (by first | (with_reducible assumption) | assumption) : (t314.size : Int) ≤ (t316.size : Int))
             have H' := Aside0.mk H
             clear H
             go_wp2
             go_meet
             case rel => exact ⟨_, (((t316.extract 0 ((t314.size : Int) : Int).toNat).toList == t314.toList)), (by first | rfl | (simp; done) | (simp [*]; done)), H', ⟨by have := HJ2.out; have := HJ10.out; have := HJ18.out; first | omega | exact Nat.le_refl _⟩, ⟨by repeat (first | (with_reducible first | exact HB.out | apply below_alloc | apply pw_below_drewN | apply below_drew1) | exact HB.out)⟩⟩
            ·
             rw [if_neg c31] at H
             exact absurd H (by simp)
           ·
            rw [if_neg c30] at H
            have c30b0 : decide ((t314.size : Int) ≤ (t316.size : Int)) = false := decide_eq_false c30
            have c30b1 : decide (t314.size ≤ t316.size) = false := decide_eq_false (fun h => c30 (Int.ofNat_le.mpr h))
            clear c30
            (first | rw [c30b0] | (simp only [i64_w, i32_w, u8_w, u32_w]; rw [c30b0]) | rw [c30b1] | skip)
            have H' := Aside0.mk H
            clear H
            go_wp2
            go_meet
            case rel => exact ⟨_, (false), (by first | rfl | (simp; done) | (simp [*]; done)), H', ⟨by have := HJ2.out; have := HJ10.out; have := HJ18.out; first | omega | exact Nat.le_refl _⟩, ⟨by repeat (first | (with_reducible first | exact HB.out | apply below_alloc | apply pw_below_drewN | apply below_drew1) | exact HB.out)⟩⟩
          case rest =>
           clear HC26
           try clear c1
           try clear c2
           try clear p2
           try clear c3
           try clear c4
           try clear c4b0
           try clear c4b1
           try clear c5
           try clear c6
           try clear c8
           try clear c9
           try clear c10
           try clear c12
           try clear c13
           try clear c17
           try clear c17b0
           try clear c17b1
           try clear c18
           try clear c20
           try clear c20b0
           try clear c20b1
           try clear c21
           try clear c30
           try clear c30b0
           try clear c30b1
           try clear c31
           try clear c31b0
           try clear c31b1
           try clear c32
           try clear c32b0
           try clear p2
           obtain ⟨kq, x20_25, rfl, HA, HJ25, HB⟩ := hcut
           cases kq with
           | zero => exact absurd HA.out (by simp [unisonlaw03_RowBack.j3])
           | succ kj25 =>
            have H := HA.out
            clear HA
            simp only [unisonlaw03_RowBack.j3] at H
            by_cases c33 : t313 = true
            ·
             subst c33
             have H1 : (if t326 = true then (if t323 = 0 then (if (x20_25 == t327) = true then (if t328 = (t314.size : Int) then (some (t329 == 0)) else (none)) else (none)) else (none)) else (none)) = some r := by rw [if_pos rfl] at H; exact H
             clear H
             have H := H1
             clear H1
             by_cases c34 : t326 = true
             ·
              subst c34
              have H1 : (if t323 = 0 then (if (x20_25 == t327) = true then (if t328 = (t314.size : Int) then (some (t329 == 0)) else (none)) else (none)) else (none)) = some r := by rw [if_pos rfl] at H; exact H
              clear H
              have H := H1
              clear H1
              by_cases c35 : t323 = 0
              ·
               rw [if_pos c35] at H
               have c35b0 : (t323 == 0) = true := beq_iff_eq.mpr c35
               have c35b1 : (t323 != 0) = false := bne_eq_false_iff_eq.mpr c35
               clear c35
               by_cases c36 : (x20_25 == t327) = true
               ·
                rw [if_pos c36] at H
                have c36b0 : (x20_25 == t327) = true := c36
                (try (have c36b1 : decide (x20_25 = t327) = true := by simpa using c36))
                (try (have c36b2 : (x20_25 == t327) = true := by simpa using c36))
                clear c36
                by_cases c37 : t328 = (t314.size : Int)
                ·
                 rw [if_pos c37] at H
                 have c37b0 : (t328 == (t314.size : Int)) = true := beq_iff_eq.mpr c37
                 have c37b1 : (t328 != (t314.size : Int)) = false := bne_eq_false_iff_eq.mpr c37
                 clear c37
                 obtain rfl := Option.some.inj H
                 go_wp2
                 go_ret
                 exact ⟨by first | rfl | (simp [errW_none, errW_some] <;> rfl) | (simp [*, errW_none, errW_some] <;> rfl), by repeat (first | (with_reducible first | exact HB.out | apply below_alloc | apply pw_below_drewN | apply below_drew1) | exact HB.out)⟩
                ·
                 rw [if_neg c37] at H
                 exact absurd H (by simp)
               ·
                rw [if_neg c36] at H
                exact absurd H (by simp)
              ·
               rw [if_neg c35] at H
               exact absurd H (by simp)
             ·
              replace c34 := Bool.eq_false_iff.mpr c34
              subst c34
              have H1 : (none) = some r := by rw [if_neg (show ¬ (false = true) by decide)] at H; exact H
              clear H
              have H := H1
              clear H1
              exact absurd H (by simp)
            ·
             replace c33 := Bool.eq_false_iff.mpr c33
             subst c33
             have H1 : (none) = some r := by rw [if_neg (show ¬ (false = true) by decide)] at H; exact H
             clear H
             have H := H1
             clear H1
             exact absurd H (by simp)

end Go.Proofs.Ytlgobbofiingnaa.PA
