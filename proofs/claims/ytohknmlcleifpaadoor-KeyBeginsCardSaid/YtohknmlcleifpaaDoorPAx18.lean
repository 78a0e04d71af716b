-- Laid by a program of ours (wip/gen/xprint.py). Not trusted: Lean checks it.
import Derived.Test.YtohknmlcleifpaaDoorPAx0
import Derived.Test.YtohknmlcleifpaaDoorPAx3
import Derived.Test.YtohknmlcleifpaaDoorPAx8
import Derived.Test.YtohknmlcleifpaaDoorPAx10
namespace Go.Proofs.YtohknmlcleifpaaDoor.PA
open Go.RowKit Go.Proofs.YtohknmlcleifpaaDoorW.PrintWords Go.Proofs.YtohknmlcleifpaaDoorW.PrintLast Go.Proofs.YtohknmlcleifpaaDoorW.PrintMore Go.Proofs.YtohknmlcleifpaaDoorX
attribute [local go_sem] max2_int min2_int max_two min_two max_three min_three max_four min_four   -- for this text's walks alone
set_option linter.unusedVariables false
set_option linter.unusedSimpArgs false

/-! ### unisonlaw02_KeyBegins: function 7 -/
mutual
def unisonlaw02_KeyBegins.j0 : Nat → List (S25) → Int → List (S25) → Bool → Option (Bool)
 | 0, _, _, _, _ => none
 | k + 1, x0, x1, x2, x27 => if x27 = true then (some true) else ((unisonlaw02_awake.f k).bind fun t360 => ((key_Encode.f k x0).bind fun bt361 => ((key_Encode.f k x2).bind fun bt363 => ((unisonref02_Encode.f k x0).bind fun bt365 => ((unisonref02_Encode.f k x2).bind fun bt367 => (if bt361.2 = bt365.2 then (unisonlaw02_KeyBegins.j1 k x0 x1 x2 t360 bt361.1 bt361.2 bt363.1 bt363.2 (bt363.2 != bt367.2)) else (unisonlaw02_KeyBegins.j1 k x0 x1 x2 t360 bt361.1 bt361.2 bt363.1 bt363.2 true)))))))
def unisonlaw02_KeyBegins.j1 : Nat → List (S25) → Int → List (S25) → Bool → ByteArray → Int → ByteArray → Int → Bool → Option (Bool)
 | 0, _, _, _, _, _, _, _, _, _ => none
 | k + 1, x0, x1, x2, x7, x8, x9, x10, x11, x56 => if x56 = true then (none) else (if x9 = 0 then (if (wrap64 ((x0.length : Int) + 1)) = 0 then (none) else (if (Int.tmod x1 (wrap64 ((x0.length : Int) + 1))) < 0 then (unisonlaw02_KeyBegins.j2 k x0 x2 x7 x8 x10 x11 (wrap64 ((wrap64 ((Int.tmod x1 (wrap64 ((x0.length : Int) + 1))) + (x0.length : Int))) + 1))) else (unisonlaw02_KeyBegins.j2 k x0 x2 x7 x8 x10 x11 (Int.tmod x1 (wrap64 ((x0.length : Int) + 1)))))) else (some x7))
def unisonlaw02_KeyBegins.j2 : Nat → List (S25) → List (S25) → Bool → ByteArray → ByteArray → Int → Int → Option (Bool)
 | 0, _, _, _, _, _, _, _ => none
 | k + 1, x0, x2, x7, x8, x10, x11, x16 => if 0 ≤ x16 then (if x16 ≤ (x0.length : Int) then ((key_Encode.f k (x0.take (x16 : Int).toNat)).bind fun bt373 => (if bt373.2 = 0 then (if (bt373.1.size : Int) > (x8.size : Int) then (unisonlaw02_KeyBegins.j3 k x0 x2 x7 x8 x10 x11 true) else (if 0 ≤ (bt373.1.size : Int) then (if (bt373.1.size : Int) ≤ (x8.size : Int) then (unisonlaw02_KeyBegins.j3 k x0 x2 x7 x8 x10 x11 ((x8.extract 0 ((bt373.1.size : Int) : Int).toNat).toList != bt373.1.toList)) else (none)) else (none))) else (unisonlaw02_KeyBegins.j3 k x0 x2 x7 x8 x10 x11 true))) else (none)) else (none)
def unisonlaw02_KeyBegins.j3 : Nat → List (S25) → List (S25) → Bool → ByteArray → ByteArray → Int → Bool → Option (Bool)
 | 0, _, _, _, _, _, _, _ => none
 | k + 1, x0, x2, x7, x8, x10, x11, x95 => if x95 = true then (none) else (unisonlaw02_KeyBegins.j4 k x0 x2 x7 x8 x10 x11)
def unisonlaw02_KeyBegins.j4 : Nat → List (S25) → List (S25) → Bool → ByteArray → ByteArray → Int → Option (Bool)
 | 0, _, _, _, _, _, _ => none
 | k + 1, x0, x2, x7, x8, x10, x11 => if x11 = 0 then (if (x2.length : Int) ≤ (x0.length : Int) then (if (x10.size : Int) ≤ (x8.size : Int) then (if 0 ≤ (x10.size : Int) then (if (x8.extract 0 ((x10.size : Int) : Int).toNat).toList = x10.toList then (if 0 ≤ (x2.length : Int) then ((unisonlaw02_same.f k x2 (x0.take ((x2.length : Int) : Int).toNat)).bind fun t379 => (if x7 = true then (some t379) else (none))) else (none)) else (some x7)) else (none)) else (some x7)) else (some x7)) else (some x7)
end
def unisonlaw02_KeyBegins.f (k : Nat) (l0 : List (S25)) (a1 : Int) (l2 : List (S25)) : Option (Bool) := if (l0.length : Int) > 2147483647 then (unisonlaw02_KeyBegins.j0 k l0 a1 l2 true) else (unisonlaw02_KeyBegins.j0 k l0 a1 l2 (decide ((l2.length : Int) > 2147483647)))
theorem unisonlaw02_KeyBegins.mono_l : ∀ k, (∀ y0 y1 y2 y3, LeO (unisonlaw02_KeyBegins.j0 k y0 y1 y2 y3) (unisonlaw02_KeyBegins.j0 (k + 1) y0 y1 y2 y3)) ∧ (∀ y0 y1 y2 y3 y4 y5 y6 y7 y8, LeO (unisonlaw02_KeyBegins.j1 k y0 y1 y2 y3 y4 y5 y6 y7 y8) (unisonlaw02_KeyBegins.j1 (k + 1) y0 y1 y2 y3 y4 y5 y6 y7 y8)) ∧ (∀ y0 y1 y2 y3 y4 y5 y6, LeO (unisonlaw02_KeyBegins.j2 k y0 y1 y2 y3 y4 y5 y6) (unisonlaw02_KeyBegins.j2 (k + 1) y0 y1 y2 y3 y4 y5 y6)) ∧ (∀ y0 y1 y2 y3 y4 y5 y6, LeO (unisonlaw02_KeyBegins.j3 k y0 y1 y2 y3 y4 y5 y6) (unisonlaw02_KeyBegins.j3 (k + 1) y0 y1 y2 y3 y4 y5 y6)) ∧ (∀ y0 y1 y2 y3 y4 y5, LeO (unisonlaw02_KeyBegins.j4 k y0 y1 y2 y3 y4 y5) (unisonlaw02_KeyBegins.j4 (k + 1) y0 y1 y2 y3 y4 y5))
 | 0 => ⟨fun _ _ _ _ r h => by simp [unisonlaw02_KeyBegins.j0] at h, fun _ _ _ _ _ _ _ _ _ r h => by simp [unisonlaw02_KeyBegins.j1] at h, fun _ _ _ _ _ _ _ r h => by simp [unisonlaw02_KeyBegins.j2] at h, fun _ _ _ _ _ _ _ r h => by simp [unisonlaw02_KeyBegins.j3] at h, fun _ _ _ _ _ _ r h => by simp [unisonlaw02_KeyBegins.j4] at h⟩
 | k + 1 => by
  obtain ⟨ih0, ih1, ih2, ih3, ih4⟩ := unisonlaw02_KeyBegins.mono_l k
  refine ⟨?_, ?_, ?_, ?_, ?_⟩
  ·
   intro y0 y1 y2 y3
   unfold unisonlaw02_KeyBegins.j0
   repeat' first
   | (with_reducible exact ih0 _ _ _ _)
   | (with_reducible exact ih1 _ _ _ _ _ _ _ _ _)
   | (with_reducible exact ih2 _ _ _ _ _ _ _)
   | (with_reducible exact ih3 _ _ _ _ _ _ _)
   | (with_reducible exact ih4 _ _ _ _ _ _)
   | (with_reducible exact key_Encode.mono _ _)
   | (with_reducible exact unisonlaw02_awake.mono _)
   | (with_reducible exact unisonlaw02_same.mono _ _ _)
   | (with_reducible exact unisonref02_Encode.mono _ _)
   | (with_reducible exact LeO.refl _)
   | (with_reducible exact LeO.none _)
   | (with_reducible refine LeO.ite ?_ ?_)
   | (with_reducible refine LeO.bind ?_ (fun _ => ?_))
   | exact ih0 _ _ _ _
   | exact ih1 _ _ _ _ _ _ _ _ _
   | exact ih2 _ _ _ _ _ _ _
   | exact ih3 _ _ _ _ _ _ _
   | exact ih4 _ _ _ _ _ _
   | exact key_Encode.mono _ _
   | exact unisonlaw02_awake.mono _
   | exact unisonlaw02_same.mono _ _ _
   | exact unisonref02_Encode.mono _ _
   | exact LeO.none _
   | refine LeO.ite ?_ ?_
   | refine LeO.bind ?_ (fun _ => ?_)
  ·
   intro y0 y1 y2 y3 y4 y5 y6 y7 y8
   unfold unisonlaw02_KeyBegins.j1
   repeat' first
   | (with_reducible exact ih0 _ _ _ _)
   | (with_reducible exact ih1 _ _ _ _ _ _ _ _ _)
   | (with_reducible exact ih2 _ _ _ _ _ _ _)
   | (with_reducible exact ih3 _ _ _ _ _ _ _)
   | (with_reducible exact ih4 _ _ _ _ _ _)
   | (with_reducible exact key_Encode.mono _ _)
   | (with_reducible exact unisonlaw02_awake.mono _)
   | (with_reducible exact unisonlaw02_same.mono _ _ _)
   | (with_reducible exact unisonref02_Encode.mono _ _)
   | (with_reducible exact LeO.refl _)
   | (with_reducible exact LeO.none _)
   | (with_reducible refine LeO.ite ?_ ?_)
   | (with_reducible refine LeO.bind ?_ (fun _ => ?_))
   | exact ih0 _ _ _ _
   | exact ih1 _ _ _ _ _ _ _ _ _
   | exact ih2 _ _ _ _ _ _ _
   | exact ih3 _ _ _ _ _ _ _
   | exact ih4 _ _ _ _ _ _
   | exact key_Encode.mono _ _
   | exact unisonlaw02_awake.mono _
   | exact unisonlaw02_same.mono _ _ _
   | exact unisonref02_Encode.mono _ _
   | exact LeO.none _
   | refine LeO.ite ?_ ?_
   | refine LeO.bind ?_ (fun _ => ?_)
  ·
   intro y0 y1 y2 y3 y4 y5 y6
   unfold unisonlaw02_KeyBegins.j2
   repeat' first
   | (with_reducible exact ih0 _ _ _ _)
   | (with_reducible exact ih1 _ _ _ _ _ _ _ _ _)
   | (with_reducible exact ih2 _ _ _ _ _ _ _)
   | (with_reducible exact ih3 _ _ _ _ _ _ _)
   | (with_reducible exact ih4 _ _ _ _ _ _)
   | (with_reducible exact key_Encode.mono _ _)
   | (with_reducible exact unisonlaw02_awake.mono _)
   | (with_reducible exact unisonlaw02_same.mono _ _ _)
   | (with_reducible exact unisonref02_Encode.mono _ _)
   | (with_reducible exact LeO.refl _)
   | (with_reducible exact LeO.none _)
   | (with_reducible refine LeO.ite ?_ ?_)
   | (with_reducible refine LeO.bind ?_ (fun _ => ?_))
   | exact ih0 _ _ _ _
   | exact ih1 _ _ _ _ _ _ _ _ _
   | exact ih2 _ _ _ _ _ _ _
   | exact ih3 _ _ _ _ _ _ _
   | exact ih4 _ _ _ _ _ _
   | exact key_Encode.mono _ _
   | exact unisonlaw02_awake.mono _
   | exact unisonlaw02_same.mono _ _ _
   | exact unisonref02_Encode.mono _ _
   | exact LeO.none _
   | refine LeO.ite ?_ ?_
   | refine LeO.bind ?_ (fun _ => ?_)
  ·
   intro y0 y1 y2 y3 y4 y5 y6
   unfold unisonlaw02_KeyBegins.j3
   repeat' first
   | (with_reducible exact ih0 _ _ _ _)
   | (with_reducible exact ih1 _ _ _ _ _ _ _ _ _)
   | (with_reducible exact ih2 _ _ _ _ _ _ _)
   | (with_reducible exact ih3 _ _ _ _ _ _ _)
   | (with_reducible exact ih4 _ _ _ _ _ _)
   | (with_reducible exact key_Encode.mono _ _)
   | (with_reducible exact unisonlaw02_awake.mono _)
   | (with_reducible exact unisonlaw02_same.mono _ _ _)
   | (with_reducible exact unisonref02_Encode.mono _ _)
   | (with_reducible exact LeO.refl _)
   | (with_reducible exact LeO.none _)
   | (with_reducible refine LeO.ite ?_ ?_)
   | (with_reducible refine LeO.bind ?_ (fun _ => ?_))
   | exact ih0 _ _ _ _
   | exact ih1 _ _ _ _ _ _ _ _ _
   | exact ih2 _ _ _ _ _ _ _
   | exact ih3 _ _ _ _ _ _ _
   | exact ih4 _ _ _ _ _ _
   | exact key_Encode.mono _ _
   | exact unisonlaw02_awake.mono _
   | exact unisonlaw02_same.mono _ _ _
   | exact unisonref02_Encode.mono _ _
   | exact LeO.none _
   | refine LeO.ite ?_ ?_
   | refine LeO.bind ?_ (fun _ => ?_)
  ·
   intro y0 y1 y2 y3 y4 y5
   unfold unisonlaw02_KeyBegins.j4
   repeat' first
   | (with_reducible exact ih0 _ _ _ _)
   | (with_reducible exact ih1 _ _ _ _ _ _ _ _ _)
   | (with_reducible exact ih2 _ _ _ _ _ _ _)
   | (with_reducible exact ih3 _ _ _ _ _ _ _)
   | (with_reducible exact ih4 _ _ _ _ _ _)
   | (with_reducible exact key_Encode.mono _ _)
   | (with_reducible exact unisonlaw02_awake.mono _)
   | (with_reducible exact unisonlaw02_same.mono _ _ _)
   | (with_reducible exact unisonref02_Encode.mono _ _)
   | (with_reducible exact LeO.refl _)
   | (with_reducible exact LeO.none _)
   | (with_reducible refine LeO.ite ?_ ?_)
   | (with_reducible refine LeO.bind ?_ (fun _ => ?_))
   | exact ih0 _ _ _ _
   | exact ih1 _ _ _ _ _ _ _ _ _
   | exact ih2 _ _ _ _ _ _ _
   | exact ih3 _ _ _ _ _ _ _
   | exact ih4 _ _ _ _ _ _
   | exact key_Encode.mono _ _
   | exact unisonlaw02_awake.mono _
   | exact unisonlaw02_same.mono _ _ _
   | exact unisonref02_Encode.mono _ _
   | exact LeO.none _
   | refine LeO.ite ?_ ?_
   | refine LeO.bind ?_ (fun _ => ?_)
theorem unisonlaw02_KeyBegins.mono : ∀ a0 a1 a2 k, LeO (unisonlaw02_KeyBegins.f k a0 a1 a2) (unisonlaw02_KeyBegins.f (k + 1) a0 a1 a2) := by
 intro a0 a1 a2 k
 obtain ⟨ih0, ih1, ih2, ih3, ih4⟩ := unisonlaw02_KeyBegins.mono_l k
 unfold unisonlaw02_KeyBegins.f
 repeat' first
   | (with_reducible exact ih0 _ _ _ _)
   | (with_reducible exact ih1 _ _ _ _ _ _ _ _ _)
   | (with_reducible exact ih2 _ _ _ _ _ _ _)
   | (with_reducible exact ih3 _ _ _ _ _ _ _)
   | (with_reducible exact ih4 _ _ _ _ _ _)
   | (with_reducible exact key_Encode.mono _ _)
   | (with_reducible exact unisonlaw02_awake.mono _)
   | (with_reducible exact unisonlaw02_same.mono _ _ _)
   | (with_reducible exact unisonref02_Encode.mono _ _)
   | (with_reducible exact LeO.refl _)
   | (with_reducible exact LeO.none _)
   | (with_reducible refine LeO.ite ?_ ?_)
   | (with_reducible refine LeO.bind ?_ (fun _ => ?_))
   | exact ih0 _ _ _ _
   | exact ih1 _ _ _ _ _ _ _ _ _
   | exact ih2 _ _ _ _ _ _ _
   | exact ih3 _ _ _ _ _ _ _
   | exact ih4 _ _ _ _ _ _
   | exact key_Encode.mono _ _
   | exact unisonlaw02_awake.mono _
   | exact unisonlaw02_same.mono _ _ _
   | exact unisonref02_Encode.mono _ _
   | exact LeO.none _
   | refine LeO.ite ?_ ?_
   | refine LeO.bind ?_ (fun _ => ?_)
set_option maxHeartbeats 8000000 in
set_option maxRecDepth 100000 in
theorem unisonlaw02_KeyBegins.calls (k : Nat) (A0 : Option Addr) (c0 : Nat) (l0 : List (S25)) (a1 : Int) (A2 : Option Addr) (c2 : Nat) (l2 : List (S25)) (r : Bool) (w : World) (hr0 : Kd.C k25 w A0 l0.length l0) (hc0 : l0.length ≤ c0) (hr2 : Kd.C k25 w A2 l2.length l2) (hc2 : l2.length ≤ c2) (h : unisonlaw02_KeyBegins.f k l0 a1 l2 = some r) :
  Calls Tryd.prog 7 #[.slice A0 l0.length c0, .int .i64 a1, .slice A2 l2.length c2] w fun e w' => e = .returned (.bool r) ∧ Below w.heap.size w w' := by
 have HR0 := Aside0.mk hr0
 have HC0 := Aside0.mk hc0
 clear hr0 hc0
 have HR2 := Aside0.mk hr2
 have HC2 := Aside0.mk hc2
 clear hr2 hc2
 have HB := Aside0.mk (Below.refl w.heap.size w)
 have H : (if (l0.length : Int) > 2147483647 then (unisonlaw02_KeyBegins.j0 k l0 a1 l2 true) else (unisonlaw02_KeyBegins.j0 k l0 a1 l2 (decide ((l2.length : Int) > 2147483647)))) = some r := h
 clear h
 have HC4 := Aside0.mk H
 clear H
 go_enter Tryd.func7, Tryd.ntmps7
 go_upto_region 1 with (fail)
 go_cut [27] (fun v27 wc => ∃ (kq : Nat) (x27_3 : Bool), v27 = .bool x27_3 ∧ Aside0 (unisonlaw02_KeyBegins.j0 kq l0 a1 l2 x27_3 = some r) ∧ Aside0 (kq ≤ k) ∧ Aside0 (Below w.heap.size w wc))
 case first =>
  have H := HC4.out
  clear HC4
  by_cases c5 : (l0.length : Int) > 2147483647
  ·
   rw [if_pos c5] at H
   have c5b0 : decide (2147483647 < (l0.length : Int)) = true := decide_eq_true c5
   have c5b1 : decide (2147483647 < l0.length) = true := decide_eq_true (by omega)
   clear c5
   (first | rw [c5b0] | (simp only [i64_w, i32_w, u8_w, u32_w]; rw [c5b0]) | rw [c5b1] | skip)
   have H' := Aside0.mk H
   clear H
   go_wp2
   go_meet
   case rel => exact ⟨_, (true), (by first | rfl | (simp; done) | (simp [*]; done)), H', ⟨by first | omega | exact Nat.le_refl _⟩, ⟨by repeat (first | (with_reducible first | exact HB.out | apply below_alloc | apply pw_below_drewN | apply below_drew1) | exact HB.out)⟩⟩
  ·
   rw [if_neg c5] at H
   have c5b0 : decide (2147483647 < (l0.length : Int)) = false := decide_eq_false c5
   have c5b1 : decide (2147483647 < l0.length) = false := decide_eq_false (by omega)
   clear c5
   (first | rw [c5b0] | (simp only [i64_w, i32_w, u8_w, u32_w]; rw [c5b0]) | rw [c5b1] | skip)
   have H' := Aside0.mk H
   clear H
   go_wp2
   go_meet
   case rel => exact ⟨_, (decide ((l2.length : Int) > 2147483647)), (by first | rfl | (simp; done) | (simp [*]; done)), H', ⟨by first | omega | exact Nat.le_refl _⟩, ⟨by repeat (first | (with_reducible first | exact HB.out | apply below_alloc | apply pw_below_drewN | apply below_drew1) | exact HB.out)⟩⟩
 case rest =>
  clear HC4
  try clear c2
  try clear p2
  try clear c5
  try clear c5b0
  try clear c5b1
  obtain ⟨kq, x27_3, rfl, HA, HJ3, HB⟩ := hcut
  cases kq with
  | zero => exact absurd HA.out (by simp [unisonlaw02_KeyBegins.j0])
  | succ kj3 =>
   have H := HA.out
   clear HA
   simp only [unisonlaw02_KeyBegins.j0] at H
   by_cases c6 : x27_3 = true
   ·
    subst c6
    have H1 : (some true) = some r := by (first | rw [if_pos rfl] at H | rw [if_pos True.intro] at H | skip); exact H
    clear H
    have H := H1
    clear H1
    obtain rfl := Option.some.inj H
    go_wp2
    go_ret
    exact ⟨by first | (simp only [ByteArray.size_extract, Nat.min_self]; rfl) | rfl | (simp [errW_none, errW_some] <;> rfl) | (simp [*, errW_none, errW_some] <;> rfl), by repeat (first | (with_reducible first | exact HB.out | apply below_alloc | apply pw_below_drewN | apply below_drew1) | exact HB.out)⟩
   ·
    replace c6 := Bool.eq_false_iff.mpr c6
    subst c6
    have H1 : ((unisonlaw02_awake.f kj3).bind fun t360 => ((key_Encode.f kj3 l0).bind fun bt361 => ((key_Encode.f kj3 l2).bind fun bt363 => ((unisonref02_Encode.f kj3 l0).bind fun bt365 => ((unisonref02_Encode.f kj3 l2).bind fun bt367 => (if bt361.2 = bt365.2 then (unisonlaw02_KeyBegins.j1 kj3 l0 a1 l2 t360 bt361.1 bt361.2 bt363.1 bt363.2 (bt363.2 != bt367.2)) else (unisonlaw02_KeyBegins.j1 kj3 l0 a1 l2 t360 bt361.1 bt361.2 bt363.1 bt363.2 true))))))) = some r := by rw [if_neg (show ¬ (false = true) by decide)] at H; exact H
    clear H
    have H := H1
    clear H1
    replace H := Option.bind_eq_some_iff.mp H
    obtain ⟨t360, A70, H⟩ := H
    replace H : ((key_Encode.f kj3 l0).bind fun bt361 => ((key_Encode.f kj3 l2).bind fun bt363 => ((unisonref02_Encode.f kj3 l0).bind fun bt365 => ((unisonref02_Encode.f kj3 l2).bind fun bt367 => (if bt361.2 = bt365.2 then (unisonlaw02_KeyBegins.j1 kj3 l0 a1 l2 t360 bt361.1 bt361.2 bt363.1 bt363.2 (bt363.2 != bt367.2)) else (unisonlaw02_KeyBegins.j1 kj3 l0 a1 l2 t360 bt361.1 bt361.2 bt363.1 bt363.2 true)))))) = some r := H
    have A7 := Aside0.mk A70
    clear A70
    replace H := Option.bind_eq_some_iff.mp H
    obtain ⟨⟨t361, t362⟩, A80, H⟩ := H
    replace H : ((key_Encode.f kj3 l2).bind fun bt363 => ((unisonref02_Encode.f kj3 l0).bind fun bt365 => ((unisonref02_Encode.f kj3 l2).bind fun bt367 => (if t362 = bt365.2 then (unisonlaw02_KeyBegins.j1 kj3 l0 a1 l2 t360 t361 t362 bt363.1 bt363.2 (bt363.2 != bt367.2)) else (unisonlaw02_KeyBegins.j1 kj3 l0 a1 l2 t360 t361 t362 bt363.1 bt363.2 true))))) = some r := H
    have A8 := Aside0.mk A80
    clear A80
    replace H := Option.bind_eq_some_iff.mp H
    obtain ⟨⟨t363, t364⟩, A90, H⟩ := H
    replace H : ((unisonref02_Encode.f kj3 l0).bind fun bt365 => ((unisonref02_Encode.f kj3 l2).bind fun bt367 => (if t362 = bt365.2 then (unisonlaw02_KeyBegins.j1 kj3 l0 a1 l2 t360 t361 t362 t363 t364 (t364 != bt367.2)) else (unisonlaw02_KeyBegins.j1 kj3 l0 a1 l2 t360 t361 t362 t363 t364 true)))) = some r := H
    have A9 := Aside0.mk A90
    clear A90
    replace H := Option.bind_eq_some_iff.mp H
    obtain ⟨⟨t365, t366⟩, A100, H⟩ := H
    replace H : ((unisonref02_Encode.f kj3 l2).bind fun bt367 => (if t362 = t366 then (unisonlaw02_KeyBegins.j1 kj3 l0 a1 l2 t360 t361 t362 t363 t364 (t364 != bt367.2)) else (unisonlaw02_KeyBegins.j1 kj3 l0 a1 l2 t360 t361 t362 t363 t364 true))) = some r := H
    have A10 := Aside0.mk A100
    clear A100
    replace H := Option.bind_eq_some_iff.mp H
    obtain ⟨⟨t367, t368⟩, A110, H⟩ := H
    replace H : (if t362 = t366 then (unisonlaw02_KeyBegins.j1 kj3 l0 a1 l2 t360 t361 t362 t363 t364 (t364 != t368)) else (unisonlaw02_KeyBegins.j1 kj3 l0 a1 l2 t360 t361 t362 t363 t364 true)) = some r := H
    have A11 := Aside0.mk A110
    clear A110
    have HC12 := Aside0.mk H
    clear H
    go_upto_region 8 with (first | ((with_reducible refine gate_callee (f := 10) rfl ?_); refine goesL_ (some 28) rfl rfl Tryd.func10 (by kernel_rfl) rfl #[] rfl (by (try simp only [List.map_toArray, List.map_cons, List.map_nil]); first | done | rfl | (simp only [List.length_drop, List.length_take]; rfl)) ?_; (with_reducible refine (unisonlaw02_awake.calls kj3  t360 _ A7.out).mono ?_); rintro e w13 ⟨rfl, hb⟩; refine ⟨_, rfl, ?_⟩; have n0_ := Aside0.mk (below_step (by repeat (first | (with_reducible first | exact HB.out | apply below_alloc | apply pw_below_drewN | apply below_drew1) | exact HB.out)) hb); clear HB; have HB := n0_; clear n0_; (try clear hb); (try clear hb2); (try clear hk); (try clear hi)) | ((with_reducible refine gate_callee (f := 12) rfl ?_); refine goesL_ (some 31) rfl rfl Tryd.func12 (by kernel_rfl) rfl #[.slice A0 l0.length c0] rfl (by (try simp only [List.map_toArray, List.map_cons, List.map_nil]); first | done | rfl | (simp only [List.length_drop, List.length_take]; rfl)) ?_; (with_reducible refine (key_Encode.calls kj3 _ _ l0 t361 t362 _ ?side1 ?side2 A8.out).mono ?_); (case side1 => repeat (first | exact (Kd.C_below HR0.out HB.out) | (with_reducible refine Kd.C_alloc ?_ _) | (with_reducible refine Kd.C_drewN ?_ _) | (with_reducible refine Kd.C_drew ?_))); (case side2 => exact HC0.out); rintro e w14 ⟨rfl, hb⟩; refine ⟨_, rfl, ?_⟩; have n0_ := Aside0.mk (below_step (by repeat (first | (with_reducible first | exact HB.out | apply below_alloc | apply pw_below_drewN | apply below_drew1) | exact HB.out)) hb); clear HB; have HB := n0_; clear n0_; (try clear hb); (try clear hb2); (try clear hk); (try clear hi)) | ((with_reducible refine gate_callee (f := 12) rfl ?_); refine goesL_ (some 36) rfl rfl Tryd.func12 (by kernel_rfl) rfl #[.slice A2 l2.length c2] rfl (by (try simp only [List.map_toArray, List.map_cons, List.map_nil]); first | done | rfl | (simp only [List.length_drop, List.length_take]; rfl)) ?_; (with_reducible refine (key_Encode.calls kj3 _ _ l2 t363 t364 _ ?side1 ?side2 A9.out).mono ?_); (case side1 => repeat (first | exact (Kd.C_below HR2.out HB.out) | (with_reducible refine Kd.C_alloc ?_ _) | (with_reducible refine Kd.C_drewN ?_ _) | (with_reducible refine Kd.C_drew ?_))); (case side2 => exact HC2.out); rintro e w15 ⟨rfl, hb⟩; refine ⟨_, rfl, ?_⟩; have n0_ := Aside0.mk (below_step (by repeat (first | (with_reducible first | exact HB.out | apply below_alloc | apply pw_below_drewN | apply below_drew1) | exact HB.out)) hb); clear HB; have HB := n0_; clear n0_; (try clear hb); (try clear hb2); (try clear hk); (try clear hi)) | ((with_reducible refine gate_callee (f := 13) rfl ?_); refine goesL_ (some 41) rfl rfl Tryd.func13 (by kernel_rfl) rfl #[.slice A0 l0.length c0] rfl (by (try simp only [List.map_toArray, List.map_cons, List.map_nil]); first | done | rfl | (simp only [List.length_drop, List.length_take]; rfl)) ?_; (with_reducible refine (unisonref02_Encode.calls kj3 _ _ l0 t365 t366 _ ?side1 ?side2 A10.out).mono ?_); (case side1 => repeat (first | exact (Kd.C_below HR0.out HB.out) | (with_reducible refine Kd.C_alloc ?_ _) | (with_reducible refine Kd.C_drewN ?_ _) | (with_reducible refine Kd.C_drew ?_))); (case side2 => exact HC0.out); rintro e w16 ⟨rfl, hb⟩; refine ⟨_, rfl, ?_⟩; have n0_ := Aside0.mk (below_step (by repeat (first | (with_reducible first | exact HB.out | apply below_alloc | apply pw_below_drewN | apply below_drew1) | exact HB.out)) hb); clear HB; have HB := n0_; clear n0_; (try clear hb); (try clear hb2); (try clear hk); (try clear hi)) | ((with_reducible refine gate_callee (f := 13) rfl ?_); refine goesL_ (some 46) rfl rfl Tryd.func13 (by kernel_rfl) rfl #[.slice A2 l2.length c2] rfl (by (try simp only [List.map_toArray, List.map_cons, List.map_nil]); first | done | rfl | (simp only [List.length_drop, List.length_take]; rfl)) ?_; (with_reducible refine (unisonref02_Encode.calls kj3 _ _ l2 t367 t368 _ ?side1 ?side2 A11.out).mono ?_); (case side1 => repeat (first | exact (Kd.C_below HR2.out HB.out) | (with_reducible refine Kd.C_alloc ?_ _) | (with_reducible refine Kd.C_drewN ?_ _) | (with_reducible refine Kd.C_drew ?_))); (case side2 => exact HC2.out); rintro e w17 ⟨rfl, hb⟩; refine ⟨_, rfl, ?_⟩; have n0_ := Aside0.mk (below_step (by repeat (first | (with_reducible first | exact HB.out | apply below_alloc | apply pw_below_drewN | apply below_drew1) | exact HB.out)) hb); clear HB; have HB := n0_; clear n0_; (try clear hb); (try clear hb2); (try clear hk); (try clear hi)))
    (try simp only [Act.put, List.setIfInBounds_toArray, List.set_cons_zero, List.set_cons_succ])
    go_cut [56] (fun v56 wc => ∃ (kq : Nat) (x56_11 : Bool), v56 = .bool x56_11 ∧ Aside0 (unisonlaw02_KeyBegins.j1 kq l0 a1 l2 t360 t361 t362 t363 t364 x56_11 = some r) ∧ Aside0 (kq ≤ kj3) ∧ Aside0 (Below w.heap.size w wc))
    case first =>
     have H := HC12.out
     clear HC12
     by_cases c18 : t362 = t366
     ·
      rw [if_pos c18] at H
      have c18b0 : (t362 == t366) = true := beq_iff_eq.mpr c18
      have c18b1 : (t362 != t366) = false := bne_eq_false_iff_eq.mpr c18
      clear c18
      (first | rw [c18b0] | (simp only [i64_w, i32_w, u8_w, u32_w]; rw [c18b0]) | rw [c18b1] | skip)
      have H' := Aside0.mk H
      clear H
      go_wp2
      go_meet
      case rel => exact ⟨_, ((t364 != t368)), (by first | rfl | (simp; done) | (simp [*]; done)), H', ⟨by have := HJ3.out; first | omega | exact Nat.le_refl _⟩, ⟨by repeat (first | (with_reducible first | exact HB.out | apply below_alloc | apply pw_below_drewN | apply below_drew1) | exact HB.out)⟩⟩
     ·
      rw [if_neg c18] at H
      have c18b0 : (t362 == t366) = false := beq_eq_false_iff_ne.mpr c18
      have c18b1 : (t362 != t366) = true := bne_iff_ne.mpr c18
      (first | rw [c18b0] | (simp only [i64_w, i32_w, u8_w, u32_w]; rw [c18b0]) | rw [c18b1] | skip)
      have H' := Aside0.mk H
      clear H
      go_wp2
      go_meet
      case rel => exact ⟨_, (true), (by first | rfl | (simp; done) | (simp [*]; done)), H', ⟨by have := HJ3.out; first | omega | exact Nat.le_refl _⟩, ⟨by repeat (first | (with_reducible first | exact HB.out | apply below_alloc | apply pw_below_drewN | apply below_drew1) | exact HB.out)⟩⟩
    case rest =>
     clear HC12
     try clear c1
     try clear c2
     try clear p2
     try clear c5
     try clear c5b0
     try clear c5b1
     try clear c6
     try clear c7
     try clear c10
     try clear c12
     try clear c13
     try clear c18
     try clear c18b0
     try clear c18b1
     try clear p2
     obtain ⟨kq, x56_11, rfl, HA, HJ11, HB⟩ := hcut
     cases kq with
     | zero => exact absurd HA.out (by simp [unisonlaw02_KeyBegins.j1])
     | succ kj11 =>
      have H := HA.out
      clear HA
      simp only [unisonlaw02_KeyBegins.j1] at H
      by_cases c19 : x56_11 = true
      ·
       subst c19
       have H1 : (none) = some r := by (first | rw [if_pos rfl] at H | rw [if_pos True.intro] at H | skip); exact H
       clear H
       have H := H1
       clear H1
       exact absurd H (by simp)
      ·
       replace c19 := Bool.eq_false_iff.mpr c19
       subst c19
       have H1 : (if t362 = 0 then (if (wrap64 ((l0.length : Int) + 1)) = 0 then (none) else (if (Int.tmod a1 (wrap64 ((l0.length : Int) + 1))) < 0 then (unisonlaw02_KeyBegins.j2 kj11 l0 l2 t360 t361 t363 t364 (wrap64 ((wrap64 ((Int.tmod a1 (wrap64 ((l0.length : Int) + 1))) + (l0.length : Int))) + 1))) else (unisonlaw02_KeyBegins.j2 kj11 l0 l2 t360 t361 t363 t364 (Int.tmod a1 (wrap64 ((l0.length : Int) + 1)))))) else (some t360)) = some r := by rw [if_neg (show ¬ (false = true) by decide)] at H; exact H
       clear H
       have H := H1
       clear H1
       by_cases c20 : t362 = 0
       ·
        rw [if_pos c20] at H
        have c20b0 : (t362 == 0) = true := beq_iff_eq.mpr c20
        have c20b1 : (t362 != 0) = false := bne_eq_false_iff_eq.mpr c20
        clear c20
        by_cases c21 : (wrap64 ((l0.length : Int) + 1)) = 0
        ·
         rw [if_pos c21] at H
         exact absurd H (by simp)
        ·
         rw [if_neg c21] at H
         have c21b0 : ((wrap64 ((l0.length : Int) + 1)) == 0) = false := beq_eq_false_iff_ne.mpr c21
         have c21b1 : ((wrap64 ((l0.length : Int) + 1)) != 0) = true := bne_iff_ne.mpr c21
         have HC22 := Aside0.mk H
         clear H
         go_upto_if 66 with (fail)
         go_cut [16] (fun v16 wc => ∃ (kq : Nat) (x16_21 : Int), v16 = .int .i64 x16_21 ∧ Aside0 (unisonlaw02_KeyBegins.j2 kq l0 l2 t360 t361 t363 t364 x16_21 = some r) ∧ Aside0 (kq ≤ kj11) ∧ Aside0 (Below w.heap.size w wc))
         case first =>
          have H := HC22.out
          clear HC22
          by_cases c23 : (Int.tmod a1 (wrap64 ((l0.length : Int) + 1))) < 0
          ·
           rw [if_pos c23] at H
           have c23b0 : decide ((Int.tmod a1 (wrap64 ((l0.length : Int) + 1))) < 0) = true := decide_eq_true c23
           clear c23
           (first | rw [c23b0] | (simp only [i64_w, i32_w, u8_w, u32_w]; rw [c23b0]) | rw [c23b1] | skip)
           have H' := Aside0.mk H
           clear H
           go_wp2
           go_meet
           case rel => exact ⟨_, (wrap64 ((wrap64 ((Int.tmod a1 (wrap64 ((l0.length : Int) + 1))) + (l0.length : Int))) + 1)), (by first | rfl | (simp; done) | (simp [*]; done)), H', ⟨by have := HJ3.out; have := HJ11.out; first | omega | exact Nat.le_refl _⟩, ⟨by repeat (first | (with_reducible first | exact HB.out | apply below_alloc | apply pw_below_drewN | apply below_drew1) | exact HB.out)⟩⟩
          ·
           rw [if_neg c23] at H
           have c23b0 : decide ((Int.tmod a1 (wrap64 ((l0.length : Int) + 1))) < 0) = false := decide_eq_false c23
           clear c23
           (first | rw [c23b0] | (simp only [i64_w, i32_w, u8_w, u32_w]; rw [c23b0]) | rw [c23b1] | skip)
           have H' := Aside0.mk H
           clear H
           go_wp2
           go_meet
           case rel => exact ⟨_, (Int.tmod a1 (wrap64 ((l0.length : Int) + 1))), (by first | rfl | (simp; done) | (simp [*]; done)), H', ⟨by have := HJ3.out; have := HJ11.out; first | omega | exact Nat.le_refl _⟩, ⟨by repeat (first | (with_reducible first | exact HB.out | apply below_alloc | apply pw_below_drewN | apply below_drew1) | exact HB.out)⟩⟩
         case rest =>
          clear HC22
          try clear c1
          try clear c2
          try clear p2
          try clear c5
          try clear c5b0
          try clear c5b1
          try clear c6
          try clear p6
          try clear c7
          try clear c10
          try clear c12
          try clear c13
          try clear c18
          try clear c18b0
          try clear c18b1
          try clear c19
          try clear c20
          try clear c20b0
          try clear c20b1
          try clear c21
          try clear c21b0
          try clear c21b1
          try clear c23
          try clear c23b0
          try clear c23b1
          try clear p2
          obtain ⟨kq, x16_21, rfl, HA, HJ21, HB⟩ := hcut
          cases kq with
          | zero => exact absurd HA.out (by simp [unisonlaw02_KeyBegins.j2])
          | succ kj21 =>
           have H := HA.out
           clear HA
           simp only [unisonlaw02_KeyBegins.j2] at H
           by_cases c24 : 0 ≤ x16_21
           ·
            rw [if_pos c24] at H
            have c24b0 := eq_true c24
            have c24b1 : decide (0 ≤ x16_21) = true := decide_eq_true c24
            clear c24
            by_cases c25 : x16_21 ≤ (l0.length : Int)
            ·
             rw [if_pos c25] at H
             have c25b0 := eq_true c25
             have c25b1 : decide (x16_21 ≤ (l0.length : Int)) = true := decide_eq_true c25
             clear c25
             obtain ⟨y369, hy369⟩ : ∃ y_ : List (S25), y_ = (l0.take (x16_21 : Int).toNat) := ⟨_, rfl⟩
             replace H : ((key_Encode.f kj21 y369).bind fun bt373 => (if bt373.2 = 0 then (if (bt373.1.size : Int) > (t361.size : Int) then (unisonlaw02_KeyBegins.j3 kj21 l0 l2 t360 t361 t363 t364 true) else (if 0 ≤ (bt373.1.size : Int) then (if (bt373.1.size : Int) ≤ (t361.size : Int) then (unisonlaw02_KeyBegins.j3 kj21 l0 l2 t360 t361 t363 t364 ((t361.extract 0 ((bt373.1.size : Int) : Int).toNat).toList != bt373.1.toList)) else (none)) else (none))) else (unisonlaw02_KeyBegins.j3 kj21 l0 l2 t360 t361 t363 t364 true))) = some r := by first | (rw [hy369]; with_reducible exact H) | (have H2_ := (Option.bind_some _ _).symm.trans H; rw [hy369]; with_reducible exact H2_) | (have H2_ := (Option.bind_some _ _).symm.trans H; with_reducible exact H2_) | with_reducible exact H | (rw [hy369]; exact H) | exact H
             have Ny369 := Aside0.mk hy369
             clear hy369
             replace H := Option.bind_eq_some_iff.mp H
             obtain ⟨⟨t373, t374⟩, A260, H⟩ := H
             replace H : (if t374 = 0 then (if (t373.size : Int) > (t361.size : Int) then (unisonlaw02_KeyBegins.j3 kj21 l0 l2 t360 t361 t363 t364 true) else (if 0 ≤ (t373.size : Int) then (if (t373.size : Int) ≤ (t361.size : Int) then (unisonlaw02_KeyBegins.j3 kj21 l0 l2 t360 t361 t363 t364 ((t361.extract 0 ((t373.size : Int) : Int).toNat).toList != t373.toList)) else (none)) else (none))) else (unisonlaw02_KeyBegins.j3 kj21 l0 l2 t360 t361 t363 t364 true)) = some r := H
             have A26 := Aside0.mk A260
             clear A260
             have HC27 := Aside0.mk H
             clear H
             have q28 : (x16_21 : Int) ≤ ((l0.length : Int) : Int) := of_decide_eq_true (by first | (with_reducible assumption) | assumption)
             obtain ⟨i028, hi028, _, hsz28, _⟩ := info_parts info25
             have hroom28 : l0.length ≤ c0 := HC0.out
             have hC28 : Kd.C k25 _ A0 l0.length l0 := HR0.out
             have hcut28 := cut_to (P := Tryd.prog) 22 25 .i64 Tryd.underlying22 hi028 A0 l0.length c0 x16_21 (of_decide_eq_true (by first | (with_reducible assumption) | assumption)) q28 hroom28
             have hr28 := Kd.C_take (m := (x16_21 : Int).toNat) hC28 (by omega)
             have hy28 : y369.length = (x16_21 : Int).toNat := (by rw [Ny369.out, List.length_take]; omega)
             rw [← Ny369.out] at hr28
             rw [← hy28] at hcut28
             have HR372 := Aside0.mk hr28
             have HC372 := Aside0.mk (show y369.length ≤ c0 from by omega)
             clear hr28 hC28 hroom28 hi028 hsz28
             have KY28 := Aside0.mk hy28
             clear hy28
             replace q28 := eq_true q28
             go_upto_region 16 with (first | ((with_reducible refine gate_callee (f := 12) rfl ?_); refine goesL_ (some 76) rfl rfl Tryd.func12 (by kernel_rfl) rfl #[.slice A0 y369.length c0] rfl (by (try simp only [List.map_toArray, List.map_cons, List.map_nil]); first | done | rfl | (simp only [List.length_drop, List.length_take]; rfl)) ?_; (with_reducible refine (key_Encode.calls kj21 _ _ y369 t373 t374 _ ?side1 ?side2 A26.out).mono ?_); (case side1 => repeat (first | exact (Kd.C_below HR372.out HB.out) | (with_reducible refine Kd.C_alloc ?_ _) | (with_reducible refine Kd.C_drewN ?_ _) | (with_reducible refine Kd.C_drew ?_))); (case side2 => exact HC372.out); rintro e w29 ⟨rfl, hb⟩; refine ⟨_, rfl, ?_⟩; have n0_ := Aside0.mk (below_step (by repeat (first | (with_reducible first | exact HB.out | apply below_alloc | apply pw_below_drewN | apply below_drew1) | exact HB.out)) hb); clear HB; have HB := n0_; clear n0_; (try clear hb); (try clear hb2); (try clear hk); (try clear hi)))
             (try simp only [Act.put, List.setIfInBounds_toArray, List.set_cons_zero, List.set_cons_succ])
             go_cut [95] (fun v95 wc => ∃ (kq : Nat) (x95_26 : Bool), v95 = .bool x95_26 ∧ Aside0 (unisonlaw02_KeyBegins.j3 kq l0 l2 t360 t361 t363 t364 x95_26 = some r) ∧ Aside0 (kq ≤ kj21) ∧ Aside0 (Below w.heap.size w wc))
             case first =>
              have H := HC27.out
              clear HC27
              by_cases c30 : t374 = 0
              ·
               rw [if_pos c30] at H
               have c30b0 : (t374 == 0) = true := beq_iff_eq.mpr c30
               have c30b1 : (t374 != 0) = false := bne_eq_false_iff_eq.mpr c30
               clear c30
               (first | rw [c30b0] | (simp only [i64_w, i32_w, u8_w, u32_w]; rw [c30b0]) | rw [c30b1] | skip)
               by_cases c31 : (t373.size : Int) > (t361.size : Int)
               ·
                rw [if_pos c31] at H
                have c31b0 : decide ((t361.size : Int) < (t373.size : Int)) = true := decide_eq_true c31
                have c31b1 : decide (t361.size < t373.size) = true := decide_eq_true (Int.ofNat_lt.mp c31)
                clear c31
                have H' := Aside0.mk H
                clear H
                go_wp2
                go_meet
                case rel => exact ⟨_, (true), (by first | rfl | (simp; done) | (simp [*]; done)), H', ⟨by have := HJ3.out; have := HJ11.out; have := HJ21.out; first | omega | exact Nat.le_refl _⟩, ⟨by repeat (first | (with_reducible first | exact HB.out | apply below_alloc | apply pw_below_drewN | apply below_drew1) | exact HB.out)⟩⟩
               ·
                rw [if_neg c31] at H
                have c31b0 : decide ((t361.size : Int) < (t373.size : Int)) = false := decide_eq_false c31
                have c31b1 : decide (t361.size < t373.size) = false := decide_eq_false (fun h => c31 (Int.ofNat_lt.mpr h))
                clear c31
                by_cases c32 : 0 ≤ (t373.size : Int)
                ·
                 rw [if_pos c32] at H
                 have c32b0 := eq_true c32
                 have c32b1 : decide (0 ≤ (t373.size : Int)) = true := decide_eq_true c32
                 clear c32
                 by_cases c33 : (t373.size : Int) ≤ (t361.size : Int)
                 ·
                  rw [if_pos c33] at H
                  have c33b0 := eq_true c33
                  have c33b1 : decide ((t373.size : Int) ≤ (t361.size : Int)) = true := decide_eq_true c33
                  clear c33
                  have H' := Aside0.mk H
                  clear H
                  go_wp2
                  go_meet
                  case rel => exact ⟨_, (((t361.extract 0 ((t373.size : Int) : Int).toNat).toList != t373.toList)), (by first | rfl | (simp; done) | (simp [*]; done)), H', ⟨by have := HJ3.out; have := HJ11.out; have := HJ21.out; first | omega | exact Nat.le_refl _⟩, ⟨by repeat (first | (with_reducible first | exact HB.out | apply below_alloc | apply pw_below_drewN | apply below_drew1) | exact HB.out)⟩⟩
                 ·
                  rw [if_neg c33] at H
                  exact absurd H (by simp)
                ·
                 rw [if_neg c32] at H
                 exact absurd H (by simp)
              ·
               rw [if_neg c30] at H
               have c30b0 : (t374 == 0) = false := beq_eq_false_iff_ne.mpr c30
               have c30b1 : (t374 != 0) = true := bne_iff_ne.mpr c30
               (first | rw [c30b0] | (simp only [i64_w, i32_w, u8_w, u32_w]; rw [c30b0]) | rw [c30b1] | skip)
               have H' := Aside0.mk H
               clear H
               go_wp2
               go_meet
               case rel => exact ⟨_, (true), (by first | rfl | (simp; done) | (simp [*]; done)), H', ⟨by have := HJ3.out; have := HJ11.out; have := HJ21.out; first | omega | exact Nat.le_refl _⟩, ⟨by repeat (first | (with_reducible first | exact HB.out | apply below_alloc | apply pw_below_drewN | apply below_drew1) | exact HB.out)⟩⟩
             case rest =>
              clear HC27
              try clear c1
              try clear c2
              try clear p2
              try clear q2
              try clear c3
              try clear c5
              try clear c5b0
              try clear c5b1
              try clear c6
              try clear p6
              try clear c7
              try clear c10
              try clear c12
              try clear c13
              try clear c18
              try clear c18b0
              try clear c18b1
              try clear c19
              try clear c20
              try clear c20b0
              try clear c20b1
              try clear c21
              try clear c21b0
              try clear c21b1
              try clear c23
              try clear c23b0
              try clear c23b1
              try clear c24
              try clear c24b0
              try clear c24b1
              try clear c25
              try clear c25b0
              try clear c25b1
              try clear q28
              try clear c30
              try clear c30b0
              try clear c30b1
              try clear c31
              try clear c31b0
              try clear c31b1
              try clear c32
              try clear c32b0
              try clear c32b1
              try clear c33
              try clear c33b0
              try clear c33b1
              try clear p2
              try clear p6
              try clear q28
              obtain ⟨kq, x95_26, rfl, HA, HJ26, HB⟩ := hcut
              cases kq with
              | zero => exact absurd HA.out (by simp [unisonlaw02_KeyBegins.j3])
              | succ kj26 =>
               have H := HA.out
               clear HA
               simp only [unisonlaw02_KeyBegins.j3] at H
               have HC34 := Aside0.mk H
               clear H
               go_upto_if 95 with (fail)
               go_cut [] (fun wc => ∃ (kq : Nat), Aside0 (unisonlaw02_KeyBegins.j4 kq l0 l2 t360 t361 t363 t364 = some r) ∧ Aside0 (kq ≤ kj26) ∧ Aside0 (Below w.heap.size w wc))
               case first =>
                have H := HC34.out
                clear HC34
                by_cases c35 : x95_26 = true
                ·
                 subst c35
                 have H1 : (none) = some r := by (first | rw [if_pos rfl] at H | rw [if_pos True.intro] at H | skip); exact H
                 clear H
                 have H := H1
                 clear H1
                 exact absurd H (by simp)
                ·
                 replace c35 := Bool.eq_false_iff.mpr c35
                 subst c35
                 have H1 : (unisonlaw02_KeyBegins.j4 kj26 l0 l2 t360 t361 t363 t364) = some r := by rw [if_neg (show ¬ (false = true) by decide)] at H; exact H
                 clear H
                 have H := H1
                 clear H1
                 have H' := Aside0.mk H
                 clear H
                 go_wp2
                 go_meet
                 case rel => exact ⟨_, H', ⟨by have := HJ3.out; have := HJ11.out; have := HJ21.out; have := HJ26.out; first | omega | exact Nat.le_refl _⟩, ⟨by repeat (first | (with_reducible first | exact HB.out | apply below_alloc | apply pw_below_drewN | apply below_drew1) | exact HB.out)⟩⟩
               case rest =>
                clear HC34
                try clear c1
                try clear c2
                try clear p2
                try clear q2
                try clear c3
                try clear c5
                try clear c5b0
                try clear c5b1
                try clear c6
                try clear p6
                try clear c7
                try clear c10
                try clear c12
                try clear c13
                try clear c18
                try clear c18b0
                try clear c18b1
                try clear c19
                try clear c20
                try clear c20b0
                try clear c20b1
                try clear c21
                try clear c21b0
                try clear c21b1
                try clear c23
                try clear c23b0
                try clear c23b1
                try clear c24
                try clear c24b0
                try clear c24b1
                try clear c25
                try clear c25b0
                try clear c25b1
                try clear q28
                try clear c30
                try clear c30b0
                try clear c30b1
                try clear c31
                try clear c31b0
                try clear c31b1
                try clear c32
                try clear c32b0
                try clear c32b1
                try clear c33
                try clear c33b0
                try clear c33b1
                try clear c35
                try clear p2
                try clear p6
                try clear q2
                try clear q28
                obtain ⟨kq, HA, HJ33, HB⟩ := hcut
                cases kq with
                | zero => exact absurd HA.out (by simp [unisonlaw02_KeyBegins.j4])
                | succ kj33 =>
                 have H := HA.out
                 clear HA
                 simp only [unisonlaw02_KeyBegins.j4] at H
                 by_cases c36 : t364 = 0
                 ·
                  rw [if_pos c36] at H
                  have c36b0 : (t364 == 0) = true := beq_iff_eq.mpr c36
                  have c36b1 : (t364 != 0) = false := bne_eq_false_iff_eq.mpr c36
                  clear c36
                  by_cases c37 : (l2.length : Int) ≤ (l0.length : Int)
                  ·
                   rw [if_pos c37] at H
                   have c37b0 : decide ((l2.length : Int) ≤ (l0.length : Int)) = true := decide_eq_true c37
                   have c37b1 : decide (l2.length ≤ l0.length) = true := decide_eq_true (Int.ofNat_le.mp c37)
                   clear c37
                   by_cases c38 : (t363.size : Int) ≤ (t361.size : Int)
                   ·
                    rw [if_pos c38] at H
                    have c38b0 : decide ((t363.size : Int) ≤ (t361.size : Int)) = true := decide_eq_true c38
                    have c38b1 : decide (t363.size ≤ t361.size) = true := decide_eq_true (Int.ofNat_le.mp c38)
                    clear c38
                    by_cases c39 : 0 ≤ (t363.size : Int)
                    ·
                     rw [if_pos c39] at H
                     have c39b0 := eq_true c39
                     have c39b1 : decide (0 ≤ (t363.size : Int)) = true := decide_eq_true c39
                     clear c39
                     have c40b0 := eq_true (of_decide_eq_true (by first | (with_reducible assumption) | assumption) : (t363.size : Int) ≤ (t361.size : Int))
                     by_cases c41 : (t361.extract 0 ((t363.size : Int) : Int).toNat).toList = t363.toList
                     ·
                      rw [if_pos c41] at H
                      have c41b0 : ((t361.extract 0 ((t363.size : Int) : Int).toNat).toList == t363.toList) = true := beq_iff_eq.mpr c41
                      try (have c41bs0 := c41b0; simp only [Int.toNat_natCast] at c41bs0)
                      have c41b1 : ((t361.extract 0 ((t363.size : Int) : Int).toNat).toList != t363.toList) = false := bne_eq_false_iff_eq.mpr c41
                      try (have c41bs1 := c41b1; simp only [Int.toNat_natCast] at c41bs1)
                      clear c41
                      by_cases c42 : 0 ≤ (l2.length : Int)
                      ·
                       rw [if_pos c42] at H
                       have c42b0 := eq_true c42
                       have c42b1 : decide (0 ≤ (l2.length : Int)) = true := decide_eq_true c42
                       clear c42
                       have c43b0 := eq_true (of_decide_eq_true (by first | (with_reducible assumption) | assumption) : (l2.length : Int) ≤ (l0.length : Int))
                       obtain ⟨y375, hy375⟩ : ∃ y_ : List (S25), y_ = (l0.take ((l2.length : Int) : Int).toNat) := ⟨_, rfl⟩
                       replace H : ((unisonlaw02_same.f kj33 l2 y375).bind fun t379 => (if t360 = true then (some t379) else (none))) = some r := by first | (rw [hy375]; with_reducible exact H) | (have H2_ := (Option.bind_some _ _).symm.trans H; rw [hy375]; with_reducible exact H2_) | (have H2_ := (Option.bind_some _ _).symm.trans H; with_reducible exact H2_) | with_reducible exact H | (rw [hy375]; exact H) | exact H
                       have Ny375 := Aside0.mk hy375
                       clear hy375
                       replace H := Option.bind_eq_some_iff.mp H
                       obtain ⟨t379, A440, H⟩ := H
                       replace H : (if t360 = true then (some t379) else (none)) = some r := H
                       have A44 := Aside0.mk A440
                       clear A440
                       by_cases c45 : t360 = true
                       ·
                        subst c45
                        have H1 : (some t379) = some r := by (first | rw [if_pos rfl] at H | rw [if_pos True.intro] at H | skip); exact H
                        clear H
                        have H := H1
                        clear H1
                        obtain rfl := Option.some.inj H
                        have q46 : ((l2.length : Int) : Int) ≤ ((l0.length : Int) : Int) := of_decide_eq_true (by first | (with_reducible assumption) | assumption)
                        obtain ⟨i046, hi046, _, hsz46, _⟩ := info_parts info25
                        have hroom46 : l0.length ≤ c0 := HC0.out
                        have hC46 : Kd.C k25 _ A0 l0.length l0 := HR0.out
                        have hcut46 := cut_to (P := Tryd.prog) 22 25 .i64 Tryd.underlying22 hi046 A0 l0.length c0 (l2.length : Int) (of_decide_eq_true (by first | (with_reducible assumption) | assumption)) q46 hroom46
                        have hr46 := Kd.C_take (m := ((l2.length : Int) : Int).toNat) hC46 (by omega)
                        have hy46 : y375.length = ((l2.length : Int) : Int).toNat := (by rw [Ny375.out, List.length_take]; omega)
                        rw [← Ny375.out] at hr46
                        rw [← hy46] at hcut46
                        have HR378 := Aside0.mk hr46
                        have HC378 := Aside0.mk (show y375.length ≤ c0 from by omega)
                        clear hr46 hC46 hroom46 hi046 hsz46
                        have KY46 := Aside0.mk hy46
                        clear hy46
                        replace q46 := eq_true q46
                        go_wp2_with (first | ((with_reducible refine gate_callee (f := 14) rfl ?_); refine goesL_ (some 125) rfl rfl Tryd.func14 (by kernel_rfl) rfl #[.slice A2 l2.length c2, .slice A0 y375.length c0] rfl (by (try simp only [List.map_toArray, List.map_cons, List.map_nil]); first | done | rfl | (simp only [List.length_drop, List.length_take]; rfl)) ?_; (with_reducible refine (unisonlaw02_same.calls kj33 _ _ l2 _ _ y375 t379 _ ?side1 ?side2 ?side3 ?side4 A44.out).mono ?_); (case side1 => repeat (first | exact (Kd.C_below HR2.out HB.out) | (with_reducible refine Kd.C_alloc ?_ _) | (with_reducible refine Kd.C_drewN ?_ _) | (with_reducible refine Kd.C_drew ?_))); (case side2 => exact HC2.out); (case side3 => repeat (first | exact (Kd.C_below HR378.out HB.out) | (with_reducible refine Kd.C_alloc ?_ _) | (with_reducible refine Kd.C_drewN ?_ _) | (with_reducible refine Kd.C_drew ?_))); (case side4 => exact HC378.out); rintro e w' ⟨rfl, ⟨nd, rfl⟩⟩; refine ⟨_, rfl, ?_⟩))
                        go_ret
                        exact ⟨by first | (simp only [ByteArray.size_extract, Nat.min_self]; rfl) | rfl | (simp [errW_none, errW_some] <;> rfl) | (simp [*, errW_none, errW_some] <;> rfl), by repeat (first | (with_reducible first | exact HB.out | apply below_alloc | apply pw_below_drewN | apply below_drew1) | exact HB.out)⟩
                       ·
                        replace c45 := Bool.eq_false_iff.mpr c45
                        subst c45
                        have H1 : (none) = some r := by rw [if_neg (show ¬ (false = true) by decide)] at H; exact H
                        clear H
                        have H := H1
                        clear H1
                        exact absurd H (by simp)
                      ·
                       rw [if_neg c42] at H
                       exact absurd H (by simp)
                     ·
                      rw [if_neg c41] at H
                      have c41b0 : ((t361.extract 0 ((t363.size : Int) : Int).toNat).toList == t363.toList) = false := beq_eq_false_iff_ne.mpr c41
                      try (have c41bs0 := c41b0; simp only [Int.toNat_natCast] at c41bs0)
                      have c41b1 : ((t361.extract 0 ((t363.size : Int) : Int).toNat).toList != t363.toList) = true := bne_iff_ne.mpr c41
                      try (have c41bs1 := c41b1; simp only [Int.toNat_natCast] at c41bs1)
                      obtain rfl := Option.some.inj H
                      go_wp2
                      go_ret
                      exact ⟨by first | (simp only [ByteArray.size_extract, Nat.min_self]; rfl) | rfl | (simp [errW_none, errW_some] <;> rfl) | (simp [*, errW_none, errW_some] <;> rfl), by repeat (first | (with_reducible first | exact HB.out | apply below_alloc | apply pw_below_drewN | apply below_drew1) | exact HB.out)⟩
                    ·
                     rw [if_neg c39] at H
                     exact absurd H (by simp)
                   ·
                    rw [if_neg c38] at H
                    have c38b0 : decide ((t363.size : Int) ≤ (t361.size : Int)) = false := decide_eq_false c38
                    have c38b1 : decide (t363.size ≤ t361.size) = false := decide_eq_false (fun h => c38 (Int.ofNat_le.mpr h))
                    clear c38
                    obtain rfl := Option.some.inj H
                    go_wp2
                    go_ret
                    exact ⟨by first | (simp only [ByteArray.size_extract, Nat.min_self]; rfl) | rfl | (simp [errW_none, errW_some] <;> rfl) | (simp [*, errW_none, errW_some] <;> rfl), by repeat (first | (with_reducible first | exact HB.out | apply below_alloc | apply pw_below_drewN | apply below_drew1) | exact HB.out)⟩
                  ·
                   rw [if_neg c37] at H
                   have c37b0 : decide ((l2.length : Int) ≤ (l0.length : Int)) = false := decide_eq_false c37
                   have c37b1 : decide (l2.length ≤ l0.length) = false := decide_eq_false (fun h => c37 (Int.ofNat_le.mpr h))
                   clear c37
                   obtain rfl := Option.some.inj H
                   go_wp2
                   go_ret
                   exact ⟨by first | (simp only [ByteArray.size_extract, Nat.min_self]; rfl) | rfl | (simp [errW_none, errW_some] <;> rfl) | (simp [*, errW_none, errW_some] <;> rfl), by repeat (first | (with_reducible first | exact HB.out | apply below_alloc | apply pw_below_drewN | apply below_drew1) | exact HB.out)⟩
                 ·
                  rw [if_neg c36] at H
                  have c36b0 : (t364 == 0) = false := beq_eq_false_iff_ne.mpr c36
                  have c36b1 : (t364 != 0) = true := bne_iff_ne.mpr c36
                  obtain rfl := Option.some.inj H
                  go_wp2
                  go_ret
                  exact ⟨by first | (simp only [ByteArray.size_extract, Nat.min_self]; rfl) | rfl | (simp [errW_none, errW_some] <;> rfl) | (simp [*, errW_none, errW_some] <;> rfl), by repeat (first | (with_reducible first | exact HB.out | apply below_alloc | apply pw_below_drewN | apply below_drew1) | exact HB.out)⟩
            ·
             rw [if_neg c25] at H
             exact absurd H (by simp)
           ·
            rw [if_neg c24] at H
            exact absurd H (by simp)
       ·
        rw [if_neg c20] at H
        have c20b0 : (t362 == 0) = false := beq_eq_false_iff_ne.mpr c20
        have c20b1 : (t362 != 0) = true := bne_iff_ne.mpr c20
        obtain rfl := Option.some.inj H
        go_wp2
        go_ret
        exact ⟨by first | (simp only [ByteArray.size_extract, Nat.min_self]; rfl) | rfl | (simp [errW_none, errW_some] <;> rfl) | (simp [*, errW_none, errW_some] <;> rfl), by repeat (first | (with_reducible first | exact HB.out | apply below_alloc | apply pw_below_drewN | apply below_drew1) | exact HB.out)⟩

end Go.Proofs.YtohknmlcleifpaaDoor.PA
