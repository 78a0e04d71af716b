-- Laid by a program of ours (wip/gen/xprint.py). Not trusted: Lean checks it.
import Derived.Test.YtohknmlcleifpaaDoorPAx0
import Derived.Test.YtohknmlcleifpaaDoorPAx6
import Derived.Test.YtohknmlcleifpaaDoorPAx7
import Derived.Test.YtohknmlcleifpaaDoorPAx8
import Derived.Test.YtohknmlcleifpaaDoorPAx10
import Derived.Test.YtohknmlcleifpaaDoorPB1
import Derived.Test.YtohknmlcleifpaaDoorPAx16
namespace Go.Proofs.YtohknmlcleifpaaDoor.PA
open Go.RowKit Go.Proofs.YtohknmlcleifpaaDoorW.PrintWords Go.Proofs.YtohknmlcleifpaaDoorW.PrintLast Go.Proofs.YtohknmlcleifpaaDoorW.PrintMore Go.Proofs.YtohknmlcleifpaaDoorX
attribute [local go_sem] max2_int min2_int max_two min_two max_three min_three max_four min_four   -- for this text's walks alone
set_option linter.unusedVariables false
set_option linter.unusedSimpArgs false

/-! ### unisonlaw02_KeyOrders: function 5 -/
mutual
def unisonlaw02_KeyOrders.j0 : Nat → List (S25) → List (S25) → ByteArray → Bool → Option (Bool)
 | 0, _, _, _, _ => none
 | k + 1, x0, x1, x2, x30 => if x30 = true then (some true) else ((unisonlaw02_awake.f k).bind fun t319 => (if 0 ≤ (wrap64 ((x0.length : Int) + 1)) then (if (wrap64 ((x0.length : Int) + 1) : Int).toNat ≤ 8796093022208 then ((some (cpy (List.replicate (wrap64 ((x0.length : Int) + 1) : Int).toNat z25) x0 : List (S25))).bind fun y323 => (if 0 ≤ (wrap64 ((x1.length : Int) + 1)) then (if (wrap64 ((x1.length : Int) + 1) : Int).toNat ≤ 8796093022208 then ((some (cpy (List.replicate (wrap64 ((x1.length : Int) + 1) : Int).toNat z25) x1 : List (S25))).bind fun y327 => (if 0 ≤ (x0.length : Int) then (if (x0.length : Int) ≤ (y323.length : Int) then ((some (y323.take ((x0.length : Int) : Int).toNat : List (S25))).bind fun y328 => (if 0 ≤ (x1.length : Int) then (if (x1.length : Int) ≤ (y327.length : Int) then ((some (y327.take ((x1.length : Int) : Int).toNat : List (S25))).bind fun y332 => ((key_Order.f k y328 y332).bind fun t336 => ((unisonref02_Order.f k x0 x1).bind fun t337 => ((unisonlaw02_same.f k y328 x0).bind fun t338 => ((unisonlaw02_same.f k y332 x1).bind fun t339 => ((key_Next.f k x2).bind fun bt340 => ((unisonref02_Next.f k x2).bind fun bt342 => (unisonlaw02_KeyOrders.j1 k t319 t336 t337 t338 t339 bt340.1 bt340.2 bt342.1 bt342.2)))))))) else (none)) else (none))) else (none)) else (none))) else (none)) else (none))) else (none)) else (none)))
def unisonlaw02_KeyOrders.j1 : Nat → Bool → Int → Int → Bool → Bool → ByteArray → Bool → ByteArray → Bool → Option (Bool)
 | 0, _, _, _, _, _, _, _, _, _ => none
 | k + 1, x7, x10, x11, x12, x13, x14, x15, x16, x17 => if x7 = true then (if x12 = true then (if x13 = true then (if x10 = x11 then (if x14.toList = x16.toList then (some (x15 == x17)) else (none)) else (none)) else (none)) else (none)) else (none)
end
def unisonlaw02_KeyOrders.f (k : Nat) (l0 : List (S25)) (l1 : List (S25)) (a2 : ByteArray) : Option (Bool) := if (l0.length : Int) > 2147483647 then (unisonlaw02_KeyOrders.j0 k l0 l1 a2 true) else (if (l1.length : Int) > 2147483647 then (unisonlaw02_KeyOrders.j0 k l0 l1 a2 true) else (unisonlaw02_KeyOrders.j0 k l0 l1 a2 (decide ((a2.size : Int) > 2147483647))))
theorem unisonlaw02_KeyOrders.mono_l : ∀ k, (∀ y0 y1 y2 y3, LeO (unisonlaw02_KeyOrders.j0 k y0 y1 y2 y3) (unisonlaw02_KeyOrders.j0 (k + 1) y0 y1 y2 y3)) ∧ (∀ y0 y1 y2 y3 y4 y5 y6 y7 y8, LeO (unisonlaw02_KeyOrders.j1 k y0 y1 y2 y3 y4 y5 y6 y7 y8) (unisonlaw02_KeyOrders.j1 (k + 1) y0 y1 y2 y3 y4 y5 y6 y7 y8))
 | 0 => ⟨fun _ _ _ _ r h => by simp [unisonlaw02_KeyOrders.j0] at h, fun _ _ _ _ _ _ _ _ _ r h => by simp [unisonlaw02_KeyOrders.j1] at h⟩
 | k + 1 => by
  obtain ⟨ih0, ih1⟩ := unisonlaw02_KeyOrders.mono_l k
  refine ⟨?_, ?_⟩
  ·
   intro y0 y1 y2 y3
   unfold unisonlaw02_KeyOrders.j0
   repeat' first
   | (with_reducible exact ih0 _ _ _ _)
   | (with_reducible exact ih1 _ _ _ _ _ _ _ _ _)
   | (with_reducible exact key_Next.mono _ _)
   | (with_reducible exact key_Order.mono _ _ _)
   | (with_reducible exact unisonlaw02_awake.mono _)
   | (with_reducible exact unisonlaw02_same.mono _ _ _)
   | (with_reducible exact unisonref02_Next.mono _ _)
   | (with_reducible exact unisonref02_Order.mono _ _ _)
   | (with_reducible exact LeO.refl _)
   | (with_reducible exact LeO.none _)
   | (with_reducible refine LeO.ite ?_ ?_)
   | (with_reducible refine LeO.bind ?_ (fun _ => ?_))
   | exact ih0 _ _ _ _
   | exact ih1 _ _ _ _ _ _ _ _ _
   | exact key_Next.mono _ _
   | exact key_Order.mono _ _ _
   | exact unisonlaw02_awake.mono _
   | exact unisonlaw02_same.mono _ _ _
   | exact unisonref02_Next.mono _ _
   | exact unisonref02_Order.mono _ _ _
   | exact LeO.none _
   | refine LeO.ite ?_ ?_
   | refine LeO.bind ?_ (fun _ => ?_)
  ·
   intro y0 y1 y2 y3 y4 y5 y6 y7 y8
   unfold unisonlaw02_KeyOrders.j1
   repeat' first
   | (with_reducible exact ih0 _ _ _ _)
   | (with_reducible exact ih1 _ _ _ _ _ _ _ _ _)
   | (with_reducible exact key_Next.mono _ _)
   | (with_reducible exact key_Order.mono _ _ _)
   | (with_reducible exact unisonlaw02_awake.mono _)
   | (with_reducible exact unisonlaw02_same.mono _ _ _)
   | (with_reducible exact unisonref02_Next.mono _ _)
   | (with_reducible exact unisonref02_Order.mono _ _ _)
   | (with_reducible exact LeO.refl _)
   | (with_reducible exact LeO.none _)
   | (with_reducible refine LeO.ite ?_ ?_)
   | (with_reducible refine LeO.bind ?_ (fun _ => ?_))
   | exact ih0 _ _ _ _
   | exact ih1 _ _ _ _ _ _ _ _ _
   | exact key_Next.mono _ _
   | exact key_Order.mono _ _ _
   | exact unisonlaw02_awake.mono _
   | exact unisonlaw02_same.mono _ _ _
   | exact unisonref02_Next.mono _ _
   | exact unisonref02_Order.mono _ _ _
   | exact LeO.none _
   | refine LeO.ite ?_ ?_
   | refine LeO.bind ?_ (fun _ => ?_)
theorem unisonlaw02_KeyOrders.mono : ∀ a0 a1 a2 k, LeO (unisonlaw02_KeyOrders.f k a0 a1 a2) (unisonlaw02_KeyOrders.f (k + 1) a0 a1 a2) := by
 intro a0 a1 a2 k
 obtain ⟨ih0, ih1⟩ := unisonlaw02_KeyOrders.mono_l k
 unfold unisonlaw02_KeyOrders.f
 repeat' first
   | (with_reducible exact ih0 _ _ _ _)
   | (with_reducible exact ih1 _ _ _ _ _ _ _ _ _)
   | (with_reducible exact key_Next.mono _ _)
   | (with_reducible exact key_Order.mono _ _ _)
   | (with_reducible exact unisonlaw02_awake.mono _)
   | (with_reducible exact unisonlaw02_same.mono _ _ _)
   | (with_reducible exact unisonref02_Next.mono _ _)
   | (with_reducible exact unisonref02_Order.mono _ _ _)
   | (with_reducible exact LeO.refl _)
   | (with_reducible exact LeO.none _)
   | (with_reducible refine LeO.ite ?_ ?_)
   | (with_reducible refine LeO.bind ?_ (fun _ => ?_))
   | exact ih0 _ _ _ _
   | exact ih1 _ _ _ _ _ _ _ _ _
   | exact key_Next.mono _ _
   | exact key_Order.mono _ _ _
   | exact unisonlaw02_awake.mono _
   | exact unisonlaw02_same.mono _ _ _
   | exact unisonref02_Next.mono _ _
   | exact unisonref02_Order.mono _ _ _
   | exact LeO.none _
   | refine LeO.ite ?_ ?_
   | refine LeO.bind ?_ (fun _ => ?_)
def unisonlaw02_KeyOrders.T8 : Bool × List (List Nat × List Nat) := (true, [([], []), ([], []), ([1], [1]), ([0, 2], [0, 2]), ([], []), ([], []), ([5], [5]), ([4, 6], [4, 6]), ([3, 7], [3, 7]), ([8, 8, 0, 1, 2, 3, 4, 5, 6, 7, 8], [8])])
def unisonlaw02_KeyOrders.B8 : List Nat := [0, 0, 2, 7, 0, 0, 32, 112, 255, 511]
theorem unisonlaw02_KeyOrders.tab8 : rtab .any (opsOf Tryd.f5 8) = unisonlaw02_KeyOrders.T8 := by kernel_rfl
theorem unisonlaw02_KeyOrders.bits8 : waitsOk unisonlaw02_KeyOrders.T8.2 unisonlaw02_KeyOrders.B8 = true := by kernel_rfl
set_option maxHeartbeats 8000000 in
set_option maxRecDepth 100000 in
theorem unisonlaw02_KeyOrders.calls (k : Nat) (A0 : Option Addr) (c0 : Nat) (l0 : List (S25)) (A1 : Option Addr) (c1 : Nat) (l1 : List (S25)) (a2 : ByteArray) (r : Bool) (w : World) (hr0 : Kd.C k25 w A0 l0.length l0) (hc0 : l0.length ≤ c0) (hr1 : Kd.C k25 w A1 l1.length l1) (hc1 : l1.length ≤ c1) (h : unisonlaw02_KeyOrders.f k l0 l1 a2 = some r) :
  Calls Tryd.prog 5 #[.slice A0 l0.length c0, .slice A1 l1.length c1, .string a2] w fun e w' => e = .returned (.bool r) ∧ Below w.heap.size w w' := by
 have HR0 := Aside0.mk hr0
 have HC0 := Aside0.mk hc0
 clear hr0 hc0
 have HR1 := Aside0.mk hr1
 have HC1 := Aside0.mk hc1
 clear hr1 hc1
 have HB := Aside0.mk (Below.refl w.heap.size w)
 have H : (if (l0.length : Int) > 2147483647 then (unisonlaw02_KeyOrders.j0 k l0 l1 a2 true) else (if (l1.length : Int) > 2147483647 then (unisonlaw02_KeyOrders.j0 k l0 l1 a2 true) else (unisonlaw02_KeyOrders.j0 k l0 l1 a2 (decide ((a2.size : Int) > 2147483647))))) = some r := h
 clear h
 have HC4 := Aside0.mk H
 clear H
 go_enter Tryd.func5, Tryd.ntmps5
 go_upto_region 1 with (fail)
 go_cut [30] (fun v30 wc => ∃ (kq : Nat) (x30_3 : Bool), v30 = .bool x30_3 ∧ Aside0 (unisonlaw02_KeyOrders.j0 kq l0 l1 a2 x30_3 = some r) ∧ Aside0 (kq ≤ k) ∧ Aside0 (Below w.heap.size w wc))
 case first =>
  have H := HC4.out
  clear HC4
  by_cases c5 : (l0.length : Int) > 2147483647
  ·
   rw [if_pos c5] at H
   have c5b0 : decide (2147483647 < (l0.length : Int)) = true := decide_eq_true c5
   have c5b1 : decide (2147483647 < l0.length) = true := decide_eq_true (by omega)
   clear c5
   (first | rw [c5b0] | (simp only [i64_w, i32_w, u8_w, u32_w]; rw [c5b0]) | rw [c5b1] | skip)
   have H' := Aside0.mk H
   clear H
   go_wp2
   go_meet
   case rel => exact ⟨_, (true), (by first | rfl | (simp; done) | (simp [*]; done)), H', ⟨by first | omega | exact Nat.le_refl _⟩, ⟨by repeat (first | (with_reducible first | exact HB.out | apply below_alloc | apply pw_below_drewN | apply below_drew1) | exact HB.out)⟩⟩
  ·
   rw [if_neg c5] at H
   have c5b0 : decide (2147483647 < (l0.length : Int)) = false := decide_eq_false c5
   have c5b1 : decide (2147483647 < l0.length) = false := decide_eq_false (by omega)
   clear c5
   (first | rw [c5b0] | (simp only [i64_w, i32_w, u8_w, u32_w]; rw [c5b0]) | rw [c5b1] | skip)
   by_cases c6 : (l1.length : Int) > 2147483647
   ·
    rw [if_pos c6] at H
    have c6b0 : decide (2147483647 < (l1.length : Int)) = true := decide_eq_true c6
    have c6b1 : decide (2147483647 < l1.length) = true := decide_eq_true (by omega)
    clear c6
    have H' := Aside0.mk H
    clear H
    go_wp2
    go_meet
    case rel => exact ⟨_, (true), (by first | rfl | (simp; done) | (simp [*]; done)), H', ⟨by first | omega | exact Nat.le_refl _⟩, ⟨by repeat (first | (with_reducible first | exact HB.out | apply below_alloc | apply pw_below_drewN | apply below_drew1) | exact HB.out)⟩⟩
   ·
    rw [if_neg c6] at H
    have c6b0 : decide (2147483647 < (l1.length : Int)) = false := decide_eq_false c6
    have c6b1 : decide (2147483647 < l1.length) = false := decide_eq_false (by omega)
    clear c6
    have H' := Aside0.mk H
    clear H
    go_wp2
    go_meet
    case rel => exact ⟨_, (decide ((a2.size : Int) > 2147483647)), (by first | rfl | (simp; done) | (simp [*]; done)), H', ⟨by first | omega | exact Nat.le_refl _⟩, ⟨by repeat (first | (with_reducible first | exact HB.out | apply below_alloc | apply pw_below_drewN | apply below_drew1) | exact HB.out)⟩⟩
 case rest =>
  clear HC4
  try clear c1
  try clear p2
  try clear c5
  try clear c5b0
  try clear c5b1
  try clear c6
  try clear c6b0
  try clear c6b1
  obtain ⟨kq, x30_3, rfl, HA, HJ3, HB⟩ := hcut
  cases kq with
  | zero => exact absurd HA.out (by simp [unisonlaw02_KeyOrders.j0])
  | succ kj3 =>
   have H := HA.out
   clear HA
   simp only [unisonlaw02_KeyOrders.j0] at H
   by_cases c7 : x30_3 = true
   ·
    subst c7
    have H1 : (some true) = some r := by (first | rw [if_pos rfl] at H | rw [if_pos True.intro] at H | skip); exact H
    clear H
    have H := H1
    clear H1
    obtain rfl := Option.some.inj H
    go_wp2
    go_ret
    exact ⟨by first | (simp only [ByteArray.size_extract, Nat.min_self]; rfl) | rfl | (simp [errW_none, errW_some] <;> rfl) | (simp [*, errW_none, errW_some] <;> rfl), by repeat (first | (with_reducible first | exact HB.out | apply below_alloc | apply pw_below_drewN | apply below_drew1) | exact HB.out)⟩
   ·
    replace c7 := Bool.eq_false_iff.mpr c7
    subst c7
    have H1 : ((unisonlaw02_awake.f kj3).bind fun t319 => (if 0 ≤ (wrap64 ((l0.length : Int) + 1)) then (if (wrap64 ((l0.length : Int) + 1) : Int).toNat ≤ 8796093022208 then ((some (cpy (List.replicate (wrap64 ((l0.length : Int) + 1) : Int).toNat z25) l0 : List (S25))).bind fun y323 => (if 0 ≤ (wrap64 ((l1.length : Int) + 1)) then (if (wrap64 ((l1.length : Int) + 1) : Int).toNat ≤ 8796093022208 then ((some (cpy (List.replicate (wrap64 ((l1.length : Int) + 1) : Int).toNat z25) l1 : List (S25))).bind fun y327 => (if 0 ≤ (l0.length : Int) then (if (l0.length : Int) ≤ (y323.length : Int) then ((some (y323.take ((l0.length : Int) : Int).toNat : List (S25))).bind fun y328 => (if 0 ≤ (l1.length : Int) then (if (l1.length : Int) ≤ (y327.length : Int) then ((some (y327.take ((l1.length : Int) : Int).toNat : List (S25))).bind fun y332 => ((key_Order.f kj3 y328 y332).bind fun t336 => ((unisonref02_Order.f kj3 l0 l1).bind fun t337 => ((unisonlaw02_same.f kj3 y328 l0).bind fun t338 => ((unisonlaw02_same.f kj3 y332 l1).bind fun t339 => ((key_Next.f kj3 a2).bind fun bt340 => ((unisonref02_Next.f kj3 a2).bind fun bt342 => (unisonlaw02_KeyOrders.j1 kj3 t319 t336 t337 t338 t339 bt340.1 bt340.2 bt342.1 bt342.2)))))))) else (none)) else (none))) else (none)) else (none))) else (none)) else (none))) else (none)) else (none))) = some r := by rw [if_neg (show ¬ (false = true) by decide)] at H; exact H
    clear H
    have H := H1
    clear H1
    replace H := Option.bind_eq_some_iff.mp H
    obtain ⟨t319, A80, H⟩ := H
    replace H : (if 0 ≤ (wrap64 ((l0.length : Int) + 1)) then (if (wrap64 ((l0.length : Int) + 1) : Int).toNat ≤ 8796093022208 then ((some (cpy (List.replicate (wrap64 ((l0.length : Int) + 1) : Int).toNat z25) l0 : List (S25))).bind fun y323 => (if 0 ≤ (wrap64 ((l1.length : Int) + 1)) then (if (wrap64 ((l1.length : Int) + 1) : Int).toNat ≤ 8796093022208 then ((some (cpy (List.replicate (wrap64 ((l1.length : Int) + 1) : Int).toNat z25) l1 : List (S25))).bind fun y327 => (if 0 ≤ (l0.length : Int) then (if (l0.length : Int) ≤ (y323.length : Int) then ((some (y323.take ((l0.length : Int) : Int).toNat : List (S25))).bind fun y328 => (if 0 ≤ (l1.length : Int) then (if (l1.length : Int) ≤ (y327.length : Int) then ((some (y327.take ((l1.length : Int) : Int).toNat : List (S25))).bind fun y332 => ((key_Order.f kj3 y328 y332).bind fun t336 => ((unisonref02_Order.f kj3 l0 l1).bind fun t337 => ((unisonlaw02_same.f kj3 y328 l0).bind fun t338 => ((unisonlaw02_same.f kj3 y332 l1).bind fun t339 => ((key_Next.f kj3 a2).bind fun bt340 => ((unisonref02_Next.f kj3 a2).bind fun bt342 => (unisonlaw02_KeyOrders.j1 kj3 t319 t336 t337 t338 t339 bt340.1 bt340.2 bt342.1 bt342.2)))))))) else (none)) else (none))) else (none)) else (none))) else (none)) else (none))) else (none)) else (none)) = some r := H
    have A8 := Aside0.mk A80
    clear A80
    obtain ⟨ji9, hji9⟩ : ∃ j_ : Int, (wrap64 ((l0.length : Int) + 1)) = j_ := ⟨_, rfl⟩
    replace H : (if 0 ≤ (ji9) then (if (ji9 : Int).toNat ≤ 8796093022208 then ((some (cpy (List.replicate (ji9 : Int).toNat z25) l0 : List (S25))).bind fun y323 => (if 0 ≤ (wrap64 ((l1.length : Int) + 1)) then (if (wrap64 ((l1.length : Int) + 1) : Int).toNat ≤ 8796093022208 then ((some (cpy (List.replicate (wrap64 ((l1.length : Int) + 1) : Int).toNat z25) l1 : List (S25))).bind fun y327 => (if 0 ≤ (l0.length : Int) then (if (l0.length : Int) ≤ (y323.length : Int) then ((some (y323.take ((l0.length : Int) : Int).toNat : List (S25))).bind fun y328 => (if 0 ≤ (l1.length : Int) then (if (l1.length : Int) ≤ (y327.length : Int) then ((some (y327.take ((l1.length : Int) : Int).toNat : List (S25))).bind fun y332 => ((key_Order.f kj3 y328 y332).bind fun t336 => ((unisonref02_Order.f kj3 l0 l1).bind fun t337 => ((unisonlaw02_same.f kj3 y328 l0).bind fun t338 => ((unisonlaw02_same.f kj3 y332 l1).bind fun t339 => ((key_Next.f kj3 a2).bind fun bt340 => ((unisonref02_Next.f kj3 a2).bind fun bt342 => (unisonlaw02_KeyOrders.j1 kj3 t319 t336 t337 t338 t339 bt340.1 bt340.2 bt342.1 bt342.2)))))))) else (none)) else (none))) else (none)) else (none))) else (none)) else (none))) else (none)) else (none)) = some r := by first | (rw [hji9] at H; exact H) | (simp only [hji9] at H ⊢; exact H)
    (try rw [hji9] at A8)
    have hji9w : (IntKind.i64.wrap ((l0.length : Int) + 1)) = ji9 := (i64_w _).trans hji9
    by_cases c10 : 0 ≤ (ji9)
    ·
     rw [if_pos c10] at H
     have c10b0 := eq_true c10
     have c10b1 : decide (0 ≤ (ji9)) = true := decide_eq_true c10
     clear c10
     by_cases c11 : (ji9 : Int).toNat ≤ 8796093022208
     ·
      rw [if_pos c11] at H
      have c11b0 := eq_true c11
      have c11b1 : decide ((ji9 : Int).toNat ≤ 8796093022208) = true := decide_eq_true c11
      clear c11
      obtain ⟨y320, hy320⟩ : ∃ y_ : List (S25), y_ = (List.replicate (ji9 : Int).toNat z25) := ⟨_, rfl⟩
      replace H : ((some (cpy y320 l0 : List (S25))).bind fun y323 => (if 0 ≤ (wrap64 ((l1.length : Int) + 1)) then (if (wrap64 ((l1.length : Int) + 1) : Int).toNat ≤ 8796093022208 then ((some (cpy (List.replicate (wrap64 ((l1.length : Int) + 1) : Int).toNat z25) l1 : List (S25))).bind fun y327 => (if 0 ≤ (l0.length : Int) then (if (l0.length : Int) ≤ (y323.length : Int) then ((some (y323.take ((l0.length : Int) : Int).toNat : List (S25))).bind fun y328 => (if 0 ≤ (l1.length : Int) then (if (l1.length : Int) ≤ (y327.length : Int) then ((some (y327.take ((l1.length : Int) : Int).toNat : List (S25))).bind fun y332 => ((key_Order.f kj3 y328 y332).bind fun t336 => ((unisonref02_Order.f kj3 l0 l1).bind fun t337 => ((unisonlaw02_same.f kj3 y328 l0).bind fun t338 => ((unisonlaw02_same.f kj3 y332 l1).bind fun t339 => ((key_Next.f kj3 a2).bind fun bt340 => ((unisonref02_Next.f kj3 a2).bind fun bt342 => (unisonlaw02_KeyOrders.j1 kj3 t319 t336 t337 t338 t339 bt340.1 bt340.2 bt342.1 bt342.2)))))))) else (none)) else (none))) else (none)) else (none))) else (none)) else (none))) = some r := by first | (rw [hy320]; with_reducible exact H) | (have H2_ := (Option.bind_some _ _).symm.trans H; rw [hy320]; with_reducible exact H2_) | (have H2_ := (Option.bind_some _ _).symm.trans H; with_reducible exact H2_) | with_reducible exact H | (rw [hy320]; exact H) | exact H
      have Ny320 := Aside0.mk hy320
      clear hy320
      obtain ⟨y323, hy323⟩ : ∃ y_ : List (S25), y_ = (cpy y320 l0) := ⟨_, rfl⟩
      replace H : (if 0 ≤ (wrap64 ((l1.length : Int) + 1)) then (if (wrap64 ((l1.length : Int) + 1) : Int).toNat ≤ 8796093022208 then ((some (cpy (List.replicate (wrap64 ((l1.length : Int) + 1) : Int).toNat z25) l1 : List (S25))).bind fun y327 => (if 0 ≤ (l0.length : Int) then (if (l0.length : Int) ≤ (y323.length : Int) then ((some (y323.take ((l0.length : Int) : Int).toNat : List (S25))).bind fun y328 => (if 0 ≤ (l1.length : Int) then (if (l1.length : Int) ≤ (y327.length : Int) then ((some (y327.take ((l1.length : Int) : Int).toNat : List (S25))).bind fun y332 => ((key_Order.f kj3 y328 y332).bind fun t336 => ((unisonref02_Order.f kj3 l0 l1).bind fun t337 => ((unisonlaw02_same.f kj3 y328 l0).bind fun t338 => ((unisonlaw02_same.f kj3 y332 l1).bind fun t339 => ((key_Next.f kj3 a2).bind fun bt340 => ((unisonref02_Next.f kj3 a2).bind fun bt342 => (unisonlaw02_KeyOrders.j1 kj3 t319 t336 t337 t338 t339 bt340.1 bt340.2 bt342.1 bt342.2)))))))) else (none)) else (none))) else (none)) else (none))) else (none)) else (none)) = some r := by first | (rw [hy323]; with_reducible exact H) | (have H2_ := (Option.bind_some _ _).symm.trans H; rw [hy323]; with_reducible exact H2_) | (have H2_ := (Option.bind_some _ _).symm.trans H; with_reducible exact H2_) | with_reducible exact H | (rw [hy323]; exact H) | exact H
      have Ny323 := Aside0.mk hy323
      clear hy323
      obtain ⟨ji12, hji12⟩ : ∃ j_ : Int, (wrap64 ((l1.length : Int) + 1)) = j_ := ⟨_, rfl⟩
      replace H : (if 0 ≤ (ji12) then (if (ji12 : Int).toNat ≤ 8796093022208 then ((some (cpy (List.replicate (ji12 : Int).toNat z25) l1 : List (S25))).bind fun y327 => (if 0 ≤ (l0.length : Int) then (if (l0.length : Int) ≤ (y323.length : Int) then ((some (y323.take ((l0.length : Int) : Int).toNat : List (S25))).bind fun y328 => (if 0 ≤ (l1.length : Int) then (if (l1.length : Int) ≤ (y327.length : Int) then ((some (y327.take ((l1.length : Int) : Int).toNat : List (S25))).bind fun y332 => ((key_Order.f kj3 y328 y332).bind fun t336 => ((unisonref02_Order.f kj3 l0 l1).bind fun t337 => ((unisonlaw02_same.f kj3 y328 l0).bind fun t338 => ((unisonlaw02_same.f kj3 y332 l1).bind fun t339 => ((key_Next.f kj3 a2).bind fun bt340 => ((unisonref02_Next.f kj3 a2).bind fun bt342 => (unisonlaw02_KeyOrders.j1 kj3 t319 t336 t337 t338 t339 bt340.1 bt340.2 bt342.1 bt342.2)))))))) else (none)) else (none))) else (none)) else (none))) else (none)) else (none)) = some r := by first | (rw [hji12] at H; exact H) | (simp only [hji12] at H ⊢; exact H)
      (try rw [hji12] at A8)
      have hji12w : (IntKind.i64.wrap ((l1.length : Int) + 1)) = ji12 := (i64_w _).trans hji12
      by_cases c13 : 0 ≤ (ji12)
      ·
       rw [if_pos c13] at H
       have c13b0 := eq_true c13
       have c13b1 : decide (0 ≤ (ji12)) = true := decide_eq_true c13
       clear c13
       by_cases c14 : (ji12 : Int).toNat ≤ 8796093022208
       ·
        rw [if_pos c14] at H
        have c14b0 := eq_true c14
        have c14b1 : decide ((ji12 : Int).toNat ≤ 8796093022208) = true := decide_eq_true c14
        clear c14
        obtain ⟨y324, hy324⟩ : ∃ y_ : List (S25), y_ = (List.replicate (ji12 : Int).toNat z25) := ⟨_, rfl⟩
        replace H : ((some (cpy y324 l1 : List (S25))).bind fun y327 => (if 0 ≤ (l0.length : Int) then (if (l0.length : Int) ≤ (y323.length : Int) then ((some (y323.take ((l0.length : Int) : Int).toNat : List (S25))).bind fun y328 => (if 0 ≤ (l1.length : Int) then (if (l1.length : Int) ≤ (y327.length : Int) then ((some (y327.take ((l1.length : Int) : Int).toNat : List (S25))).bind fun y332 => ((key_Order.f kj3 y328 y332).bind fun t336 => ((unisonref02_Order.f kj3 l0 l1).bind fun t337 => ((unisonlaw02_same.f kj3 y328 l0).bind fun t338 => ((unisonlaw02_same.f kj3 y332 l1).bind fun t339 => ((key_Next.f kj3 a2).bind fun bt340 => ((unisonref02_Next.f kj3 a2).bind fun bt342 => (unisonlaw02_KeyOrders.j1 kj3 t319 t336 t337 t338 t339 bt340.1 bt340.2 bt342.1 bt342.2)))))))) else (none)) else (none))) else (none)) else (none))) = some r := by first | (rw [hy324]; with_reducible exact H) | (have H2_ := (Option.bind_some _ _).symm.trans H; rw [hy324]; with_reducible exact H2_) | (have H2_ := (Option.bind_some _ _).symm.trans H; with_reducible exact H2_) | with_reducible exact H | (rw [hy324]; exact H) | exact H
        have Ny324 := Aside0.mk hy324
        clear hy324
        obtain ⟨y327, hy327⟩ : ∃ y_ : List (S25), y_ = (cpy y324 l1) := ⟨_, rfl⟩
        replace H : (if 0 ≤ (l0.length : Int) then (if (l0.length : Int) ≤ (y323.length : Int) then ((some (y323.take ((l0.length : Int) : Int).toNat : List (S25))).bind fun y328 => (if 0 ≤ (l1.length : Int) then (if (l1.length : Int) ≤ (y327.length : Int) then ((some (y327.take ((l1.length : Int) : Int).toNat : List (S25))).bind fun y332 => ((key_Order.f kj3 y328 y332).bind fun t336 => ((unisonref02_Order.f kj3 l0 l1).bind fun t337 => ((unisonlaw02_same.f kj3 y328 l0).bind fun t338 => ((unisonlaw02_same.f kj3 y332 l1).bind fun t339 => ((key_Next.f kj3 a2).bind fun bt340 => ((unisonref02_Next.f kj3 a2).bind fun bt342 => (unisonlaw02_KeyOrders.j1 kj3 t319 t336 t337 t338 t339 bt340.1 bt340.2 bt342.1 bt342.2)))))))) else (none)) else (none))) else (none)) else (none)) = some r := by first | (rw [hy327]; with_reducible exact H) | (have H2_ := (Option.bind_some _ _).symm.trans H; rw [hy327]; with_reducible exact H2_) | (have H2_ := (Option.bind_some _ _).symm.trans H; with_reducible exact H2_) | with_reducible exact H | (rw [hy327]; exact H) | exact H
        have Ny327 := Aside0.mk hy327
        clear hy327
        by_cases c15 : 0 ≤ (l0.length : Int)
        ·
         rw [if_pos c15] at H
         have c15b0 := eq_true c15
         have c15b1 : decide (0 ≤ (l0.length : Int)) = true := decide_eq_true c15
         clear c15
         by_cases c16 : (l0.length : Int) ≤ (y323.length : Int)
         ·
          rw [if_pos c16] at H
          have c16b0 := eq_true c16
          have c16b1 : decide ((l0.length : Int) ≤ (y323.length : Int)) = true := decide_eq_true c16
          clear c16
          obtain ⟨y328, hy328⟩ : ∃ y_ : List (S25), y_ = (y323.take ((l0.length : Int) : Int).toNat) := ⟨_, rfl⟩
          replace H : (if 0 ≤ (l1.length : Int) then (if (l1.length : Int) ≤ (y327.length : Int) then ((some (y327.take ((l1.length : Int) : Int).toNat : List (S25))).bind fun y332 => ((key_Order.f kj3 y328 y332).bind fun t336 => ((unisonref02_Order.f kj3 l0 l1).bind fun t337 => ((unisonlaw02_same.f kj3 y328 l0).bind fun t338 => ((unisonlaw02_same.f kj3 y332 l1).bind fun t339 => ((key_Next.f kj3 a2).bind fun bt340 => ((unisonref02_Next.f kj3 a2).bind fun bt342 => (unisonlaw02_KeyOrders.j1 kj3 t319 t336 t337 t338 t339 bt340.1 bt340.2 bt342.1 bt342.2)))))))) else (none)) else (none)) = some r := by first | (rw [hy328]; with_reducible exact H) | (have H2_ := (Option.bind_some _ _).symm.trans H; rw [hy328]; with_reducible exact H2_) | (have H2_ := (Option.bind_some _ _).symm.trans H; with_reducible exact H2_) | with_reducible exact H | (rw [hy328]; exact H) | exact H
          have Ny328 := Aside0.mk hy328
          clear hy328
          by_cases c17 : 0 ≤ (l1.length : Int)
          ·
           rw [if_pos c17] at H
           have c17b0 := eq_true c17
           have c17b1 : decide (0 ≤ (l1.length : Int)) = true := decide_eq_true c17
           clear c17
           by_cases c18 : (l1.length : Int) ≤ (y327.length : Int)
           ·
            rw [if_pos c18] at H
            have c18b0 := eq_true c18
            have c18b1 : decide ((l1.length : Int) ≤ (y327.length : Int)) = true := decide_eq_true c18
            clear c18
            obtain ⟨y332, hy332⟩ : ∃ y_ : List (S25), y_ = (y327.take ((l1.length : Int) : Int).toNat) := ⟨_, rfl⟩
            replace H : ((key_Order.f kj3 y328 y332).bind fun t336 => ((unisonref02_Order.f kj3 l0 l1).bind fun t337 => ((unisonlaw02_same.f kj3 y328 l0).bind fun t338 => ((unisonlaw02_same.f kj3 y332 l1).bind fun t339 => ((key_Next.f kj3 a2).bind fun bt340 => ((unisonref02_Next.f kj3 a2).bind fun bt342 => (unisonlaw02_KeyOrders.j1 kj3 t319 t336 t337 t338 t339 bt340.1 bt340.2 bt342.1 bt342.2))))))) = some r := by first | (rw [hy332]; with_reducible exact H) | (have H2_ := (Option.bind_some _ _).symm.trans H; rw [hy332]; with_reducible exact H2_) | (have H2_ := (Option.bind_some _ _).symm.trans H; with_reducible exact H2_) | with_reducible exact H | (rw [hy332]; exact H) | exact H
            have Ny332 := Aside0.mk hy332
            clear hy332
            replace H := Option.bind_eq_some_iff.mp H
            obtain ⟨t336, A190, H⟩ := H
            replace H : ((unisonref02_Order.f kj3 l0 l1).bind fun t337 => ((unisonlaw02_same.f kj3 y328 l0).bind fun t338 => ((unisonlaw02_same.f kj3 y332 l1).bind fun t339 => ((key_Next.f kj3 a2).bind fun bt340 => ((unisonref02_Next.f kj3 a2).bind fun bt342 => (unisonlaw02_KeyOrders.j1 kj3 t319 t336 t337 t338 t339 bt340.1 bt340.2 bt342.1 bt342.2)))))) = some r := H
            have A19 := Aside0.mk A190
            clear A190
            replace H := Option.bind_eq_some_iff.mp H
            obtain ⟨t337, A200, H⟩ := H
            replace H : ((unisonlaw02_same.f kj3 y328 l0).bind fun t338 => ((unisonlaw02_same.f kj3 y332 l1).bind fun t339 => ((key_Next.f kj3 a2).bind fun bt340 => ((unisonref02_Next.f kj3 a2).bind fun bt342 => (unisonlaw02_KeyOrders.j1 kj3 t319 t336 t337 t338 t339 bt340.1 bt340.2 bt342.1 bt342.2))))) = some r := H
            have A20 := Aside0.mk A200
            clear A200
            replace H := Option.bind_eq_some_iff.mp H
            obtain ⟨t338, A210, H⟩ := H
            replace H : ((unisonlaw02_same.f kj3 y332 l1).bind fun t339 => ((key_Next.f kj3 a2).bind fun bt340 => ((unisonref02_Next.f kj3 a2).bind fun bt342 => (unisonlaw02_KeyOrders.j1 kj3 t319 t336 t337 t338 t339 bt340.1 bt340.2 bt342.1 bt342.2)))) = some r := H
            have A21 := Aside0.mk A210
            clear A210
            replace H := Option.bind_eq_some_iff.mp H
            obtain ⟨t339, A220, H⟩ := H
            replace H : ((key_Next.f kj3 a2).bind fun bt340 => ((unisonref02_Next.f kj3 a2).bind fun bt342 => (unisonlaw02_KeyOrders.j1 kj3 t319 t336 t337 t338 t339 bt340.1 bt340.2 bt342.1 bt342.2))) = some r := H
            have A22 := Aside0.mk A220
            clear A220
            replace H := Option.bind_eq_some_iff.mp H
            obtain ⟨⟨t340, t341⟩, A230, H⟩ := H
            replace H : ((unisonref02_Next.f kj3 a2).bind fun bt342 => (unisonlaw02_KeyOrders.j1 kj3 t319 t336 t337 t338 t339 t340 t341 bt342.1 bt342.2)) = some r := H
            have A23 := Aside0.mk A230
            clear A230
            have HC24 := Aside0.mk H
            clear H
            try go_wp2_with (first | ((with_reducible refine gate_callee (f := 10) rfl ?_); refine goesL_ (some 31) rfl rfl Tryd.func10 (by kernel_rfl) rfl #[] rfl (by (try simp only [List.map_toArray, List.map_cons, List.map_nil]); first | done | rfl | (simp only [List.length_drop, List.length_take]; rfl)) ?_; (with_reducible refine (unisonlaw02_awake.calls kj3  t319 _ A8.out).mono ?_); rintro e w25 ⟨rfl, hb⟩; refine ⟨_, rfl, ?_⟩; have n0_ := Aside0.mk (below_step (by repeat (first | (with_reducible first | exact HB.out | apply below_alloc | apply pw_below_drewN | apply below_drew1) | exact HB.out)) hb); clear HB; have HB := n0_; clear n0_; (try clear hb); (try clear hb2); (try clear hk); (try clear hi)) | ((with_reducible refine gate_dst (N := 35) rfl ?_); (try (refine gate_guard (by rfl) ?_; dsimp only)); refine Kd.R_make k25 _ 25 rfl (N := 35) rfl 22 _ _ rfl ji9 rfl rfl Tryd.underlying22 (.agg #[(.int .i64 0), (.int .i64 0), (.string ⟨#[]⟩)]) 32 info25 rfl (by decide) (by omega) z25 (ok := fun _ => True) (okp := fun _ => True) (k25_mkM _ _ _ z25 ) (fun _ hk => hk) trivial (of_decide_eq_true (by first | (with_reducible assumption) | assumption)) (Nat.le_trans (Nat.mul_le_mul_right _ (of_decide_eq_true (by first | (with_reducible assumption) | assumption) : ji9.toNat ≤ 8796093022208)) (by omega)) (Below.refl _ _) (Nat.le_refl _) ?_; intro v321 w26 ho27 hb hg_ hnew_; clear hg_ hnew_; (first | rw [← Ny320.out] at ho27 | (simp only [Int.reduceToNat] at ho27; rw [← Ny320.out] at ho27)); have n0_ := Aside0.mk (Kd.R_lower ho27 (below_size (by repeat (first | (with_reducible first | exact HB.out | apply below_alloc | apply pw_below_drewN | apply below_drew1) | exact HB.out)))); have n1_ := Aside0.mk (below_step (by repeat (first | (with_reducible first | exact HB.out | apply below_alloc | apply pw_below_drewN | apply below_drew1) | exact HB.out)) hb); clear HB; have HO322 := n0_; have HB := n1_; clear n0_ n1_; clear hb ho27) | ((with_reducible refine gate_builtin (b := .copy) (xs := #[.tmp 36, .tmp 37]) rfl ?_); (try (refine gate_guard (by rfl) ?_; dsimp only)); refine R_copy k25 (w0 := w) w.heap.size rfl (.tmp 36) (.tmp 37) 22 25 (.agg #[(.int .i64 0), (.int .i64 0), (.string ⟨#[]⟩)]) 32 rfl Tryd.underlying22 info25 (by decide) v321 y320 l0 _ _ _ (fun _ => True) rfl rfl ?aO ?aR (fun _ _ _ _ h => h) (fun _ _ _ _ _ h => h) ?aB ?_; (case aO => exact (by (with_reducible repeat (first | apply Kd.R_alloc | apply Kd.R_drewN | apply Kd.R_drew)); exact HO322.out)); (case aR => repeat (first | exact (Kd.C_below HR0.out HB.out) | (with_reducible refine Kd.C_alloc ?_ _) | (with_reducible refine Kd.C_drewN ?_ _) | (with_reducible refine Kd.C_drew ?_))); (case aB => exact (by repeat (first | (with_reducible first | exact HB.out | apply below_alloc | apply pw_below_drewN | apply below_drew1) | exact HB.out))); intro w28 ho hb hg; rw [← Ny323.out] at ho; have n0_ := Aside0.mk (ho); have n1_ := Aside0.mk (hb); clear HO322; clear HB; have HO322 := n0_; have HB := n1_; clear n0_ n1_; clear ho hb hg) | ((with_reducible refine gate_dst (N := 42) rfl ?_); (try (refine gate_guard (by rfl) ?_; dsimp only)); refine Kd.R_make k25 _ 25 rfl (N := 42) rfl 22 _ _ rfl ji12 rfl rfl Tryd.underlying22 (.agg #[(.int .i64 0), (.int .i64 0), (.string ⟨#[]⟩)]) 32 info25 rfl (by decide) (by omega) z25 (ok := fun _ => True) (okp := fun _ => True) (k25_mkM _ _ _ z25 ) (fun _ hk => hk) trivial (of_decide_eq_true (by first | (with_reducible assumption) | assumption)) (Nat.le_trans (Nat.mul_le_mul_right _ (of_decide_eq_true (by first | (with_reducible assumption) | assumption) : ji12.toNat ≤ 8796093022208)) (by omega)) (Below.refl _ _) (Nat.le_refl _) ?_; intro v325 w29 ho30 hb hg_ hnew_; clear hg_ hnew_; (first | rw [← Ny324.out] at ho30 | (simp only [Int.reduceToNat] at ho30; rw [← Ny324.out] at ho30)); have n0_ := Aside0.mk (Kd.R_elder' (by (with_reducible repeat (first | apply Kd.R_alloc | apply Kd.R_drewN | apply Kd.R_drew)); exact HO322.out) (Kd.R_base ho30) hb); have n1_ := Aside0.mk (Kd.R_lower (Kd.R_new' ho30 (Kd.R_lt (by (with_reducible repeat (first | apply Kd.R_alloc | apply Kd.R_drewN | apply Kd.R_drew)); exact HO322.out))) (below_size (by repeat (first | (with_reducible first | exact HB.out | apply below_alloc | apply pw_below_drewN | apply below_drew1) | exact HB.out)))); have n2_ := Aside0.mk (below_step (by repeat (first | (with_reducible first | exact HB.out | apply below_alloc | apply pw_below_drewN | apply below_drew1) | exact HB.out)) hb); clear HO322; clear HB; have HO322 := n0_; have HO326 := n1_; have HB := n2_; clear n0_ n1_ n2_; clear hb ho30; have n_ := Aside0.mk (Kd.R_mono (ok' := (fun k_ => some k_ ≠ (v321 : Value).ownBlock)) HO326.out (fun k_ hk => hk.2)); clear HO326; have HO326 := n_; clear n_) | ((with_reducible refine gate_builtin (b := .copy) (xs := #[.tmp 43, .tmp 44]) rfl ?_); (try (refine gate_guard (by rfl) ?_; dsimp only)); refine R_copy k25 (w0 := w) w.heap.size rfl (.tmp 43) (.tmp 44) 22 25 (.agg #[(.int .i64 0), (.int .i64 0), (.string ⟨#[]⟩)]) 32 rfl Tryd.underlying22 info25 (by decide) v325 y324 l1 _ _ _ (fun k_ => some k_ ≠ (v321 : Value).ownBlock) rfl rfl ?aO ?aR (fun _ _ _ _ h => h) (fun _ _ _ _ _ h => h) ?aB ?_; (case aO => exact (by (with_reducible repeat (first | apply Kd.R_alloc | apply Kd.R_drewN | apply Kd.R_drew)); exact HO326.out)); (case aR => repeat (first | exact (Kd.C_below HR1.out HB.out) | (with_reducible refine Kd.C_alloc ?_ _) | (with_reducible refine Kd.C_drewN ?_ _) | (with_reducible refine Kd.C_drew ?_))); (case aB => exact (by repeat (first | (with_reducible first | exact HB.out | apply below_alloc | apply pw_below_drewN | apply below_drew1) | exact HB.out))); intro w31 ho hb hg; rw [← Ny327.out] at ho; have n0_ := Aside0.mk (Kd.R_after (v := v325) (v1 := v325) (ok := (fun _ => True)) (by (with_reducible repeat (first | apply Kd.R_alloc | apply Kd.R_drewN | apply Kd.R_drew)); exact HO322.out) hg (.inl rfl)); have n1_ := Aside0.mk (ho); have n2_ := Aside0.mk (hb); clear HO322; clear HO326; clear HB; have HO322 := n0_; have HO326 := n1_; have HB := n2_; clear n0_ n1_ n2_; clear ho hb hg))
            have n0_ := Aside0.mk (Kd.R_drew HO322.out)
            have n1_ := Aside0.mk (Kd.R_drew HO326.out)
            have n2_ := Aside0.mk (below_drew1 HB.out)
            clear HO322
            clear HO326
            clear HB
            have HO322 := n0_
            have HO326 := n1_
            have HB := n2_
            clear n0_ n1_ n2_
            obtain ⟨Ao34, co34, eo34⟩ := Kd.R_slice HO322.out
            (first | subst eo34 | (injection eo34 with f1_ f2_ f3_; have f4_ := f1_.symm; have f5_ := f3_.symm; clear f1_ f2_ f3_; subst f4_; subst f5_))
            have q33 : ((l0.length : Int) : Int) ≤ ((y323.length : Int) : Int) := of_decide_eq_true (by first | (with_reducible assumption) | assumption)
            obtain ⟨i033, hi033, _, hsz33, _⟩ := info_parts info25
            have hroom33 : y323.length ≤ co34 := (Kd.R_reads' HO322.out).2.1
            have hC33 : Kd.C k25 _ Ao34 y323.length y323 := (Kd.R_reads' HO322.out).2.2
            have hcut33 := cut_to (P := Tryd.prog) 22 25 .i64 Tryd.underlying22 hi033 Ao34 y323.length co34 (l0.length : Int) (of_decide_eq_true (by first | (with_reducible assumption) | assumption)) q33 hroom33
            have hr33 := Kd.C_take (m := ((l0.length : Int) : Int).toNat) hC33 (by omega)
            have hy33 : y328.length = ((l0.length : Int) : Int).toNat := (by rw [Ny328.out, List.length_take]; omega)
            rw [← Ny328.out] at hr33
            rw [← hy33] at hcut33
            have HR331 := Aside0.mk hr33
            have HC331 := Aside0.mk (show y328.length ≤ co34 from by omega)
            clear hr33 hC33 hroom33 hi033 hsz33
            have KY33 := Aside0.mk hy33
            clear hy33
            have KL33 := Aside0.mk (show ((l0.length : Int) : Int).toNat ≤ y323.length from by omega)
            replace q33 := eq_true q33
            obtain ⟨Ao36, co36, eo36⟩ := Kd.R_slice HO326.out
            (first | subst eo36 | (injection eo36 with f1_ f2_ f3_; have f4_ := f1_.symm; have f5_ := f3_.symm; clear f1_ f2_ f3_; subst f4_; subst f5_))
            have q35 : ((l1.length : Int) : Int) ≤ ((y327.length : Int) : Int) := of_decide_eq_true (by first | (with_reducible assumption) | assumption)
            obtain ⟨i035, hi035, _, hsz35, _⟩ := info_parts info25
            have hroom35 : y327.length ≤ co36 := (Kd.R_reads' HO326.out).2.1
            have hC35 : Kd.C k25 _ Ao36 y327.length y327 := (Kd.R_reads' HO326.out).2.2
            have hcut35 := cut_to (P := Tryd.prog) 22 25 .i64 Tryd.underlying22 hi035 Ao36 y327.length co36 (l1.length : Int) (of_decide_eq_true (by first | (with_reducible assumption) | assumption)) q35 hroom35
            have hr35 := Kd.C_take (m := ((l1.length : Int) : Int).toNat) hC35 (by omega)
            have hy35 : y332.length = ((l1.length : Int) : Int).toNat := (by rw [Ny332.out, List.length_take]; omega)
            rw [← Ny332.out] at hr35
            rw [← hy35] at hcut35
            have HR335 := Aside0.mk hr35
            have HC335 := Aside0.mk (show y332.length ≤ co36 from by omega)
            clear hr35 hC35 hroom35 hi035 hsz35
            have KY35 := Aside0.mk hy35
            clear hy35
            have KL35 := Aside0.mk (show ((l1.length : Int) : Int).toNat ≤ y327.length from by omega)
            replace q35 := eq_true q35
            refine start_ (n := 10) (S := fun w' => True) (ds := []) #[false, false, false, false, false, false, false, false, false, false] (by kernel_rfl) rfl rfl trivial (fun hHeld => ?_); refine with_tabW unisonlaw02_KeyOrders.tab8 unisonlaw02_KeyOrders.bits8 (fun HT_ HW_ => ?_)
            generalize w31.drew = w32 at HO322 HO326 HB HR331 HR335 hHeld ⊢
            refine pure_ (i := 0) (N := some 46) (v := ?_) (a' := ?_) #[true, false, false, false, false, false, false, false, false, false] rfl rfl (any_of HT_.out (by kernel_rfl)) (fun _ _ _ h => h) (Or.inl ⟨by rfl, ?_⟩) ?_ ?_
            rotate_left; focus (intro w'; go_simp; with_reducible rfl; done)
            rotate_left; focus (simp only [Act.put, List.setIfInBounds_toArray, List.set_cons_zero, List.set_cons_succ, i64_w, i32_w, u8_w, u32_w]; rfl; done)
            refine pure_ (i := 1) (N := some 47) (v := ?_) (a' := ?_) #[true, true, false, false, false, false, false, false, false, false] rfl rfl (any_of HT_.out (by kernel_rfl)) (fun _ _ _ h => h) (Or.inl ⟨by rfl, ?_⟩) ?_ ?_
            rotate_left; focus (intro w'; go_simp; with_reducible rfl; done)
            rotate_left; focus (simp only [Act.put, List.setIfInBounds_toArray, List.set_cons_zero, List.set_cons_succ, i64_w, i32_w, u8_w, u32_w]; rfl; done)
            refine pure_ (i := 2) (N := some 48) (v := ?_) (a' := ?_) #[true, true, true, false, false, false, false, false, false, false] rfl rfl (any_of HT_.out (by kernel_rfl)) (fun _ _ _ h => h) (Or.inl ⟨by rfl, ?_⟩) ?_ ?_
            rotate_left; focus (intro w'; go_simp; with_reducible rfl; done)
            rotate_left; focus (simp only [Act.put, List.setIfInBounds_toArray, List.set_cons_zero, List.set_cons_succ, i64_w, i32_w, u8_w, u32_w]; rfl; done)
            refine pure_ (i := 3) (N := some 49) (v := ?_) (a' := ?_) #[true, true, true, true, false, false, false, false, false, false] rfl rfl (any_of HT_.out (by kernel_rfl)) (fun _ _ _ h => h) (Or.inl ⟨by rfl, ?_⟩) ?_ ?_
            rotate_left; focus (intro w'; go_simp; with_reducible rfl; done)
            rotate_left; focus (simp only [Act.put, List.setIfInBounds_toArray, List.set_cons_zero, List.set_cons_succ, i64_w, i32_w, u8_w, u32_w]; rfl; done)
            refine pure_ (i := 4) (N := some 50) (v := ?_) (a' := ?_) #[true, true, true, true, true, false, false, false, false, false] rfl rfl (any_of HT_.out (by kernel_rfl)) (fun _ _ _ h => h) (Or.inl ⟨by rfl, ?_⟩) ?_ ?_
            rotate_left; focus (intro w'; go_simp; with_reducible rfl; done)
            rotate_left; focus (simp only [Act.put, List.setIfInBounds_toArray, List.set_cons_zero, List.set_cons_succ, i64_w, i32_w, u8_w, u32_w]; rfl; done)
            refine pure_ (i := 5) (N := some 51) (v := ?_) (a' := ?_) #[true, true, true, true, true, true, false, false, false, false] rfl rfl (any_of HT_.out (by kernel_rfl)) (fun _ _ _ h => h) (Or.inl ⟨by rfl, ?_⟩) ?_ ?_
            rotate_left; focus (intro w'; go_simp; with_reducible rfl; done)
            rotate_left; focus (simp only [Act.put, List.setIfInBounds_toArray, List.set_cons_zero, List.set_cons_succ, i64_w, i32_w, u8_w, u32_w]; rfl; done)
            refine pure_ (i := 6) (N := some 52) (v := ?_) (a' := ?_) #[true, true, true, true, true, true, true, false, false, false] rfl rfl (any_of HT_.out (by kernel_rfl)) (fun _ _ _ h => h) (Or.inl ⟨by rfl, ?_⟩) ?_ ?_
            rotate_left; focus (intro w'; go_simp; with_reducible rfl; done)
            rotate_left; focus (simp only [Act.put, List.setIfInBounds_toArray, List.set_cons_zero, List.set_cons_succ, i64_w, i32_w, u8_w, u32_w]; rfl; done)
            refine pure_ (i := 7) (N := some 53) (v := ?_) (a' := ?_) #[true, true, true, true, true, true, true, true, false, false] rfl rfl (any_of HT_.out (by kernel_rfl)) (fun _ _ _ h => h) (Or.inl ⟨by rfl, ?_⟩) ?_ ?_
            rotate_left; focus (intro w'; go_simp; with_reducible rfl; done)
            rotate_left; focus (simp only [Act.put, List.setIfInBounds_toArray, List.set_cons_zero, List.set_cons_succ, i64_w, i32_w, u8_w, u32_w]; rfl; done)
            refine one_ (i := 8) (N := some 54) #[true, true, true, true, true, true, true, true, true, false] rfl rfl (one_of HT_.out (by kernel_rfl)) (by decide) (fun K hK => ?_)
            refine goes_ Tryd.func17 (by kernel_rfl) rfl #[.slice Ao34 y328.length co34, .slice Ao36 y332.length co36] (by rfl) rfl rfl (by (try simp only [List.map_toArray, List.map_cons, List.map_nil]); first | done | rfl | (simp only [List.length_drop, List.length_take]; rfl)) ?_
            with_reducible refine (key_Order.calls kj3 _ _ y328 _ _ y332 t336 _ ?side1 ?side2 ?side3 ?side4 A19.out).mono ?_
            (case side1 => repeat (first | exact (by repeat (first | (with_reducible exact HR331.out) | (with_reducible refine Kd.C_alloc ?_ _) | (with_reducible refine Kd.C_drewN ?_ _) | (with_reducible refine Kd.C_drew ?_) | exact HR331.out)) | (with_reducible refine Kd.C_alloc ?_ _) | (with_reducible refine Kd.C_drewN ?_ _) | (with_reducible refine Kd.C_drew ?_)))
            (case side2 => exact HC331.out)
            (case side3 => repeat (first | exact (by repeat (first | (with_reducible exact HR335.out) | (with_reducible refine Kd.C_alloc ?_ _) | (with_reducible refine Kd.C_drewN ?_ _) | (with_reducible refine Kd.C_drew ?_) | exact HR335.out)) | (with_reducible refine Kd.C_alloc ?_ _) | (with_reducible refine Kd.C_drewN ?_ _) | (with_reducible refine Kd.C_drew ?_)))
            (case side4 => exact HC335.out)
            rintro e w37 ⟨rfl, hb⟩
            refine ⟨_, rfl, ?_⟩
            have n0_ := Aside0.mk (Kd.R_below (by (with_reducible repeat (first | apply Kd.R_alloc | apply Kd.R_drewN | apply Kd.R_drew)); exact HO322.out) hb)
            have n1_ := Aside0.mk (Kd.R_below (by (with_reducible repeat (first | apply Kd.R_alloc | apply Kd.R_drewN | apply Kd.R_drew)); exact HO326.out) hb)
            have n2_ := Aside0.mk (Kd.C_below (by repeat (first | (with_reducible exact HR331.out) | (with_reducible refine Kd.C_alloc ?_ _) | (with_reducible refine Kd.C_drewN ?_ _) | (with_reducible refine Kd.C_drew ?_) | exact HR331.out)) hb)
            have n3_ := Aside0.mk (Kd.C_below (by repeat (first | (with_reducible exact HR335.out) | (with_reducible refine Kd.C_alloc ?_ _) | (with_reducible refine Kd.C_drewN ?_ _) | (with_reducible refine Kd.C_drew ?_) | exact HR335.out)) hb)
            have n4_ := Aside0.mk (below_step (by repeat (first | (with_reducible first | exact HB.out | apply below_alloc | apply pw_below_drewN | apply below_drew1) | exact HB.out)) hb)
            clear HO322
            clear HO326
            clear HR331
            clear HR335
            clear HB
            have HO322 := n0_
            have HO326 := n1_
            have HR331 := n2_
            have HR335 := n3_
            have HB := n4_
            clear n0_ n1_ n2_ n3_ n4_
            (try clear hb)
            (try clear hb2)
            (try clear hk)
            (try clear hi)
            refine hK.out _ _ trivial (fun hHeld => ?_)
            clear hK K
            refine norm_ (a' := ?_) ?_ ?_
            rotate_left; focus (show Act.put _ (some 54) _ = _; simp only [Act.put, List.setIfInBounds_toArray, List.set_cons_zero, List.set_cons_succ, i64_w, i32_w, u8_w, u32_w]; rfl; done)
            refine pure_ (i := 9) (N := some 10) (v := ?_) (a' := ?_) #[true, true, true, true, true, true, true, true, true, true] rfl rfl (any_of HT_.out (by kernel_rfl)) (fun _ _ _ h => h) (Or.inl ⟨by rfl, ?_⟩) ?_ ?_
            rotate_left; focus (intro w'; go_simp; with_reducible rfl; done)
            rotate_left; focus (simp only [Act.put, List.setIfInBounds_toArray, List.set_cons_zero, List.set_cons_succ, i64_w, i32_w, u8_w, u32_w]; rfl; done)
            refine done_ (done_of HT_.out (by kernel_rfl)) ?_
            go_upto_region 13 with (first | ((with_reducible refine gate_callee (f := 18) rfl ?_); refine goesL_ (some 57) rfl rfl Tryd.func18 (by kernel_rfl) rfl #[.slice A0 l0.length c0, .slice A1 l1.length c1] rfl (by (try simp only [List.map_toArray, List.map_cons, List.map_nil]); first | done | rfl | (simp only [List.length_drop, List.length_take]; rfl)) ?_; (with_reducible refine (unisonref02_Order.calls kj3 _ _ l0 _ _ l1 t337 _ ?side1 ?side2 ?side3 ?side4 A20.out).mono ?_); (case side1 => repeat (first | exact (Kd.C_below HR0.out HB.out) | (with_reducible refine Kd.C_alloc ?_ _) | (with_reducible refine Kd.C_drewN ?_ _) | (with_reducible refine Kd.C_drew ?_))); (case side2 => exact HC0.out); (case side3 => repeat (first | exact (Kd.C_below HR1.out HB.out) | (with_reducible refine Kd.C_alloc ?_ _) | (with_reducible refine Kd.C_drewN ?_ _) | (with_reducible refine Kd.C_drew ?_))); (case side4 => exact HC1.out); rintro e w38 ⟨rfl, hb⟩; refine ⟨_, rfl, ?_⟩; have n0_ := Aside0.mk (Kd.R_below (by (with_reducible repeat (first | apply Kd.R_alloc | apply Kd.R_drewN | apply Kd.R_drew)); exact HO322.out) hb); have n1_ := Aside0.mk (Kd.R_below (by (with_reducible repeat (first | apply Kd.R_alloc | apply Kd.R_drewN | apply Kd.R_drew)); exact HO326.out) hb); have n2_ := Aside0.mk (Kd.C_below (by repeat (first | (with_reducible exact HR331.out) | (with_reducible refine Kd.C_alloc ?_ _) | (with_reducible refine Kd.C_drewN ?_ _) | (with_reducible refine Kd.C_drew ?_) | exact HR331.out)) hb); have n3_ := Aside0.mk (Kd.C_below (by repeat (first | (with_reducible exact HR335.out) | (with_reducible refine Kd.C_alloc ?_ _) | (with_reducible refine Kd.C_drewN ?_ _) | (with_reducible refine Kd.C_drew ?_) | exact HR335.out)) hb); have n4_ := Aside0.mk (below_step (by repeat (first | (with_reducible first | exact HB.out | apply below_alloc | apply pw_below_drewN | apply below_drew1) | exact HB.out)) hb); clear HO322; clear HO326; clear HR331; clear HR335; clear HB; have HO322 := n0_; have HO326 := n1_; have HR331 := n2_; have HR335 := n3_; have HB := n4_; clear n0_ n1_ n2_ n3_ n4_; (try clear hb); (try clear hb2); (try clear hk); (try clear hi)) | ((with_reducible refine gate_callee (f := 14) rfl ?_); refine goesL_ (some 63) rfl rfl Tryd.func14 (by kernel_rfl) rfl #[.slice Ao34 y328.length co34, .slice A0 l0.length c0] rfl (by (try simp only [List.map_toArray, List.map_cons, List.map_nil]); first | done | rfl | (simp only [List.length_drop, List.length_take]; rfl)) ?_; (with_reducible refine (unisonlaw02_same.calls kj3 _ _ y328 _ _ l0 t338 _ ?side1 ?side2 ?side3 ?side4 A21.out).mono ?_); (case side1 => repeat (first | exact (by repeat (first | (with_reducible exact HR331.out) | (with_reducible refine Kd.C_alloc ?_ _) | (with_reducible refine Kd.C_drewN ?_ _) | (with_reducible refine Kd.C_drew ?_) | exact HR331.out)) | (with_reducible refine Kd.C_alloc ?_ _) | (with_reducible refine Kd.C_drewN ?_ _) | (with_reducible refine Kd.C_drew ?_))); (case side2 => exact HC331.out); (case side3 => repeat (first | exact (Kd.C_below HR0.out HB.out) | (with_reducible refine Kd.C_alloc ?_ _) | (with_reducible refine Kd.C_drewN ?_ _) | (with_reducible refine Kd.C_drew ?_))); (case side4 => exact HC0.out); rintro e w' ⟨rfl, ⟨nd, rfl⟩⟩; refine ⟨_, rfl, ?_⟩) | ((with_reducible refine gate_callee (f := 14) rfl ?_); refine goesL_ (some 69) rfl rfl Tryd.func14 (by kernel_rfl) rfl #[.slice Ao36 y332.length co36, .slice A1 l1.length c1] rfl (by (try simp only [List.map_toArray, List.map_cons, List.map_nil]); first | done | rfl | (simp only [List.length_drop, List.length_take]; rfl)) ?_; (with_reducible refine (unisonlaw02_same.calls kj3 _ _ y332 _ _ l1 t339 _ ?side1 ?side2 ?side3 ?side4 A22.out).mono ?_); (case side1 => repeat (first | exact (by repeat (first | (with_reducible exact HR335.out) | (with_reducible refine Kd.C_alloc ?_ _) | (with_reducible refine Kd.C_drewN ?_ _) | (with_reducible refine Kd.C_drew ?_) | exact HR335.out)) | (with_reducible refine Kd.C_alloc ?_ _) | (with_reducible refine Kd.C_drewN ?_ _) | (with_reducible refine Kd.C_drew ?_))); (case side2 => exact HC335.out); (case side3 => repeat (first | exact (Kd.C_below HR1.out (by repeat (first | (with_reducible first | exact HB.out | apply below_alloc | apply pw_below_drewN | apply below_drew1) | exact HB.out))) | (with_reducible refine Kd.C_alloc ?_ _) | (with_reducible refine Kd.C_drewN ?_ _) | (with_reducible refine Kd.C_drew ?_))); (case side4 => exact HC1.out); rintro e w' ⟨rfl, ⟨nd, rfl⟩⟩; refine ⟨_, rfl, ?_⟩) | ((with_reducible refine gate_callee (f := 19) rfl ?_); refine goesL_ (some 72) rfl rfl Tryd.func19 (by kernel_rfl) rfl #[.string a2] rfl (by (try simp only [List.map_toArray, List.map_cons, List.map_nil]); first | done | rfl | (simp only [List.length_drop, List.length_take]; rfl)) ?_; (with_reducible refine (key_Next.calls kj3 a2 t340 t341 _ A23.out).mono ?_); rintro e w39 ⟨rfl, hb⟩; refine ⟨_, rfl, ?_⟩; have n0_ := Aside0.mk (Kd.R_below (by (with_reducible repeat (first | apply Kd.R_alloc | apply Kd.R_drewN | apply Kd.R_drew)); exact HO322.out) hb); have n1_ := Aside0.mk (Kd.R_below (by (with_reducible repeat (first | apply Kd.R_alloc | apply Kd.R_drewN | apply Kd.R_drew)); exact HO326.out) hb); have n2_ := Aside0.mk (Kd.C_below (by repeat (first | (with_reducible exact HR331.out) | (with_reducible refine Kd.C_alloc ?_ _) | (with_reducible refine Kd.C_drewN ?_ _) | (with_reducible refine Kd.C_drew ?_) | exact HR331.out)) hb); have n3_ := Aside0.mk (Kd.C_below (by repeat (first | (with_reducible exact HR335.out) | (with_reducible refine Kd.C_alloc ?_ _) | (with_reducible refine Kd.C_drewN ?_ _) | (with_reducible refine Kd.C_drew ?_) | exact HR335.out)) hb); have n4_ := Aside0.mk (below_step (by repeat (first | (with_reducible first | exact HB.out | apply below_alloc | apply pw_below_drewN | apply below_drew1) | exact HB.out)) hb); clear HO322; clear HO326; clear HR331; clear HR335; clear HB; have HO322 := n0_; have HO326 := n1_; have HR331 := n2_; have HR335 := n3_; have HB := n4_; clear n0_ n1_ n2_ n3_ n4_; (try clear hb); (try clear hb2); (try clear hk); (try clear hi)))
            (try simp only [Act.put, List.setIfInBounds_toArray, List.set_cons_zero, List.set_cons_succ])
            go_cut [16, 17] (fun v16 v17 wc => ∃ (kq : Nat) (x16_23 : ByteArray) (x17_23 : Bool), v16 = .string x16_23 ∧ v17 = .bool x17_23 ∧ Aside0 (unisonlaw02_KeyOrders.j1 kq t319 t336 t337 t338 t339 t340 t341 x16_23 x17_23 = some r) ∧ Aside0 (kq ≤ kj3) ∧ Aside0 (Kd.C k25 wc Ao34 y328.length y328) ∧ Aside0 (Kd.C k25 wc Ao36 y332.length y332) ∧ Aside0 (Below w.heap.size w wc))
            case first =>
             have H := HC24.out
             clear HC24
             replace H := Option.bind_eq_some_iff.mp H
             obtain ⟨⟨t342, t343⟩, A400, H⟩ := H
             replace H : (unisonlaw02_KeyOrders.j1 kj3 t319 t336 t337 t338 t339 t340 t341 t342 t343) = some r := H
             have A40 := Aside0.mk A400
             clear A400
             have H' := Aside0.mk H
             clear H
             go_wp2_with (first | ((with_reducible refine gate_callee (f := 20) rfl ?_); refine goesL_ (some 77) rfl rfl Tryd.func20 (by kernel_rfl) rfl #[.string a2] rfl (by (try simp only [List.map_toArray, List.map_cons, List.map_nil]); first | done | rfl | (simp only [List.length_drop, List.length_take]; rfl)) ?_; (with_reducible refine (unisonref02_Next.calls kj3 a2 t342 t343 _ A40.out).mono ?_); rintro e w41 ⟨rfl, hb⟩; refine ⟨_, rfl, ?_⟩; have n0_ := Aside0.mk (Kd.R_below (by (with_reducible repeat (first | apply Kd.R_alloc | apply Kd.R_drewN | apply Kd.R_drew)); exact HO322.out) hb); have n1_ := Aside0.mk (Kd.R_below (by (with_reducible repeat (first | apply Kd.R_alloc | apply Kd.R_drewN | apply Kd.R_drew)); exact HO326.out) hb); have n2_ := Aside0.mk (Kd.C_below (by repeat (first | (with_reducible exact HR331.out) | (with_reducible refine Kd.C_alloc ?_ _) | (with_reducible refine Kd.C_drewN ?_ _) | (with_reducible refine Kd.C_drew ?_) | exact HR331.out)) hb); have n3_ := Aside0.mk (Kd.C_below (by repeat (first | (with_reducible exact HR335.out) | (with_reducible refine Kd.C_alloc ?_ _) | (with_reducible refine Kd.C_drewN ?_ _) | (with_reducible refine Kd.C_drew ?_) | exact HR335.out)) hb); have n4_ := Aside0.mk (below_step (by repeat (first | (with_reducible first | exact HB.out | apply below_alloc | apply pw_below_drewN | apply below_drew1) | exact HB.out)) hb); clear HO322; clear HO326; clear HR331; clear HR335; clear HB; have HO322 := n0_; have HO326 := n1_; have HR331 := n2_; have HR335 := n3_; have HB := n4_; clear n0_ n1_ n2_ n3_ n4_; (try clear hb); (try clear hb2); (try clear hk); (try clear hi)))
             go_meet
             case rel => exact ⟨_, (t342), (t343), (by first | rfl | (simp; done) | (simp [*]; done)), (by first | rfl | (simp; done) | (simp [*]; done)), H', ⟨by have := HJ3.out; first | omega | exact Nat.le_refl _⟩, ⟨by repeat (first | (with_reducible exact HR331.out) | (with_reducible refine Kd.C_alloc ?_ _) | (with_reducible refine Kd.C_drewN ?_ _) | (with_reducible refine Kd.C_drew ?_) | exact HR331.out)⟩, ⟨by repeat (first | (with_reducible exact HR335.out) | (with_reducible refine Kd.C_alloc ?_ _) | (with_reducible refine Kd.C_drewN ?_ _) | (with_reducible refine Kd.C_drew ?_) | exact HR335.out)⟩, ⟨by repeat (first | (with_reducible first | exact HB.out | apply below_alloc | apply pw_below_drewN | apply below_drew1) | exact HB.out)⟩⟩
            case rest =>
             clear HC24
             try clear c1
             try clear c2
             try clear p2
             try clear q3
             try clear c5
             try clear c5b0
             try clear c5b1
             try clear c6
             try clear c6b0
             try clear c6b1
             try clear p6
             try clear c7
             try clear c10
             try clear c10b0
             try clear c10b1
             try clear c11
             try clear c11b0
             try clear c11b1
             try clear c13
             try clear c13b0
             try clear c13b1
             try clear c14
             try clear c14b0
             try clear c14b1
             try clear c15
             try clear c15b0
             try clear c15b1
             try clear c16
             try clear c16b0
             try clear c16b1
             try clear c17
             try clear c17b0
             try clear c17b1
             try clear c18
             try clear c18b0
             try clear c18b1
             try clear c19
             try clear c20
             try clear q33
             try clear q35
             try clear p2
             try clear q33
             try clear q35
             obtain ⟨kq, x16_23, x17_23, rfl, rfl, HA, HJ23, HR331, HR335, HB⟩ := hcut
             cases kq with
             | zero => exact absurd HA.out (by simp [unisonlaw02_KeyOrders.j1])
             | succ kj23 =>
              have H := HA.out
              clear HA
              simp only [unisonlaw02_KeyOrders.j1] at H
              by_cases c42 : t319 = true
              ·
               subst c42
               have H1 : (if t338 = true then (if t339 = true then (if t336 = t337 then (if t340.toList = x16_23.toList then (some (t341 == x17_23)) else (none)) else (none)) else (none)) else (none)) = some r := by (first | rw [if_pos rfl] at H | rw [if_pos True.intro] at H | skip); exact H
               clear H
               have H := H1
               clear H1
               by_cases c43 : t338 = true
               ·
                subst c43
                have H1 : (if t339 = true then (if t336 = t337 then (if t340.toList = x16_23.toList then (some (t341 == x17_23)) else (none)) else (none)) else (none)) = some r := by (first | rw [if_pos rfl] at H | rw [if_pos True.intro] at H | skip); exact H
                clear H
                have H := H1
                clear H1
                by_cases c44 : t339 = true
                ·
                 subst c44
                 have H1 : (if t336 = t337 then (if t340.toList = x16_23.toList then (some (t341 == x17_23)) else (none)) else (none)) = some r := by (first | rw [if_pos rfl] at H | rw [if_pos True.intro] at H | skip); exact H
                 clear H
                 have H := H1
                 clear H1
                 by_cases c45 : t336 = t337
                 ·
                  rw [if_pos c45] at H
                  have c45b0 : (t336 == t337) = true := beq_iff_eq.mpr c45
                  have c45b1 : (t336 != t337) = false := bne_eq_false_iff_eq.mpr c45
                  clear c45
                  by_cases c46 : t340.toList = x16_23.toList
                  ·
                   rw [if_pos c46] at H
                   have c46b0 : (t340.toList == x16_23.toList) = true := beq_iff_eq.mpr c46
                   have c46b1 : (t340.toList != x16_23.toList) = false := bne_eq_false_iff_eq.mpr c46
                   clear c46
                   obtain rfl := Option.some.inj H
                   go_wp2
                   go_ret
                   exact ⟨by first | (simp only [ByteArray.size_extract, Nat.min_self]; rfl) | rfl | (simp [errW_none, errW_some] <;> rfl) | (simp only [← hji9, ← hji12]; first | rfl | (simp [errW_none, errW_some] <;> rfl)) | (simp [*, errW_none, errW_some] <;> rfl), by repeat (first | (with_reducible first | exact HB.out | apply below_alloc | apply pw_below_drewN | apply below_drew1) | exact HB.out)⟩
                  ·
                   rw [if_neg c46] at H
                   exact absurd H (by simp)
                 ·
                  rw [if_neg c45] at H
                  exact absurd H (by simp)
                ·
                 replace c44 := Bool.eq_false_iff.mpr c44
                 subst c44
                 have H1 : (none) = some r := by rw [if_neg (show ¬ (false = true) by decide)] at H; exact H
                 clear H
                 have H := H1
                 clear H1
                 exact absurd H (by simp)
               ·
                replace c43 := Bool.eq_false_iff.mpr c43
                subst c43
                have H1 : (none) = some r := by rw [if_neg (show ¬ (false = true) by decide)] at H; exact H
                clear H
                have H := H1
                clear H1
                exact absurd H (by simp)
              ·
               replace c42 := Bool.eq_false_iff.mpr c42
               subst c42
               have H1 : (none) = some r := by rw [if_neg (show ¬ (false = true) by decide)] at H; exact H
               clear H
               have H := H1
               clear H1
               exact absurd H (by simp)
           ·
            rw [if_neg c18] at H
            exact absurd H (by simp)
          ·
           rw [if_neg c17] at H
           exact absurd H (by simp)
         ·
          rw [if_neg c16] at H
          exact absurd H (by simp)
        ·
         rw [if_neg c15] at H
         exact absurd H (by simp)
       ·
        rw [if_neg c14] at H
        exact absurd H (by simp)
      ·
       rw [if_neg c13] at H
       exact absurd H (by simp)
     ·
      rw [if_neg c11] at H
      exact absurd H (by simp)
    ·
     rw [if_neg c10] at H
     exact absurd H (by simp)

end Go.Proofs.YtohknmlcleifpaaDoor.PA
