-- Laid by a program of ours (wip/gen/xprint.py). Not trusted: Lean checks it.
import Derived.Test.YtohknmlcleifpaaDoorPAx0
import Derived.Test.YtohknmlcleifpaaDoorPAx1
import Derived.Test.YtohknmlcleifpaaDoorPAx2
import Derived.Test.YtohknmlcleifpaaDoorPAx3
import Derived.Test.YtohknmlcleifpaaDoorPAx8
import Derived.Test.YtohknmlcleifpaaDoorPAx10
namespace Go.Proofs.YtohknmlcleifpaaDoor.PA
open Go.RowKit Go.Proofs.YtohknmlcleifpaaDoorW.PrintWords Go.Proofs.YtohknmlcleifpaaDoorW.PrintLast Go.Proofs.YtohknmlcleifpaaDoorW.PrintMore Go.Proofs.YtohknmlcleifpaaDoorX
attribute [local go_sem] max2_int min2_int max_two min_two max_three min_three max_four min_four   -- for this text's walks alone
set_option linter.unusedVariables false
set_option linter.unusedSimpArgs false

attribute [local go_sem high] eqA25
theorem unisonlaw02_KeyWrites.kn9 (r0_ : Int) (r1_ : Int) (r2_ : ByteArray) (h_ : unisonlaw02_number.f 77 = some (r0_, r1_, r2_)) : r0_ = 1 ∧ r1_ = 77 ∧ r2_ = (⟨#[]⟩ : ByteArray) := by
  have h2_ : unisonlaw02_number.f 77 = some (1, 77, (⟨#[]⟩ : ByteArray)) := by kernel_rfl
  have h3_ := Option.some.inj (h_.symm.trans h2_)
  simpa only [Prod.mk.injEq] using h3_
/-! ### unisonlaw02_KeyWrites: function 3 -/
def unisonlaw02_KeyWrites.j0 : Nat → List (S25) → Bool → List (S25) → ByteArray → Int → ByteArray → Int → Bool → Option (Bool)
 | 0, _, _, _, _, _, _, _, _ => none
 | k + 1, x0, x3, x4, x5, x6, x7, x8, x9 => if x3 = true then (if x9 = true then (if 0 ≤ (x0.length : Int) then (if (x0.length : Int) < (x4.length : Int) then ((unisonlaw02_number.f 77).bind fun _ => (if (((rd_T25 x4 (x0.length : Int)).f0) == 1 && (((rd_T25 x4 (x0.length : Int)).f1) == 77 && ((((rd_T25 x4 (x0.length : Int)).f2).toList) == ([] : List UInt8)))) = true then (if 0 ≤ (wrap64 ((x0.length : Int) + 1)) then (if (wrap64 ((x0.length : Int) + 1)) < (x4.length : Int) then (if (((rd_T25 x4 (wrap64 ((x0.length : Int) + 1))).f0) == 0 && (((rd_T25 x4 (wrap64 ((x0.length : Int) + 1))).f1) == 0 && ((((rd_T25 x4 (wrap64 ((x0.length : Int) + 1))).f2).toList) == ([] : List UInt8)))) = true then (if x5.toList = x7.toList then (some (x6 == x8)) else (none)) else (none)) else (none)) else (none)) else (none))) else (none)) else (none)) else (none)) else (none)
def unisonlaw02_KeyWrites.f (k : Nat) (l0 : List (S25)) : Option (Bool) := if (l0.length : Int) > 2147483647 then (some true) else ((unisonlaw02_awake.f k).bind fun t243 => (if 0 ≤ (wrap64 ((l0.length : Int) + 2)) then (if (wrap64 ((l0.length : Int) + 2) : Int).toNat ≤ 8796093022208 then ((some (cpy (List.replicate (wrap64 ((l0.length : Int) + 2) : Int).toNat z25) l0 : List (S25))).bind fun y247 => ((unisonlaw02_number.f 77).bind fun _ => (if 0 ≤ (l0.length : Int) then (if (l0.length : Int) < (y247.length : Int) then ((some (y247.set ((l0.length : Int) : Int).toNat (⟨1, 77, (⟨#[]⟩ : ByteArray)⟩ : S25) : List (S25))).bind fun y251 => (if (l0.length : Int) ≤ (y247.length : Int) then ((some (y251.take ((l0.length : Int) : Int).toNat : List (S25))).bind fun y252 => ((key_Encode.f k y252).bind fun bt256 => ((unisonref02_Encode.f k l0).bind fun bt258 => ((unisonlaw02_same.f k y252 l0).bind fun t260 => (unisonlaw02_KeyWrites.j0 k l0 t243 y251 bt256.1 bt256.2 bt258.1 bt258.2 t260))))) else (none))) else (none)) else (none)))) else (none)) else (none)))
theorem unisonlaw02_KeyWrites.mono_l : ∀ k, (∀ y0 y1 y2 y3 y4 y5 y6 y7, LeO (unisonlaw02_KeyWrites.j0 k y0 y1 y2 y3 y4 y5 y6 y7) (unisonlaw02_KeyWrites.j0 (k + 1) y0 y1 y2 y3 y4 y5 y6 y7))
 | 0 => fun _ _ _ _ _ _ _ _ r h => by simp [unisonlaw02_KeyWrites.j0] at h
 | k + 1 => by
  have ih0 := unisonlaw02_KeyWrites.mono_l k
  ·
   intro y0 y1 y2 y3 y4 y5 y6 y7
   unfold unisonlaw02_KeyWrites.j0
   repeat' first
   | (with_reducible exact ih0 _ _ _ _ _ _ _ _)
   | (with_reducible exact key_Encode.mono _ _)
   | (with_reducible exact unisonlaw02_awake.mono _)
   | (with_reducible exact unisonlaw02_same.mono _ _ _)
   | (with_reducible exact unisonref02_Encode.mono _ _)
   | (with_reducible exact LeO.refl _)
   | (with_reducible exact LeO.none _)
   | (with_reducible refine LeO.ite ?_ ?_)
   | (with_reducible refine LeO.bind ?_ (fun _ => ?_))
   | exact ih0 _ _ _ _ _ _ _ _
   | exact key_Encode.mono _ _
   | exact unisonlaw02_awake.mono _
   | exact unisonlaw02_same.mono _ _ _
   | exact unisonref02_Encode.mono _ _
   | exact LeO.none _
   | refine LeO.ite ?_ ?_
   | refine LeO.bind ?_ (fun _ => ?_)
theorem unisonlaw02_KeyWrites.mono : ∀ a0 k, LeO (unisonlaw02_KeyWrites.f k a0) (unisonlaw02_KeyWrites.f (k + 1) a0) := by
 intro a0 k
 have ih0 := unisonlaw02_KeyWrites.mono_l k
 unfold unisonlaw02_KeyWrites.f
 repeat' first
   | (with_reducible exact ih0 _ _ _ _ _ _ _ _)
   | (with_reducible exact key_Encode.mono _ _)
   | (with_reducible exact unisonlaw02_awake.mono _)
   | (with_reducible exact unisonlaw02_same.mono _ _ _)
   | (with_reducible exact unisonref02_Encode.mono _ _)
   | (with_reducible exact LeO.refl _)
   | (with_reducible exact LeO.none _)
   | (with_reducible refine LeO.ite ?_ ?_)
   | (with_reducible refine LeO.bind ?_ (fun _ => ?_))
   | exact ih0 _ _ _ _ _ _ _ _
   | exact key_Encode.mono _ _
   | exact unisonlaw02_awake.mono _
   | exact unisonlaw02_same.mono _ _ _
   | exact unisonref02_Encode.mono _ _
   | exact LeO.none _
   | refine LeO.ite ?_ ?_
   | refine LeO.bind ?_ (fun _ => ?_)
def unisonlaw02_KeyWrites.T10 : Bool × List (List Nat × List Nat) := (true, [([], []), ([0], [0]), ([1], [1]), ([1, 2], [1, 2]), ([3, 1], [3]), ([4], [4]), ([4], [4]), ([6, 4], [4, 6]), ([5, 7, 4], [4, 5, 7]), ([8, 4], [4, 8]), ([4, 4], [4]), ([9, 10, 4], [4, 9, 10]), ([4, 11], [4, 11]), ([12, 10], [12]), ([13], [13]), ([13], [13]), ([15, 13], [13, 15]), ([16, 13], [13, 16]), ([14, 17, 13], [13, 14, 17]), ([18, 13], [13, 18]), ([13], [13]), ([19, 20, 13], [13, 19, 20]), ([13, 21], [13, 21]), ([22, 13], [22]), ([23], [23]), ([23], [23]), ([24, 25, 23], [23, 24, 25]), ([23, 26], [23, 26]), ([27, 23], [27]), ([28], [28]), ([28], [28]), ([29, 30, 28], [28, 29, 30]), ([28, 31], [28, 31]), ([32, 28, 0, 1, 2, 3, 4, 5, 6, 7, 8, 9, 10, 11, 12, 13, 14, 15, 16, 17, 18, 19, 20, 21, 22, 23, 24, 25, 26, 27, 28, 29, 30, 31, 32], [32])])
def unisonlaw02_KeyWrites.B10 : List Nat := [0, 1, 3, 7, 15, 31, 31, 95, 255, 511, 31, 2047, 4095, 8191, 16383, 16383, 49151, 114687, 262143, 524287, 16383, 2097151, 4194303, 8388607, 16777215, 16777215, 67108863, 134217727, 268435455, 536870911, 536870911, 2147483647, 4294967295, 8589934591]
theorem unisonlaw02_KeyWrites.tab10 : rtab .any (opsOf Tryd.f3 10) = unisonlaw02_KeyWrites.T10 := by kernel_rfl
theorem unisonlaw02_KeyWrites.bits10 : waitsOk unisonlaw02_KeyWrites.T10.2 unisonlaw02_KeyWrites.B10 = true := by kernel_rfl
set_option maxHeartbeats 8000000 in
set_option maxRecDepth 100000 in
theorem unisonlaw02_KeyWrites.calls (k : Nat) (A0 : Option Addr) (c0 : Nat) (l0 : List (S25)) (r : Bool) (w : World) (hr0 : Kd.C k25 w A0 l0.length l0) (hc0 : l0.length ≤ c0) (h : unisonlaw02_KeyWrites.f k l0 = some r) :
  Calls Tryd.prog 3 #[.slice A0 l0.length c0] w fun e w' => e = .returned (.bool r) ∧ Below w.heap.size w w' := by
 have hu25 := Tryd.underlying25
 have HR0 := Aside0.mk hr0
 have HC0 := Aside0.mk hc0
 clear hr0 hc0
 have HB := Aside0.mk (Below.refl w.heap.size w)
 have H : (if (l0.length : Int) > 2147483647 then (some true) else ((unisonlaw02_awake.f k).bind fun t243 => (if 0 ≤ (wrap64 ((l0.length : Int) + 2)) then (if (wrap64 ((l0.length : Int) + 2) : Int).toNat ≤ 8796093022208 then ((some (cpy (List.replicate (wrap64 ((l0.length : Int) + 2) : Int).toNat z25) l0 : List (S25))).bind fun y247 => ((unisonlaw02_number.f 77).bind fun _ => (if 0 ≤ (l0.length : Int) then (if (l0.length : Int) < (y247.length : Int) then ((some (y247.set ((l0.length : Int) : Int).toNat (⟨1, 77, (⟨#[]⟩ : ByteArray)⟩ : S25) : List (S25))).bind fun y251 => (if (l0.length : Int) ≤ (y247.length : Int) then ((some (y251.take ((l0.length : Int) : Int).toNat : List (S25))).bind fun y252 => ((key_Encode.f k y252).bind fun bt256 => ((unisonref02_Encode.f k l0).bind fun bt258 => ((unisonlaw02_same.f k y252 l0).bind fun t260 => (unisonlaw02_KeyWrites.j0 k l0 t243 y251 bt256.1 bt256.2 bt258.1 bt258.2 t260))))) else (none))) else (none)) else (none)))) else (none)) else (none)))) = some r := h
 clear h
 by_cases c2 : (l0.length : Int) > 2147483647
 ·
  rw [if_pos c2] at H
  have c2b0 : decide (2147483647 < (l0.length : Int)) = true := decide_eq_true c2
  have c2b1 : decide (2147483647 < l0.length) = true := decide_eq_true (by omega)
  clear c2
  obtain rfl := Option.some.inj H
  go_enter Tryd.func3, Tryd.ntmps3
  go_wp2
  go_ret
  exact ⟨by first | rfl | (simp [errW_none, errW_some] <;> rfl) | (simp [*, errW_none, errW_some] <;> rfl), by repeat (first | (with_reducible first | exact HB.out | apply below_alloc | apply pw_below_drewN | apply below_drew1) | exact HB.out)⟩
 ·
  rw [if_neg c2] at H
  have c2b0 : decide (2147483647 < (l0.length : Int)) = false := decide_eq_false c2
  have c2b1 : decide (2147483647 < l0.length) = false := decide_eq_false (by omega)
  clear c2
  replace H := Option.bind_eq_some_iff.mp H
  obtain ⟨t243, A30, H⟩ := H
  replace H : (if 0 ≤ (wrap64 ((l0.length : Int) + 2)) then (if (wrap64 ((l0.length : Int) + 2) : Int).toNat ≤ 8796093022208 then ((some (cpy (List.replicate (wrap64 ((l0.length : Int) + 2) : Int).toNat z25) l0 : List (S25))).bind fun y247 => ((unisonlaw02_number.f 77).bind fun _ => (if 0 ≤ (l0.length : Int) then (if (l0.length : Int) < (y247.length : Int) then ((some (y247.set ((l0.length : Int) : Int).toNat (⟨1, 77, (⟨#[]⟩ : ByteArray)⟩ : S25) : List (S25))).bind fun y251 => (if (l0.length : Int) ≤ (y247.length : Int) then ((some (y251.take ((l0.length : Int) : Int).toNat : List (S25))).bind fun y252 => ((key_Encode.f k y252).bind fun bt256 => ((unisonref02_Encode.f k l0).bind fun bt258 => ((unisonlaw02_same.f k y252 l0).bind fun t260 => (unisonlaw02_KeyWrites.j0 k l0 t243 y251 bt256.1 bt256.2 bt258.1 bt258.2 t260))))) else (none))) else (none)) else (none)))) else (none)) else (none)) = some r := H
  have A3 := Aside0.mk A30
  clear A30
  obtain ⟨ji4, hji4⟩ : ∃ j_ : Int, (wrap64 ((l0.length : Int) + 2)) = j_ := ⟨_, rfl⟩
  replace H : (if 0 ≤ (ji4) then (if (ji4 : Int).toNat ≤ 8796093022208 then ((some (cpy (List.replicate (ji4 : Int).toNat z25) l0 : List (S25))).bind fun y247 => ((unisonlaw02_number.f 77).bind fun _ => (if 0 ≤ (l0.length : Int) then (if (l0.length : Int) < (y247.length : Int) then ((some (y247.set ((l0.length : Int) : Int).toNat (⟨1, 77, (⟨#[]⟩ : ByteArray)⟩ : S25) : List (S25))).bind fun y251 => (if (l0.length : Int) ≤ (y247.length : Int) then ((some (y251.take ((l0.length : Int) : Int).toNat : List (S25))).bind fun y252 => ((key_Encode.f k y252).bind fun bt256 => ((unisonref02_Encode.f k l0).bind fun bt258 => ((unisonlaw02_same.f k y252 l0).bind fun t260 => (unisonlaw02_KeyWrites.j0 k l0 t243 y251 bt256.1 bt256.2 bt258.1 bt258.2 t260))))) else (none))) else (none)) else (none)))) else (none)) else (none)) = some r := by first | (rw [hji4] at H; exact H) | (simp only [hji4] at H ⊢; exact H)
  (try rw [hji4] at A3)
  have hji4w : (IntKind.i64.wrap ((l0.length : Int) + 2)) = ji4 := (i64_w _).trans hji4
  by_cases c5 : 0 ≤ (ji4)
  ·
   rw [if_pos c5] at H
   have c5b0 := eq_true c5
   have c5b1 : decide (0 ≤ (ji4)) = true := decide_eq_true c5
   clear c5
   by_cases c6 : (ji4 : Int).toNat ≤ 8796093022208
   ·
    rw [if_pos c6] at H
    have c6b0 := eq_true c6
    have c6b1 : decide ((ji4 : Int).toNat ≤ 8796093022208) = true := decide_eq_true c6
    clear c6
    obtain ⟨y244, hy244⟩ : ∃ y_ : List (S25), y_ = (List.replicate (ji4 : Int).toNat z25) := ⟨_, rfl⟩
    replace H : ((some (cpy y244 l0 : List (S25))).bind fun y247 => ((unisonlaw02_number.f 77).bind fun _ => (if 0 ≤ (l0.length : Int) then (if (l0.length : Int) < (y247.length : Int) then ((some (y247.set ((l0.length : Int) : Int).toNat (⟨1, 77, (⟨#[]⟩ : ByteArray)⟩ : S25) : List (S25))).bind fun y251 => (if (l0.length : Int) ≤ (y247.length : Int) then ((some (y251.take ((l0.length : Int) : Int).toNat : List (S25))).bind fun y252 => ((key_Encode.f k y252).bind fun bt256 => ((unisonref02_Encode.f k l0).bind fun bt258 => ((unisonlaw02_same.f k y252 l0).bind fun t260 => (unisonlaw02_KeyWrites.j0 k l0 t243 y251 bt256.1 bt256.2 bt258.1 bt258.2 t260))))) else (none))) else (none)) else (none)))) = some r := by first | (rw [hy244]; with_reducible exact H) | (have H2_ := (Option.bind_some _ _).symm.trans H; rw [hy244]; with_reducible exact H2_) | (have H2_ := (Option.bind_some _ _).symm.trans H; with_reducible exact H2_) | with_reducible exact H | (rw [hy244]; exact H) | exact H
    have Ny244 := Aside0.mk hy244
    clear hy244
    obtain ⟨y247, hy247⟩ : ∃ y_ : List (S25), y_ = (cpy y244 l0) := ⟨_, rfl⟩
    replace H : ((unisonlaw02_number.f 77).bind fun _ => (if 0 ≤ (l0.length : Int) then (if (l0.length : Int) < (y247.length : Int) then ((some (y247.set ((l0.length : Int) : Int).toNat (⟨1, 77, (⟨#[]⟩ : ByteArray)⟩ : S25) : List (S25))).bind fun y251 => (if (l0.length : Int) ≤ (y247.length : Int) then ((some (y251.take ((l0.length : Int) : Int).toNat : List (S25))).bind fun y252 => ((key_Encode.f k y252).bind fun bt256 => ((unisonref02_Encode.f k l0).bind fun bt258 => ((unisonlaw02_same.f k y252 l0).bind fun t260 => (unisonlaw02_KeyWrites.j0 k l0 t243 y251 bt256.1 bt256.2 bt258.1 bt258.2 t260))))) else (none))) else (none)) else (none))) = some r := by first | (rw [hy247]; with_reducible exact H) | (have H2_ := (Option.bind_some _ _).symm.trans H; rw [hy247]; with_reducible exact H2_) | (have H2_ := (Option.bind_some _ _).symm.trans H; with_reducible exact H2_) | with_reducible exact H | (rw [hy247]; exact H) | exact H
    have Ny247 := Aside0.mk hy247
    clear hy247
    replace H := Option.bind_eq_some_iff.mp H
    obtain ⟨⟨t248, t249, t250⟩, A70, H⟩ := H
    replace H : (if 0 ≤ (l0.length : Int) then (if (l0.length : Int) < (y247.length : Int) then ((some (y247.set ((l0.length : Int) : Int).toNat (⟨1, 77, (⟨#[]⟩ : ByteArray)⟩ : S25) : List (S25))).bind fun y251 => (if (l0.length : Int) ≤ (y247.length : Int) then ((some (y251.take ((l0.length : Int) : Int).toNat : List (S25))).bind fun y252 => ((key_Encode.f k y252).bind fun bt256 => ((unisonref02_Encode.f k l0).bind fun bt258 => ((unisonlaw02_same.f k y252 l0).bind fun t260 => (unisonlaw02_KeyWrites.j0 k l0 t243 y251 bt256.1 bt256.2 bt258.1 bt258.2 t260))))) else (none))) else (none)) else (none)) = some r := H
    have hk_ : t248 = 1 ∧ t249 = 77 ∧ t250 = (⟨#[]⟩ : ByteArray) := unisonlaw02_KeyWrites.kn9 _ _ _ (by have h_ := A70; exact h_)
    obtain ⟨rfl, rfl, rfl⟩ := hk_
    have A7 := Aside0.mk A70
    clear A70
    by_cases c8 : 0 ≤ (l0.length : Int)
    ·
     rw [if_pos c8] at H
     have c8b0 : decide (0 ≤ (l0.length : Int)) = true := decide_eq_true c8
     have c8b1 : decide (0 ≤ l0.length) = true := decide_eq_true (by omega)
     clear c8
     by_cases c9 : (l0.length : Int) < (y247.length : Int)
     ·
      rw [if_pos c9] at H
      have c9b0 : decide ((l0.length : Int) < (y247.length : Int)) = true := decide_eq_true c9
      have c9b1 : decide (l0.length < y247.length) = true := decide_eq_true (Int.ofNat_lt.mp c9)
      clear c9
      obtain ⟨y251, hy251⟩ : ∃ y_ : List (S25), y_ = (y247.set ((l0.length : Int) : Int).toNat (⟨1, 77, (⟨#[]⟩ : ByteArray)⟩ : S25)) := ⟨_, rfl⟩
      replace H : (if (l0.length : Int) ≤ (y247.length : Int) then ((some (y251.take ((l0.length : Int) : Int).toNat : List (S25))).bind fun y252 => ((key_Encode.f k y252).bind fun bt256 => ((unisonref02_Encode.f k l0).bind fun bt258 => ((unisonlaw02_same.f k y252 l0).bind fun t260 => (unisonlaw02_KeyWrites.j0 k l0 t243 y251 bt256.1 bt256.2 bt258.1 bt258.2 t260))))) else (none)) = some r := by first | (rw [hy251]; with_reducible exact H) | (have H2_ := (Option.bind_some _ _).symm.trans H; rw [hy251]; with_reducible exact H2_) | (have H2_ := (Option.bind_some _ _).symm.trans H; with_reducible exact H2_) | with_reducible exact H | (rw [hy251]; exact H) | exact H
      have Ny251 := Aside0.mk hy251
      clear hy251
      have c11b0 := eq_true (of_decide_eq_true (by first | (with_reducible assumption) | assumption) : 0 ≤ (l0.length : Int))
      by_cases c12 : (l0.length : Int) ≤ (y247.length : Int)
      ·
       rw [if_pos c12] at H
       have c12b0 := eq_true c12
       have c12b1 : decide ((l0.length : Int) ≤ (y247.length : Int)) = true := decide_eq_true c12
       clear c12
       obtain ⟨y252, hy252⟩ : ∃ y_ : List (S25), y_ = (y251.take ((l0.length : Int) : Int).toNat) := ⟨_, rfl⟩
       replace H : ((key_Encode.f k y252).bind fun bt256 => ((unisonref02_Encode.f k l0).bind fun bt258 => ((unisonlaw02_same.f k y252 l0).bind fun t260 => (unisonlaw02_KeyWrites.j0 k l0 t243 y251 bt256.1 bt256.2 bt258.1 bt258.2 t260)))) = some r := by first | (rw [hy252]; with_reducible exact H) | (have H2_ := (Option.bind_some _ _).symm.trans H; rw [hy252]; with_reducible exact H2_) | (have H2_ := (Option.bind_some _ _).symm.trans H; with_reducible exact H2_) | with_reducible exact H | (rw [hy252]; exact H) | exact H
       have Ny252 := Aside0.mk hy252
       clear hy252
       replace H := Option.bind_eq_some_iff.mp H
       obtain ⟨⟨t256, t257⟩, A130, H⟩ := H
       replace H : ((unisonref02_Encode.f k l0).bind fun bt258 => ((unisonlaw02_same.f k y252 l0).bind fun t260 => (unisonlaw02_KeyWrites.j0 k l0 t243 y251 t256 t257 bt258.1 bt258.2 t260))) = some r := H
       have A13 := Aside0.mk A130
       clear A130
       replace H := Option.bind_eq_some_iff.mp H
       obtain ⟨⟨t258, t259⟩, A140, H⟩ := H
       replace H : ((unisonlaw02_same.f k y252 l0).bind fun t260 => (unisonlaw02_KeyWrites.j0 k l0 t243 y251 t256 t257 t258 t259 t260)) = some r := H
       have A14 := Aside0.mk A140
       clear A140
       have HC15 := Aside0.mk H
       clear H
       go_enter Tryd.func3, Tryd.ntmps3
       go_upto_region 9 with (first | ((with_reducible refine gate_callee (f := 10) rfl ?_); refine goesL_ (some 13) rfl rfl Tryd.func10 (by kernel_rfl) rfl #[] rfl (by (try simp only [List.map_toArray, List.map_cons, List.map_nil]); first | done | rfl | (simp only [List.length_drop, List.length_take]; rfl)) ?_; (with_reducible refine (unisonlaw02_awake.calls k  t243 _ A3.out).mono ?_); rintro e w16 ⟨rfl, hb⟩; refine ⟨_, rfl, ?_⟩; have n0_ := Aside0.mk (below_step (by repeat (first | (with_reducible first | exact HB.out | apply below_alloc | apply pw_below_drewN | apply below_drew1) | exact HB.out)) hb); clear HB; have HB := n0_; clear n0_; (try clear hb); (try clear hb2); (try clear hk); (try clear hi)) | ((with_reducible refine gate_dst (N := 17) rfl ?_); (try (refine gate_guard (by rfl) ?_; dsimp only)); refine Kd.R_make k25 _ 25 rfl (N := 17) rfl 22 _ _ rfl ji4 rfl rfl Tryd.underlying22 (.agg #[(.int .i64 0), (.int .i64 0), (.string ⟨#[]⟩)]) 32 info25 rfl (by decide) (by omega) z25 (ok := fun _ => True) (okp := fun _ => True) (k25_mkM _ _ _ z25 ) (fun _ hk => hk) trivial (of_decide_eq_true (by first | (with_reducible assumption) | assumption)) (Nat.le_trans (Nat.mul_le_mul_right _ (of_decide_eq_true (by first | (with_reducible assumption) | assumption) : ji4.toNat ≤ 8796093022208)) (by omega)) (Below.refl _ _) (Nat.le_refl _) ?_; intro v245 w17 ho18 hb hg_ hnew_; clear hg_ hnew_; (first | rw [← Ny244.out] at ho18 | (simp only [Int.reduceToNat] at ho18; rw [← Ny244.out] at ho18)); have n0_ := Aside0.mk (Kd.R_lower ho18 (below_size (by repeat (first | (with_reducible first | exact HB.out | apply below_alloc | apply pw_below_drewN | apply below_drew1) | exact HB.out)))); have n1_ := Aside0.mk (below_step (by repeat (first | (with_reducible first | exact HB.out | apply below_alloc | apply pw_below_drewN | apply below_drew1) | exact HB.out)) hb); clear HB; have HO246 := n0_; have HB := n1_; clear n0_ n1_; clear hb ho18) | ((with_reducible refine gate_builtin (b := .copy) (xs := #[.tmp 18, .tmp 19]) rfl ?_); (try (refine gate_guard (by rfl) ?_; dsimp only)); refine R_copy k25 (w0 := w) w.heap.size rfl (.tmp 18) (.tmp 19) 22 25 (.agg #[(.int .i64 0), (.int .i64 0), (.string ⟨#[]⟩)]) 32 rfl Tryd.underlying22 info25 (by decide) v245 y244 l0 _ _ _ (fun _ => True) rfl rfl ?aO ?aR (fun _ _ _ _ h => h) (fun _ _ _ _ _ h => h) ?aB ?_; (case aO => exact (by (with_reducible repeat (first | apply Kd.R_alloc | apply Kd.R_drewN | apply Kd.R_drew)); exact HO246.out)); (case aR => repeat (first | exact (Kd.C_below HR0.out HB.out) | (with_reducible refine Kd.C_alloc ?_ _) | (with_reducible refine Kd.C_drewN ?_ _) | (with_reducible refine Kd.C_drew ?_))); (case aB => exact (by repeat (first | (with_reducible first | exact HB.out | apply below_alloc | apply pw_below_drewN | apply below_drew1) | exact HB.out))); intro w19 ho hb hg; rw [← Ny247.out] at ho; have n0_ := Aside0.mk (ho); have n1_ := Aside0.mk (hb); clear HO246; clear HB; have HO246 := n0_; have HB := n1_; clear n0_ n1_; clear ho hb hg) | ((with_reducible refine gate_callee (f := 11) rfl ?_); refine goesL_ (some 24) rfl rfl Tryd.func11 (by kernel_rfl) rfl #[.int .i64 77] rfl (by (try simp only [List.map_toArray, List.map_cons, List.map_nil]); first | done | rfl | (simp only [List.length_drop, List.length_take]; rfl)) ?_; (with_reducible refine (unisonlaw02_number.calls 77 1 77 (⟨#[]⟩ : ByteArray) _ A7.out).mono ?_); rintro e w20 ⟨rfl, hb⟩; refine ⟨_, rfl, ?_⟩; have n0_ := Aside0.mk (Kd.R_below (by (with_reducible repeat (first | apply Kd.R_alloc | apply Kd.R_drewN | apply Kd.R_drew)); exact HO246.out) hb); have n1_ := Aside0.mk (below_step (by repeat (first | (with_reducible first | exact HB.out | apply below_alloc | apply pw_below_drewN | apply below_drew1) | exact HB.out)) hb); clear HO246; clear HB; have HO246 := n0_; have HB := n1_; clear n0_ n1_; (try clear hb); (try clear hb2); (try clear hk); (try clear hi); have p10 : 0 ≤ ((l0.length : Int) : Int) := of_decide_eq_true (by first | (with_reducible assumption) | assumption); have q10 : ((l0.length : Int) : Int) < ((y247.length : Int) : Int) := of_decide_eq_true (by first | (with_reducible assumption) | assumption); obtain ⟨go10, co10, eo10, gb10, gl10, cl10, HG10⟩ := Kd.R_form HO246.out (by omega); (first | cases eo10 | (injection eo10 with ea_ en_ ec_; (first | subst ea_ | (injection ea_ with ea_; subst ea_)); subst ec_; clear en_)); have GB10 := Aside0.mk gb10; have GG10 := Aside0.mk HG10; clear gb10 gl10 HG10; obtain ⟨ce10, hcl10, hM10, hcc10, hfr10⟩ := Kd.R_elem HO246.out z25 ((l0.length : Int) : Int) p10 q10; obtain rfl := k25_openM hM10; have hx10_0 : w20.cell? ⟨go10, ((l0.length : Int) : Int).toNat * 3, none⟩ = some (.int .i64 ((rd_T25 y247 (l0.length : Int)).f0)) := hcc10 0 _ rfl; (try simp only [Int.toNat_natCast] at hx10_0); have hx10_1 : w20.cell? ⟨go10, ((l0.length : Int) : Int).toNat * 3 + 1, none⟩ = some (.int .i64 ((rd_T25 y247 (l0.length : Int)).f1)) := hcc10 1 _ rfl; (try simp only [Int.toNat_natCast] at hx10_1); have hx10_2 : w20.cell? ⟨go10, ((l0.length : Int) : Int).toNat * 3 + 2, none⟩ = some (.string ((rd_T25 y247 (l0.length : Int)).f2)) := hcc10 2 _ rfl; (try simp only [Int.toNat_natCast] at hx10_2); have hf10_0 : w20.frozen? ⟨go10, ((l0.length : Int) : Int).toNat * 3, none⟩ = false := hfr10 0; (try simp only [Int.toNat_natCast] at hf10_0); have hf10_1 : w20.frozen? ⟨go10, ((l0.length : Int) : Int).toNat * 3 + 1, none⟩ = false := hfr10 1; (try simp only [Int.toNat_natCast] at hf10_1); have hf10_2 : w20.frozen? ⟨go10, ((l0.length : Int) : Int).toNat * 3 + 2, none⟩ = false := hfr10 2; (try simp only [Int.toNat_natCast] at hf10_2); clear hcl10 hcc10 hfr10 hM10; replace p10 := eq_true p10; replace q10 := eq_true q10; have HX21 := Aside0.mk (show Kd.R k25 25 w20 w.heap.size (fun _ => True) (.slice (some ⟨go10, 0, none⟩) y247.length co10) y247 from (by (with_reducible repeat (first | apply Kd.R_alloc | apply Kd.R_drewN | apply Kd.R_drew)); exact HO246.out)); obtain ⟨ce21, hcl21, hM21, hcc21, hfr21⟩ := Kd.R_elem HX21.out z25 ((l0.length : Int) : Int) (of_decide_eq_true (by first | (with_reducible assumption) | assumption)) (by have h_ : ((l0.length : Int) : Int) < ((y247.length : Int) : Int) := of_decide_eq_true (by first | (with_reducible assumption) | assumption); first | exact h_ | (have e_ := (Kd.R_reads' HO246.out).1; omega) | simpa using h_); obtain rfl := k25_openM hM21; have HP21 := Kd.R_seg HX21.out ((l0.length : Int) : Int) (of_decide_eq_true (by first | (with_reducible assumption) | assumption)) (by have h_ : ((l0.length : Int) : Int) < ((y247.length : Int) : Int) := of_decide_eq_true (by first | (with_reducible assumption) | assumption); first | exact h_ | (have e_ := (Kd.R_reads' HO246.out).1; omega) | simpa using h_) (seg := [.int .i64 1, .int .i64 77, .string (⟨#[]⟩ : ByteArray)]) (j := 0) hcl21 hcc21 (show 3 ≤ 3 from by decide) (x' := (⟨1, 77, (⟨#[]⟩ : ByteArray)⟩ : S25)) (k25_mkM _ _ _ (⟨1, 77, (⟨#[]⟩ : ByteArray)⟩ : S25) ) (fun _ hk => hk); have hx21_0 := hcc21 0 _ rfl; (try simp only [show (k25).sz = 3 from rfl, Nat.mul_one, Nat.add_zero, Int.toNat_natCast] at hx21_0); have hf21_0 := hfr21 0; (try simp only [show (k25).sz = 3 from rfl, Nat.mul_one, Nat.add_zero, Int.toNat_natCast] at hf21_0); have hx21_1 := hcc21 1 _ rfl; (try simp only [show (k25).sz = 3 from rfl, Nat.mul_one, Nat.add_zero, Int.toNat_natCast] at hx21_1); have hf21_1 := hfr21 1; (try simp only [show (k25).sz = 3 from rfl, Nat.mul_one, Nat.add_zero, Int.toNat_natCast] at hf21_1); have hx21_2 := hcc21 2 _ rfl; (try simp only [show (k25).sz = 3 from rfl, Nat.mul_one, Nat.add_zero, Int.toNat_natCast] at hx21_2); have hf21_2 := hfr21 2; (try simp only [show (k25).sz = 3 from rfl, Nat.mul_one, Nat.add_zero, Int.toNat_natCast] at hf21_2); clear hcl21 hcc21 hfr21 hM21) | ((with_reducible refine gate_store (t := 25) (p := 25) rfl ?_); refine store_event (t := 25) (p := 25) (v := ?vo_w22) (w1 := (((w20.setCell ⟨go10, ((l0.length : Int) : Int).toNat * 3, none⟩ (.int .i64 1)).setCell ⟨go10, ((l0.length : Int) : Int).toNat * 3 + 1, none⟩ (.int .i64 77)).setCell ⟨go10, ((l0.length : Int) : Int).toNat * 3 + 2, none⟩ (.string (⟨#[]⟩ : ByteArray)))) ?hg ?ho ?hn ?hr ?_; (case ho => rfl); (case hg => rfl); (case hn => rfl); (case hr => first | (go_simp; done) | (go_simp; rfl)); intro w22 hw; have hg : w20.grownBy w22 (some go10) := (by rw [hw]; exact HP21.2); have hp_ : Kd.R k25 25 w22 w.heap.size (fun _ => True) (.slice (some ⟨go10, 0, none⟩) y247.length co10) y251 := (by rw [hw, Ny251.out]; exact HP21.1); clear HP21; have n0_ := Aside0.mk (hp_); have n1_ := Aside0.mk ((by rw [hw]; exact below_set (below_set (below_set (HB.out) GB10.out) GB10.out) GB10.out : Below w.heap.size w w22)); clear HO246; clear HB; have HO246 := n0_; have HB := n1_; clear n0_ n1_; clear hg hw hp_; have hlx23 := (Kd.R_reads' HO246.out).1; have q23 : ((l0.length : Int) : Int) ≤ ((y247.length : Int) : Int) := of_decide_eq_true (by first | (with_reducible assumption) | assumption); obtain ⟨i023, hi023, _, hsz23, _⟩ := info_parts info25; have hroom23 : y247.length ≤ co10 := (Kd.R_reads' HO246.out).2.1; have hroomc23 : y251.length ≤ co10 := (by rw [← hlx23]; exact hroom23); have hC23 : Kd.C k25 _ (some ⟨go10, 0, none⟩) y251.length y251 := (Kd.R_reads' HO246.out).2.2; have hcut23 := cut_to (P := Tryd.prog) 22 25 .i64 Tryd.underlying22 hi023 (some ⟨go10, 0, none⟩) y247.length co10 (l0.length : Int) (of_decide_eq_true (by first | (with_reducible assumption) | assumption)) q23 hroom23; have hr23 := Kd.C_take (m := ((l0.length : Int) : Int).toNat) hC23 (by omega); have hy23 : y252.length = ((l0.length : Int) : Int).toNat := (by rw [Ny252.out, List.length_take]; omega); rw [← Ny252.out] at hr23; rw [← hy23] at hcut23; have HR255 := Aside0.mk hr23; have HC255 := Aside0.mk (show y252.length ≤ co10 from by omega); clear hr23 hC23 hroom23 hi023 hsz23 hroomc23; have KY23 := Aside0.mk hy23; clear hy23; have KE23 := Aside0.mk hlx23; have KL23 := Aside0.mk (show ((l0.length : Int) : Int).toNat ≤ y251.length from by omega); clear hlx23; replace q23 := eq_true q23) | ((with_reducible refine gate_callee (f := 12) rfl ?_); refine goesL_ (some 31) rfl rfl Tryd.func12 (by kernel_rfl) rfl #[.slice (some ⟨go10, 0, none⟩) y252.length co10] rfl (by (try simp only [List.map_toArray, List.map_cons, List.map_nil]); first | done | rfl | (simp only [List.length_drop, List.length_take]; rfl)) ?_; (with_reducible refine (key_Encode.calls k _ _ y252 t256 t257 _ ?side1 ?side2 A13.out).mono ?_); (case side1 => repeat (first | exact (by repeat (first | (with_reducible exact HR255.out) | (with_reducible refine Kd.C_alloc ?_ _) | (with_reducible refine Kd.C_drewN ?_ _) | (with_reducible refine Kd.C_drew ?_) | exact HR255.out)) | (with_reducible refine Kd.C_alloc ?_ _) | (with_reducible refine Kd.C_drewN ?_ _) | (with_reducible refine Kd.C_drew ?_))); (case side2 => exact HC255.out); rintro e w24 ⟨rfl, hb⟩; refine ⟨_, rfl, ?_⟩; have n0_ := Aside0.mk (Kd.R_below (by (with_reducible repeat (first | apply Kd.R_alloc | apply Kd.R_drewN | apply Kd.R_drew)); exact HO246.out) hb); have n1_ := Aside0.mk (Kd.C_below (by repeat (first | (with_reducible exact HR255.out) | (with_reducible refine Kd.C_alloc ?_ _) | (with_reducible refine Kd.C_drewN ?_ _) | (with_reducible refine Kd.C_drew ?_) | exact HR255.out)) hb); have n2_ := Aside0.mk (below_step (by repeat (first | (with_reducible first | exact HB.out | apply below_alloc | apply pw_below_drewN | apply below_drew1) | exact HB.out)) hb); clear HO246; clear HR255; clear HB; have HO246 := n0_; have HR255 := n1_; have HB := n2_; clear n0_ n1_ n2_; (try clear hb); (try clear hb2); (try clear hk); (try clear hi)) | ((with_reducible refine gate_callee (f := 13) rfl ?_); refine goesL_ (some 36) rfl rfl Tryd.func13 (by kernel_rfl) rfl #[.slice A0 l0.length c0] rfl (by (try simp only [List.map_toArray, List.map_cons, List.map_nil]); first | done | rfl | (simp only [List.length_drop, List.length_take]; rfl)) ?_; (with_reducible refine (unisonref02_Encode.calls k _ _ l0 t258 t259 _ ?side1 ?side2 A14.out).mono ?_); (case side1 => repeat (first | exact (Kd.C_below HR0.out HB.out) | (with_reducible refine Kd.C_alloc ?_ _) | (with_reducible refine Kd.C_drewN ?_ _) | (with_reducible refine Kd.C_drew ?_))); (case side2 => exact HC0.out); rintro e w25 ⟨rfl, hb⟩; refine ⟨_, rfl, ?_⟩; have n0_ := Aside0.mk (Kd.R_below (by (with_reducible repeat (first | apply Kd.R_alloc | apply Kd.R_drewN | apply Kd.R_drew)); exact HO246.out) hb); have n1_ := Aside0.mk (Kd.C_below (by repeat (first | (with_reducible exact HR255.out) | (with_reducible refine Kd.C_alloc ?_ _) | (with_reducible refine Kd.C_drewN ?_ _) | (with_reducible refine Kd.C_drew ?_) | exact HR255.out)) hb); have n2_ := Aside0.mk (below_step (by repeat (first | (with_reducible first | exact HB.out | apply below_alloc | apply pw_below_drewN | apply below_drew1) | exact HB.out)) hb); clear HO246; clear HR255; clear HB; have HO246 := n0_; have HR255 := n1_; have HB := n2_; clear n0_ n1_ n2_; (try clear hb); (try clear hb2); (try clear hk); (try clear hi)))
       (try simp only [Act.put, List.setIfInBounds_toArray, List.set_cons_zero, List.set_cons_succ])
       go_cut [9] (fun v9 wc => ∃ (kq : Nat) (x9_14 : Bool), v9 = .bool x9_14 ∧ Aside0 (unisonlaw02_KeyWrites.j0 kq l0 t243 y251 t256 t257 t258 t259 x9_14 = some r) ∧ Aside0 (kq ≤ k) ∧ Aside0 (Kd.R k25 25 wc w.heap.size (fun _ => True) (.slice (some ⟨go10, 0, none⟩) y247.length co10) y251) ∧ Aside0 (Kd.C k25 wc (some ⟨go10, 0, none⟩) y252.length y252) ∧ Aside0 (Below w.heap.size w wc))
       case first =>
        have H := HC15.out
        clear HC15
        replace H := Option.bind_eq_some_iff.mp H
        obtain ⟨t260, A260, H⟩ := H
        replace H : (unisonlaw02_KeyWrites.j0 k l0 t243 y251 t256 t257 t258 t259 t260) = some r := H
        have A26 := Aside0.mk A260
        clear A260
        have H' := Aside0.mk H
        clear H
        go_wp2_with (first | ((with_reducible refine gate_callee (f := 14) rfl ?_); refine goesL_ (some 44) rfl rfl Tryd.func14 (by kernel_rfl) rfl #[.slice (some ⟨go10, 0, none⟩) y252.length co10, .slice A0 l0.length c0] rfl (by (try simp only [List.map_toArray, List.map_cons, List.map_nil]); first | done | rfl | (simp only [List.length_drop, List.length_take]; rfl)) ?_; (with_reducible refine (unisonlaw02_same.calls k _ _ y252 _ _ l0 t260 _ ?side1 ?side2 ?side3 ?side4 A26.out).mono ?_); (case side1 => repeat (first | exact (by repeat (first | (with_reducible exact HR255.out) | (with_reducible refine Kd.C_alloc ?_ _) | (with_reducible refine Kd.C_drewN ?_ _) | (with_reducible refine Kd.C_drew ?_) | exact HR255.out)) | (with_reducible refine Kd.C_alloc ?_ _) | (with_reducible refine Kd.C_drewN ?_ _) | (with_reducible refine Kd.C_drew ?_))); (case side2 => exact HC255.out); (case side3 => repeat (first | exact (Kd.C_below HR0.out HB.out) | (with_reducible refine Kd.C_alloc ?_ _) | (with_reducible refine Kd.C_drewN ?_ _) | (with_reducible refine Kd.C_drew ?_))); (case side4 => exact HC0.out); rintro e w' ⟨rfl, ⟨nd, rfl⟩⟩; refine ⟨_, rfl, ?_⟩))
        go_meet
        case rel => exact ⟨_, (t260), (by first | rfl | (simp; done) | (simp [*]; done)), H', ⟨by first | omega | exact Nat.le_refl _⟩, ⟨by (with_reducible repeat (first | apply Kd.R_alloc | apply Kd.R_drewN | apply Kd.R_drew)); exact HO246.out⟩, ⟨by repeat (first | (with_reducible exact HR255.out) | (with_reducible refine Kd.C_alloc ?_ _) | (with_reducible refine Kd.C_drewN ?_ _) | (with_reducible refine Kd.C_drew ?_) | exact HR255.out)⟩, ⟨by repeat (first | (with_reducible first | exact HB.out | apply below_alloc | apply pw_below_drewN | apply below_drew1) | exact HB.out)⟩⟩
       case rest =>
        clear HC15
        try clear c1
        try clear p1
        try clear q1
        try clear hx1
        try clear hf1
        try clear c2
        try clear c2b0
        try clear c2b1
        try clear p2
        try clear q2
        try clear hx2
        try clear hf2
        try clear c3
        try clear c5
        try clear c5b0
        try clear c5b1
        try clear c6
        try clear c6b0
        try clear c6b1
        try clear p6
        try clear c8
        try clear c8b0
        try clear c8b1
        try clear c9
        try clear c9b0
        try clear c9b1
        try clear c10
        try clear p10
        try clear q10
        try clear hx10
        try clear hf10
        try clear c11
        try clear c11b0
        try clear c12
        try clear c12b0
        try clear c12b1
        try clear c13
        try clear c14
        try clear c21
        try clear hx21
        try clear hf21
        try clear c23
        try clear q23
        try clear hx10_0
        try clear hx10_1
        try clear hx10_2
        try clear hx21_0
        try clear hx21_1
        try clear hx21_2
        try clear p10
        try clear q10
        try clear q23
        obtain ⟨kq, x9_14, rfl, HA, HJ14, HO_4, HR255, HB⟩ := hcut
        have hl4_14 := (Kd.R_reads' HO_4.out).1
        rw [hl4_14] at HO_4
        (try simp only [hl4_14])
        cases kq with
        | zero => exact absurd HA.out (by simp [unisonlaw02_KeyWrites.j0])
        | succ kj14 =>
         have H := HA.out
         clear HA
         simp only [unisonlaw02_KeyWrites.j0] at H
         by_cases c27 : t243 = true
         ·
          subst c27
          have H1 : (if x9_14 = true then (if 0 ≤ (l0.length : Int) then (if (l0.length : Int) < (y251.length : Int) then ((unisonlaw02_number.f 77).bind fun _ => (if (((rd_T25 y251 (l0.length : Int)).f0) == 1 && (((rd_T25 y251 (l0.length : Int)).f1) == 77 && ((((rd_T25 y251 (l0.length : Int)).f2).toList) == ([] : List UInt8)))) = true then (if 0 ≤ (wrap64 ((l0.length : Int) + 1)) then (if (wrap64 ((l0.length : Int) + 1)) < (y251.length : Int) then (if (((rd_T25 y251 (wrap64 ((l0.length : Int) + 1))).f0) == 0 && (((rd_T25 y251 (wrap64 ((l0.length : Int) + 1))).f1) == 0 && ((((rd_T25 y251 (wrap64 ((l0.length : Int) + 1))).f2).toList) == ([] : List UInt8)))) = true then (if t256.toList = t258.toList then (some (t257 == t259)) else (none)) else (none)) else (none)) else (none)) else (none))) else (none)) else (none)) else (none)) = some r := by rw [if_pos rfl] at H; exact H
          clear H
          have H := H1
          clear H1
          by_cases c28 : x9_14 = true
          ·
           subst c28
           have H1 : (if 0 ≤ (l0.length : Int) then (if (l0.length : Int) < (y251.length : Int) then ((unisonlaw02_number.f 77).bind fun _ => (if (((rd_T25 y251 (l0.length : Int)).f0) == 1 && (((rd_T25 y251 (l0.length : Int)).f1) == 77 && ((((rd_T25 y251 (l0.length : Int)).f2).toList) == ([] : List UInt8)))) = true then (if 0 ≤ (wrap64 ((l0.length : Int) + 1)) then (if (wrap64 ((l0.length : Int) + 1)) < (y251.length : Int) then (if (((rd_T25 y251 (wrap64 ((l0.length : Int) + 1))).f0) == 0 && (((rd_T25 y251 (wrap64 ((l0.length : Int) + 1))).f1) == 0 && ((((rd_T25 y251 (wrap64 ((l0.length : Int) + 1))).f2).toList) == ([] : List UInt8)))) = true then (if t256.toList = t258.toList then (some (t257 == t259)) else (none)) else (none)) else (none)) else (none)) else (none))) else (none)) else (none)) = some r := by rw [if_pos rfl] at H; exact H
           clear H
           have H := H1
           clear H1
           by_cases c29 : 0 ≤ (l0.length : Int)
           ·
            rw [if_pos c29] at H
            have c29b0 : decide (0 ≤ (l0.length : Int)) = true := decide_eq_true c29
            have c29b1 : decide (0 ≤ l0.length) = true := decide_eq_true (by omega)
            clear c29
            by_cases c30 : (l0.length : Int) < (y251.length : Int)
            ·
             rw [if_pos c30] at H
             have c30b0 : decide ((l0.length : Int) < (y251.length : Int)) = true := decide_eq_true c30
             have c30b1 : decide (l0.length < y251.length) = true := decide_eq_true (Int.ofNat_lt.mp c30)
             clear c30
             replace H := Option.bind_eq_some_iff.mp H
             obtain ⟨⟨t262, t263, t264⟩, A310, H⟩ := H
             replace H : (if (((rd_T25 y251 (l0.length : Int)).f0) == 1 && (((rd_T25 y251 (l0.length : Int)).f1) == 77 && ((((rd_T25 y251 (l0.length : Int)).f2).toList) == ([] : List UInt8)))) = true then (if 0 ≤ (wrap64 ((l0.length : Int) + 1)) then (if (wrap64 ((l0.length : Int) + 1)) < (y251.length : Int) then (if (((rd_T25 y251 (wrap64 ((l0.length : Int) + 1))).f0) == 0 && (((rd_T25 y251 (wrap64 ((l0.length : Int) + 1))).f1) == 0 && ((((rd_T25 y251 (wrap64 ((l0.length : Int) + 1))).f2).toList) == ([] : List UInt8)))) = true then (if t256.toList = t258.toList then (some (t257 == t259)) else (none)) else (none)) else (none)) else (none)) else (none)) = some r := H
             have hk_ : t262 = 1 ∧ t263 = 77 ∧ t264 = (⟨#[]⟩ : ByteArray) := unisonlaw02_KeyWrites.kn9 _ _ _ (by have h_ := A310; exact h_)
             obtain ⟨rfl, rfl, rfl⟩ := hk_
             have A31 := Aside0.mk A310
             clear A310
             by_cases c32 : (((rd_T25 y251 (l0.length : Int)).f0) == 1 && (((rd_T25 y251 (l0.length : Int)).f1) == 77 && ((((rd_T25 y251 (l0.length : Int)).f2).toList) == ([] : List UInt8)))) = true
             ·
              rw [if_pos c32] at H
              have c32b0 : (((rd_T25 y251 (l0.length : Int)).f0) == 1 && (((rd_T25 y251 (l0.length : Int)).f1) == 77 && ((((rd_T25 y251 (l0.length : Int)).f2).toList) == ([] : List UInt8)))) = true := c32
              (try (have c32b1 : (((rd_T25 y251 (l0.length : Int)).f0) == 1 && (((rd_T25 y251 (l0.length : Int)).f1) == 77 && ((((rd_T25 y251 (l0.length : Int)).f2).toList).isEmpty))) = true := by simpa using c32))
              (try (have c32b2 : decide (((rd_T25 y251 (l0.length : Int)).f0) = 1 && (((rd_T25 y251 (l0.length : Int)).f1) == 77 && ((((rd_T25 y251 (l0.length : Int)).f2).toList) == ([] : List UInt8)))) = true := by simpa using c32))
              (try (have c32b3 : (((rd_T25 y251 (l0.length : Int)).f0) == 1 && (((rd_T25 y251 (l0.length : Int)).f1) == 77 && ((((rd_T25 y251 (l0.length : Int)).f2).toList) == ([] : List UInt8)))) = true := by simpa using c32))
              clear c32
              obtain ⟨ji33, hji33⟩ : ∃ j_ : Int, (wrap64 ((l0.length : Int) + 1)) = j_ := ⟨_, rfl⟩
              replace H : (if 0 ≤ (ji33) then (if (ji33) < (y251.length : Int) then (if (((rd_T25 y251 (ji33)).f0) == 0 && (((rd_T25 y251 (ji33)).f1) == 0 && ((((rd_T25 y251 (ji33)).f2).toList) == ([] : List UInt8)))) = true then (if t256.toList = t258.toList then (some (t257 == t259)) else (none)) else (none)) else (none)) else (none)) = some r := by first | (rw [hji33] at H; exact H) | (simp only [hji33] at H ⊢; exact H)
              (try rw [hji33] at A31)
              have hji33w : (IntKind.i64.wrap ((l0.length : Int) + 1)) = ji33 := (i64_w _).trans hji33
              by_cases c34 : 0 ≤ (ji33)
              ·
               rw [if_pos c34] at H
               have c34b0 : decide (0 ≤ (ji33)) = true := decide_eq_true c34
               clear c34
               by_cases c35 : (ji33) < (y251.length : Int)
               ·
                rw [if_pos c35] at H
                have c35b0 : decide ((ji33) < (y251.length : Int)) = true := decide_eq_true c35
                clear c35
                by_cases c36 : (((rd_T25 y251 (ji33)).f0) == 0 && (((rd_T25 y251 (ji33)).f1) == 0 && ((((rd_T25 y251 (ji33)).f2).toList) == ([] : List UInt8)))) = true
                ·
                 rw [if_pos c36] at H
                 have c36b0 : (((rd_T25 y251 (ji33)).f0) == 0 && (((rd_T25 y251 (ji33)).f1) == 0 && ((((rd_T25 y251 (ji33)).f2).toList) == ([] : List UInt8)))) = true := c36
                 (try (have c36b1 : (((rd_T25 y251 (ji33)).f0) == 0 && (((rd_T25 y251 (ji33)).f1) == 0 && ((((rd_T25 y251 (ji33)).f2).toList).isEmpty))) = true := by simpa using c36))
                 (try (have c36b2 : decide (((rd_T25 y251 (ji33)).f0) = 0 && (((rd_T25 y251 (ji33)).f1) == 0 && ((((rd_T25 y251 (ji33)).f2).toList) == ([] : List UInt8)))) = true := by simpa using c36))
                 (try (have c36b3 : (((rd_T25 y251 (ji33)).f0) == 0 && (((rd_T25 y251 (ji33)).f1) == 0 && ((((rd_T25 y251 (ji33)).f2).toList) == ([] : List UInt8)))) = true := by simpa using c36))
                 clear c36
                 by_cases c37 : t256.toList = t258.toList
                 ·
                  rw [if_pos c37] at H
                  have c37b0 : (t256.toList == t258.toList) = true := beq_iff_eq.mpr c37
                  have c37b1 : (t256.toList != t258.toList) = false := bne_eq_false_iff_eq.mpr c37
                  clear c37
                  obtain rfl := Option.some.inj H
                  try go_wp2
                  have n0_ := Aside0.mk (Kd.R_drew HO_4.out)
                  have n1_ := Aside0.mk (Kd.C_drew HR255.out)
                  have n2_ := Aside0.mk (below_drew1 HB.out)
                  clear HO_4
                  clear HR255
                  clear HB
                  have HO_4 := n0_
                  have HR255 := n1_
                  have HB := n2_
                  clear n0_ n1_ n2_
                  have p261 : 0 ≤ ((l0.length : Int) : Int) := of_decide_eq_true (by first | (with_reducible assumption) | assumption)
                  have q261 : (l0.length : Int) < (y251.length : Int) := of_decide_eq_true (by first | (with_reducible assumption) | assumption)
                  obtain ⟨ad261, e261, hx261_0, hx261_1, hx261_2⟩ := at_T25 (Kd.R_reads' HO_4.out).2.2 (l0.length : Int) p261 q261
                  obtain rfl : (⟨go10, 0, none⟩ : Addr) = ad261 := (by injection e261)
                  (first | simp only [add_plain] at hx261_0 | simp only [add_at] at hx261_0 | simp only [Addr.add, Nat.zero_add] at hx261_0 | skip)
                  (first | simp only [add_plain] at hx261_1 | simp only [add_at] at hx261_1 | simp only [Addr.add, Nat.zero_add] at hx261_1 | skip)
                  (first | simp only [add_plain] at hx261_2 | simp only [add_at] at hx261_2 | simp only [Addr.add, Nat.zero_add] at hx261_2 | skip)
                  (try simp only [Go.IntWalk.toNatUp] at hx261_0)
                  (try simp only [Go.IntWalk.toNatUp] at hx261_1)
                  (try simp only [Go.IntWalk.toNatUp] at hx261_2)
                  (try simp only [hl4_14] at p261)
                  (try simp only [hl4_14] at q261)
                  (try simp only [hl4_14] at hx261_0)
                  (try simp only [hl4_14] at hx261_1)
                  (try simp only [hl4_14] at hx261_2)
                  replace p261 := eq_true p261
                  replace q261 := eq_true q261
                  have p265 : 0 ≤ ((ji33) : Int) := of_decide_eq_true (by first | (with_reducible assumption) | assumption)
                  have q265 : (ji33) < (y251.length : Int) := of_decide_eq_true (by first | (with_reducible assumption) | assumption)
                  obtain ⟨ad265, e265, hx265_0, hx265_1, hx265_2⟩ := at_T25 (Kd.R_reads' HO_4.out).2.2 (ji33) p265 q265
                  obtain rfl : (⟨go10, 0, none⟩ : Addr) = ad265 := (by injection e265)
                  (first | simp only [add_plain] at hx265_0 | simp only [add_at] at hx265_0 | simp only [Addr.add, Nat.zero_add] at hx265_0 | skip)
                  (first | simp only [add_plain] at hx265_1 | simp only [add_at] at hx265_1 | simp only [Addr.add, Nat.zero_add] at hx265_1 | skip)
                  (first | simp only [add_plain] at hx265_2 | simp only [add_at] at hx265_2 | simp only [Addr.add, Nat.zero_add] at hx265_2 | skip)
                  replace p265 := eq_true p265
                  replace q265 := eq_true q265
                  refine start_ (n := 34) (S := fun w' => w'.cell? ⟨go10, ((l0.length : Int)).toNat * 3, none⟩ = some (.int .i64 ((rd_T25 y251 (l0.length : Int)).f0)) ∧ w'.cell? ⟨go10, ((l0.length : Int)).toNat * 3 + 1, none⟩ = some (.int .i64 ((rd_T25 y251 (l0.length : Int)).f1)) ∧ w'.cell? ⟨go10, ((l0.length : Int)).toNat * 3 + 2, none⟩ = some (.string ((rd_T25 y251 (l0.length : Int)).f2)) ∧ w'.cell? ⟨go10, ((ji33)).toNat * 3, none⟩ = some (.int .i64 ((rd_T25 y251 (ji33)).f0)) ∧ w'.cell? ⟨go10, ((ji33)).toNat * 3 + 1, none⟩ = some (.int .i64 ((rd_T25 y251 (ji33)).f1)) ∧ w'.cell? ⟨go10, ((ji33)).toNat * 3 + 2, none⟩ = some (.string ((rd_T25 y251 (ji33)).f2))) (ds := []) #[false, false, false, false, false, false, false, false, false, false, false, false, false, false, false, false, false, false, false, false, false, false, false, false, false, false, false, false, false, false, false, false, false, false] (by kernel_rfl) rfl rfl ⟨hx261_0, hx261_1, hx261_2, hx265_0, hx265_1, hx265_2⟩ (fun hHeld => ?_); refine with_tabW unisonlaw02_KeyWrites.tab10 unisonlaw02_KeyWrites.bits10 (fun HT_ HW_ => ?_)
                  generalize wc.drew = w38 at HO_4 HR255 HB hx261_0 hx261_1 hx261_2 hx265_0 hx265_1 hx265_2 hHeld ⊢
                  refine pure_ (i := 0) (N := some 45) (v := ?_) (a' := ?_) #[true, false, false, false, false, false, false, false, false, false, false, false, false, false, false, false, false, false, false, false, false, false, false, false, false, false, false, false, false, false, false, false, false, false] rfl rfl (any_of HT_.out (by kernel_rfl)) (fun _ _ _ h => h) (Or.inl ⟨by rfl, ?_⟩) ?_ ?_
                  rotate_left; focus (intro w'; go_simp; with_reducible rfl; done)
                  rotate_left; focus (simp only [Act.put, List.setIfInBounds_toArray, List.set_cons_zero, List.set_cons_succ, i64_w, i32_w, u8_w, u32_w]; rfl; done)
                  refine pure_ (i := 1) (N := some 46) (v := ?_) (a' := ?_) #[true, true, false, false, false, false, false, false, false, false, false, false, false, false, false, false, false, false, false, false, false, false, false, false, false, false, false, false, false, false, false, false, false, false] rfl rfl (any_of HT_.out (by kernel_rfl)) (fun _ _ _ h => h) (Or.inl ⟨by rfl, ?_⟩) ?_ ?_
                  rotate_left; focus (intro w'; go_simp; with_reducible rfl; done)
                  rotate_left; focus (simp only [Act.put, List.setIfInBounds_toArray, List.set_cons_zero, List.set_cons_succ, i64_w, i32_w, u8_w, u32_w]; rfl; done)
                  refine pure_ (i := 2) (N := some 47) (v := ?_) (a' := ?_) #[true, true, true, false, false, false, false, false, false, false, false, false, false, false, false, false, false, false, false, false, false, false, false, false, false, false, false, false, false, false, false, false, false, false] rfl rfl (any_of HT_.out (by kernel_rfl)) (fun _ _ _ h => h) (Or.inl ⟨by rfl, ?_⟩) ?_ ?_
                  rotate_left; focus (intro w'; go_simp; with_reducible rfl; done)
                  rotate_left; focus (simp only [Act.put, List.setIfInBounds_toArray, List.set_cons_zero, List.set_cons_succ, i64_w, i32_w, u8_w, u32_w]; rfl; done)
                  refine pure_ (i := 3) (N := some 48) (v := ?_) (a' := ?_) #[true, true, true, true, false, false, false, false, false, false, false, false, false, false, false, false, false, false, false, false, false, false, false, false, false, false, false, false, false, false, false, false, false, false] rfl rfl (any_of HT_.out (by kernel_rfl)) (fun _ _ _ h => h) (Or.inl ⟨by rfl, ?_⟩) ?_ ?_
                  rotate_left; focus (intro w'; go_simp; with_reducible rfl; done)
                  rotate_left; focus (simp only [Act.put, List.setIfInBounds_toArray, List.set_cons_zero, List.set_cons_succ, i64_w, i32_w, u8_w, u32_w]; rfl; done)
                  refine pure_ (i := 4) (N := some 49) (v := ?_) (a' := ?_) #[true, true, true, true, true, false, false, false, false, false, false, false, false, false, false, false, false, false, false, false, false, false, false, false, false, false, false, false, false, false, false, false, false, false] rfl rfl (any_of HT_.out (by kernel_rfl)) (fun _ _ _ h => h) (Or.inl ⟨by rfl, ?_⟩) ?_ ?_
                  rotate_left; focus (intro w'; go_simp; with_reducible rfl; done)
                  rotate_left; focus (simp only [Act.put, List.setIfInBounds_toArray, List.set_cons_zero, List.set_cons_succ, i64_w, i32_w, u8_w, u32_w]; rfl; done)
                  refine pure_ (i := 5) (N := some 50) (v := ?_) (a' := ?_) #[true, true, true, true, true, true, false, false, false, false, false, false, false, false, false, false, false, false, false, false, false, false, false, false, false, false, false, false, false, false, false, false, false, false] rfl rfl (any_of HT_.out (by kernel_rfl)) (fun _ _ _ h => h) (Or.inl ⟨by rfl, ?_⟩) ?_ ?_
                  rotate_left; focus (intro w'; go_simp; with_reducible rfl; done)
                  rotate_left; focus (simp only [Act.put, List.setIfInBounds_toArray, List.set_cons_zero, List.set_cons_succ, i64_w, i32_w, u8_w, u32_w]; rfl; done)
                  refine pure_ (i := 6) (N := some 51) (v := ?_) (a' := ?_) #[true, true, true, true, true, true, true, false, false, false, false, false, false, false, false, false, false, false, false, false, false, false, false, false, false, false, false, false, false, false, false, false, false, false] rfl rfl (any_of HT_.out (by kernel_rfl)) (fun _ _ _ h => h) (Or.inl ⟨by rfl, ?_⟩) ?_ ?_
                  rotate_left; focus (intro w'; go_simp; with_reducible rfl; done)
                  rotate_left; focus (simp only [Act.put, List.setIfInBounds_toArray, List.set_cons_zero, List.set_cons_succ, i64_w, i32_w, u8_w, u32_w]; rfl; done)
                  refine pure_ (i := 7) (N := some 52) (v := ?_) (a' := ?_) #[true, true, true, true, true, true, true, true, false, false, false, false, false, false, false, false, false, false, false, false, false, false, false, false, false, false, false, false, false, false, false, false, false, false] rfl rfl (any_of HT_.out (by kernel_rfl)) (fun _ _ _ h => h) (Or.inl ⟨by rfl, ?_⟩) ?_ ?_
                  rotate_left; focus (intro w'; go_simp; with_reducible rfl; done)
                  rotate_left; focus (simp only [Act.put, List.setIfInBounds_toArray, List.set_cons_zero, List.set_cons_succ, i64_w, i32_w, u8_w, u32_w]; rfl; done)
                  refine pure_ (i := 8) (N := some 53) (v := ?_) (a' := ?_) #[true, true, true, true, true, true, true, true, true, false, false, false, false, false, false, false, false, false, false, false, false, false, false, false, false, false, false, false, false, false, false, false, false, false] rfl rfl (any_of HT_.out (by kernel_rfl)) (fun _ _ _ h => h) (Or.inl ⟨by rfl, ?_⟩) ?_ ?_
                  rotate_left; focus (intro w'; go_simp; with_reducible rfl; done)
                  rotate_left; focus (simp only [Act.put, List.setIfInBounds_toArray, List.set_cons_zero, List.set_cons_succ, i64_w, i32_w, u8_w, u32_w]; rfl; done)
                  refine take_ (i := 9) (N := some 54) (v := ?_) (a' := ?_) #[true, true, true, true, true, true, true, true, true, true, false, false, false, false, false, false, false, false, false, false, false, false, false, false, false, false, false, false, false, false, false, false, false, false] rfl rfl (take_ofW HT_.out HW_.out (by kernel_rfl)) (fun _ _ _ h => h) (Or.inl ⟨by rfl, ?_⟩) hHeld ?_ ?_
                  rotate_left; focus (rintro w' ⟨s0, s1, s2, s3, s4, s5⟩; (try simp only [Int.toNat_natCast] at s0 s1 s2 s3 s4 s5); go_simp; with_reducible rfl; done)
                  rotate_left; focus (simp only [Act.put, List.setIfInBounds_toArray, List.set_cons_zero, List.set_cons_succ, i64_w, i32_w, u8_w, u32_w]; rfl; done)
                  refine one_ (i := 10) (N := some 55) #[true, true, true, true, true, true, true, true, true, true, true, false, false, false, false, false, false, false, false, false, false, false, false, false, false, false, false, false, false, false, false, false, false, false] rfl rfl (one_of HT_.out (by kernel_rfl)) (by decide) (fun K hK => ?_)
                  refine goes_ Tryd.func11 (by kernel_rfl) rfl #[.int .i64 77] (by rfl) rfl rfl (by (try simp only [List.map_toArray, List.map_cons, List.map_nil]); first | done | rfl | (simp only [List.length_drop, List.length_take]; rfl)) ?_
                  with_reducible refine (unisonlaw02_number.calls 77 1 77 (⟨#[]⟩ : ByteArray) _ A31.out).mono ?_
                  rintro e w39 ⟨rfl, hb⟩
                  have HS0_ := (hb.cell (World.block_lt_of_cell? _ _ (hHeld.1))).trans (hHeld.1)
                  have HS1_ := (hb.cell (World.block_lt_of_cell? _ _ (hHeld.2.1))).trans (hHeld.2.1)
                  have HS2_ := (hb.cell (World.block_lt_of_cell? _ _ (hHeld.2.2.1))).trans (hHeld.2.2.1)
                  have HS3_ := (hb.cell (World.block_lt_of_cell? _ _ (hHeld.2.2.2.1))).trans (hHeld.2.2.2.1)
                  have HS4_ := (hb.cell (World.block_lt_of_cell? _ _ (hHeld.2.2.2.2.1))).trans (hHeld.2.2.2.2.1)
                  have HS5_ := (hb.cell (World.block_lt_of_cell? _ _ (hHeld.2.2.2.2.2))).trans (hHeld.2.2.2.2.2)
                  refine ⟨_, rfl, ?_⟩
                  have n0_ := Aside0.mk (Kd.R_below (by (with_reducible repeat (first | apply Kd.R_alloc | apply Kd.R_drewN | apply Kd.R_drew)); exact HO_4.out) hb)
                  have n1_ := Aside0.mk (Kd.C_below (by repeat (first | (with_reducible exact HR255.out) | (with_reducible refine Kd.C_alloc ?_ _) | (with_reducible refine Kd.C_drewN ?_ _) | (with_reducible refine Kd.C_drew ?_) | exact HR255.out)) hb)
                  have n2_ := Aside0.mk (below_step (by repeat (first | (with_reducible first | exact HB.out | apply below_alloc | apply pw_below_drewN | apply below_drew1) | exact HB.out)) hb)
                  clear HO_4
                  clear HR255
                  clear HB
                  have HO_4 := n0_
                  have HR255 := n1_
                  have HB := n2_
                  clear n0_ n1_ n2_
                  (try clear hb)
                  (try clear hb2)
                  (try clear hk)
                  (try clear hi)
                  refine hK.out _ _ ⟨HS0_, HS1_, HS2_, HS3_, HS4_, HS5_⟩ (fun hHeld => ?_)
                  clear hK K
                  refine norm_ (a' := ?_) ?_ ?_
                  rotate_left; focus (show Act.put _ (some 55) _ = _; simp only [Act.put, List.setIfInBounds_toArray, List.set_cons_zero, List.set_cons_succ, i64_w, i32_w, u8_w, u32_w]; rfl; done)
                  refine pure_ (i := 11) (N := some 56) (v := ?_) (a' := ?_) #[true, true, true, true, true, true, true, true, true, true, true, true, false, false, false, false, false, false, false, false, false, false, false, false, false, false, false, false, false, false, false, false, false, false] rfl rfl (any_of HT_.out (by kernel_rfl)) (fun _ _ _ h => h) (Or.inl ⟨by rfl, ?_⟩) ?_ ?_
                  rotate_left; focus (intro w'; go_simp; with_reducible rfl; done)
                  rotate_left; focus (simp only [Act.put, List.setIfInBounds_toArray, List.set_cons_zero, List.set_cons_succ, i64_w, i32_w, u8_w, u32_w]; rfl; done)
                  refine pure_ (i := 12) (N := some 57) (v := ?_) (a' := ?_) #[true, true, true, true, true, true, true, true, true, true, true, true, true, false, false, false, false, false, false, false, false, false, false, false, false, false, false, false, false, false, false, false, false, false] rfl rfl (any_of HT_.out (by kernel_rfl)) (fun _ _ _ h => h) (Or.inl ⟨by rfl, ?_⟩) ?_ ?_
                  rotate_left; focus (intro w'; go_simp; with_reducible rfl; done)
                  rotate_left; focus (simp only [Act.put, List.setIfInBounds_toArray, List.set_cons_zero, List.set_cons_succ, i64_w, i32_w, u8_w, u32_w]; rfl; done)
                  refine pure_ (i := 13) (N := some 58) (v := ?_) (a' := ?_) #[true, true, true, true, true, true, true, true, true, true, true, true, true, true, false, false, false, false, false, false, false, false, false, false, false, false, false, false, false, false, false, false, false, false] rfl rfl (any_of HT_.out (by kernel_rfl)) (fun _ _ _ h => h) (Or.inl ⟨by rfl, ?_⟩) ?_ ?_
                  rotate_left; focus (intro w'; go_simp; with_reducible rfl; done)
                  rotate_left; focus (simp only [Act.put, List.setIfInBounds_toArray, List.set_cons_zero, List.set_cons_succ, i64_w, i32_w, u8_w, u32_w]; rfl; done)
                  refine pure_ (i := 14) (N := some 59) (v := ?_) (a' := ?_) #[true, true, true, true, true, true, true, true, true, true, true, true, true, true, true, false, false, false, false, false, false, false, false, false, false, false, false, false, false, false, false, false, false, false] rfl rfl (any_of HT_.out (by kernel_rfl)) (fun _ _ _ h => h) (Or.inl ⟨by rfl, ?_⟩) ?_ ?_
                  rotate_left; focus (intro w'; go_simp; with_reducible rfl; done)
                  rotate_left; focus (simp only [Act.put, List.setIfInBounds_toArray, List.set_cons_zero, List.set_cons_succ, i64_w, i32_w, u8_w, u32_w]; rfl; done)
                  refine pure_ (i := 15) (N := some 60) (v := ?_) (a' := ?_) #[true, true, true, true, true, true, true, true, true, true, true, true, true, true, true, true, false, false, false, false, false, false, false, false, false, false, false, false, false, false, false, false, false, false] rfl rfl (any_of HT_.out (by kernel_rfl)) (fun _ _ _ h => h) (Or.inl ⟨by rfl, ?_⟩) ?_ ?_
                  rotate_left; focus (intro w'; go_simp; with_reducible rfl; done)
                  rotate_left; focus (simp only [Act.put, List.setIfInBounds_toArray, List.set_cons_zero, List.set_cons_succ, i64_w, i32_w, u8_w, u32_w]; rfl; done)
                  refine pure_ (i := 16) (N := some 61) (v := ?_) (a' := ?_) #[true, true, true, true, true, true, true, true, true, true, true, true, true, true, true, true, true, false, false, false, false, false, false, false, false, false, false, false, false, false, false, false, false, false] rfl rfl (any_of HT_.out (by kernel_rfl)) (fun _ _ _ h => h) (Or.inl ⟨by rfl, ?_⟩) ?_ ?_
                  rotate_left; focus (intro w'; go_simp; with_reducible rfl; done)
                  rotate_left; focus (simp only [Act.put, List.setIfInBounds_toArray, List.set_cons_zero, List.set_cons_succ, i64_w, i32_w, u8_w, u32_w]; rfl; done)
                  refine pure_ (i := 17) (N := some 62) (v := ?_) (a' := ?_) #[true, true, true, true, true, true, true, true, true, true, true, true, true, true, true, true, true, true, false, false, false, false, false, false, false, false, false, false, false, false, false, false, false, false] rfl rfl (any_of HT_.out (by kernel_rfl)) (fun _ _ _ h => h) (Or.inl ⟨by rfl, ?_⟩) ?_ ?_
                  rotate_left; focus (intro w'; go_simp; with_reducible rfl; done)
                  rotate_left; focus (simp only [Act.put, List.setIfInBounds_toArray, List.set_cons_zero, List.set_cons_succ, i64_w, i32_w, u8_w, u32_w]; rfl; done)
                  refine pure_ (i := 18) (N := some 63) (v := ?_) (a' := ?_) #[true, true, true, true, true, true, true, true, true, true, true, true, true, true, true, true, true, true, true, false, false, false, false, false, false, false, false, false, false, false, false, false, false, false] rfl rfl (any_of HT_.out (by kernel_rfl)) (fun _ _ _ h => h) (Or.inl ⟨by rfl, ?_⟩) ?_ ?_
                  rotate_left; focus (intro w'; go_simp; with_reducible rfl; done)
                  rotate_left; focus (simp only [Act.put, List.setIfInBounds_toArray, List.set_cons_zero, List.set_cons_succ, i64_w, i32_w, u8_w, u32_w]; rfl; done)
                  refine pure_ (i := 20) (N := some 65) (v := ?_) (a' := ?_) #[true, true, true, true, true, true, true, true, true, true, true, true, true, true, true, true, true, true, true, false, true, false, false, false, false, false, false, false, false, false, false, false, false, false] rfl rfl (any_of HT_.out (by kernel_rfl)) (fun _ _ _ h => h) (Or.inl ⟨by rfl, ?_⟩) ?_ ?_
                  rotate_left; focus (intro w'; go_simp; with_reducible rfl; done)
                  rotate_left; focus (simp only [Act.put, List.setIfInBounds_toArray, List.set_cons_zero, List.set_cons_succ, i64_w, i32_w, u8_w, u32_w]; rfl; done)
                  refine take_ (i := 19) (N := some 64) (v := ?_) (a' := ?_) #[true, true, true, true, true, true, true, true, true, true, true, true, true, true, true, true, true, true, true, true, true, false, false, false, false, false, false, false, false, false, false, false, false, false] rfl rfl (take_ofW HT_.out HW_.out (by kernel_rfl)) (fun _ _ _ h => h) (Or.inl ⟨by rfl, ?_⟩) hHeld ?_ ?_
                  rotate_left; focus (rintro w' ⟨s0, s1, s2, s3, s4, s5⟩; (try simp only [Int.toNat_natCast] at s0 s1 s2 s3 s4 s5); go_simp; with_reducible rfl; done)
                  rotate_left; focus (simp only [Act.put, List.setIfInBounds_toArray, List.set_cons_zero, List.set_cons_succ, i64_w, i32_w, u8_w, u32_w]; rfl; done)
                  refine pure_ (i := 21) (N := some 66) (v := ?_) (a' := ?_) #[true, true, true, true, true, true, true, true, true, true, true, true, true, true, true, true, true, true, true, true, true, true, false, false, false, false, false, false, false, false, false, false, false, false] rfl rfl (any_of HT_.out (by kernel_rfl)) (fun _ _ _ h => h) (Or.inl ⟨by rfl, ?_⟩) ?_ ?_
                  rotate_left; focus (intro w'; go_simp; with_reducible rfl; done)
                  rotate_left; focus (simp only [Act.put, List.setIfInBounds_toArray, List.set_cons_zero, List.set_cons_succ, i64_w, i32_w, u8_w, u32_w]; rfl; done)
                  refine pure_ (i := 22) (N := some 67) (v := ?_) (a' := ?_) #[true, true, true, true, true, true, true, true, true, true, true, true, true, true, true, true, true, true, true, true, true, true, true, false, false, false, false, false, false, false, false, false, false, false] rfl rfl (any_of HT_.out (by kernel_rfl)) (fun _ _ _ h => h) (Or.inl ⟨by rfl, ?_⟩) ?_ ?_
                  rotate_left; focus (intro w'; go_simp; with_reducible rfl; done)
                  rotate_left; focus (simp only [Act.put, List.setIfInBounds_toArray, List.set_cons_zero, List.set_cons_succ, i64_w, i32_w, u8_w, u32_w]; rfl; done)
                  refine pure_ (i := 23) (N := some 68) (v := ?_) (a' := ?_) #[true, true, true, true, true, true, true, true, true, true, true, true, true, true, true, true, true, true, true, true, true, true, true, true, false, false, false, false, false, false, false, false, false, false] rfl rfl (any_of HT_.out (by kernel_rfl)) (fun _ _ _ h => h) (Or.inl ⟨by rfl, ?_⟩) ?_ ?_
                  rotate_left; focus (intro w'; go_simp; with_reducible rfl; done)
                  rotate_left; focus (simp only [Act.put, List.setIfInBounds_toArray, List.set_cons_zero, List.set_cons_succ, i64_w, i32_w, u8_w, u32_w]; rfl; done)
                  refine pure_ (i := 24) (N := some 69) (v := ?_) (a' := ?_) #[true, true, true, true, true, true, true, true, true, true, true, true, true, true, true, true, true, true, true, true, true, true, true, true, true, false, false, false, false, false, false, false, false, false] rfl rfl (any_of HT_.out (by kernel_rfl)) (fun _ _ _ h => h) (Or.inl ⟨by rfl, ?_⟩) ?_ ?_
                  rotate_left; focus (intro w'; go_simp; with_reducible rfl; done)
                  rotate_left; focus (simp only [Act.put, List.setIfInBounds_toArray, List.set_cons_zero, List.set_cons_succ, i64_w, i32_w, u8_w, u32_w]; rfl; done)
                  refine pure_ (i := 25) (N := some 70) (v := ?_) (a' := ?_) #[true, true, true, true, true, true, true, true, true, true, true, true, true, true, true, true, true, true, true, true, true, true, true, true, true, true, false, false, false, false, false, false, false, false] rfl rfl (any_of HT_.out (by kernel_rfl)) (fun _ _ _ h => h) (Or.inl ⟨by rfl, ?_⟩) ?_ ?_
                  rotate_left; focus (intro w'; go_simp; with_reducible rfl; done)
                  rotate_left; focus (simp only [Act.put, List.setIfInBounds_toArray, List.set_cons_zero, List.set_cons_succ, i64_w, i32_w, u8_w, u32_w]; rfl; done)
                  refine pure_ (i := 26) (N := some 71) (v := ?_) (a' := ?_) #[true, true, true, true, true, true, true, true, true, true, true, true, true, true, true, true, true, true, true, true, true, true, true, true, true, true, true, false, false, false, false, false, false, false] rfl rfl (any_of HT_.out (by kernel_rfl)) (fun _ _ _ h => h) (Or.inl ⟨by rfl, ?_⟩) ?_ ?_
                  rotate_left; focus (intro w'; go_simp; with_reducible rfl; done)
                  rotate_left; focus (simp only [Act.put, List.setIfInBounds_toArray, List.set_cons_zero, List.set_cons_succ, i64_w, i32_w, u8_w, u32_w]; rfl; done)
                  refine pure_ (i := 27) (N := some 72) (v := ?_) (a' := ?_) #[true, true, true, true, true, true, true, true, true, true, true, true, true, true, true, true, true, true, true, true, true, true, true, true, true, true, true, true, false, false, false, false, false, false] rfl rfl (any_of HT_.out (by kernel_rfl)) (fun _ _ _ h => h) (Or.inl ⟨by rfl, ?_⟩) ?_ ?_
                  rotate_left; focus (intro w'; go_simp; with_reducible rfl; done)
                  rotate_left; focus (simp only [Act.put, List.setIfInBounds_toArray, List.set_cons_zero, List.set_cons_succ, i64_w, i32_w, u8_w, u32_w]; rfl; done)
                  refine pure_ (i := 28) (N := some 73) (v := ?_) (a' := ?_) #[true, true, true, true, true, true, true, true, true, true, true, true, true, true, true, true, true, true, true, true, true, true, true, true, true, true, true, true, true, false, false, false, false, false] rfl rfl (any_of HT_.out (by kernel_rfl)) (fun _ _ _ h => h) (Or.inl ⟨by rfl, ?_⟩) ?_ ?_
                  rotate_left; focus (intro w'; go_simp; with_reducible rfl; done)
                  rotate_left; focus (simp only [Act.put, List.setIfInBounds_toArray, List.set_cons_zero, List.set_cons_succ, i64_w, i32_w, u8_w, u32_w]; rfl; done)
                  refine pure_ (i := 29) (N := some 74) (v := ?_) (a' := ?_) #[true, true, true, true, true, true, true, true, true, true, true, true, true, true, true, true, true, true, true, true, true, true, true, true, true, true, true, true, true, true, false, false, false, false] rfl rfl (any_of HT_.out (by kernel_rfl)) (fun _ _ _ h => h) (Or.inl ⟨by rfl, ?_⟩) ?_ ?_
                  rotate_left; focus (intro w'; go_simp; with_reducible rfl; done)
                  rotate_left; focus (simp only [Act.put, List.setIfInBounds_toArray, List.set_cons_zero, List.set_cons_succ, i64_w, i32_w, u8_w, u32_w]; rfl; done)
                  refine pure_ (i := 30) (N := some 75) (v := ?_) (a' := ?_) #[true, true, true, true, true, true, true, true, true, true, true, true, true, true, true, true, true, true, true, true, true, true, true, true, true, true, true, true, true, true, true, false, false, false] rfl rfl (any_of HT_.out (by kernel_rfl)) (fun _ _ _ h => h) (Or.inl ⟨by rfl, ?_⟩) ?_ ?_
                  rotate_left; focus (intro w'; go_simp; with_reducible rfl; done)
                  rotate_left; focus (simp only [Act.put, List.setIfInBounds_toArray, List.set_cons_zero, List.set_cons_succ, i64_w, i32_w, u8_w, u32_w]; rfl; done)
                  refine pure_ (i := 31) (N := some 76) (v := ?_) (a' := ?_) #[true, true, true, true, true, true, true, true, true, true, true, true, true, true, true, true, true, true, true, true, true, true, true, true, true, true, true, true, true, true, true, true, false, false] rfl rfl (any_of HT_.out (by kernel_rfl)) (fun _ _ _ h => h) (Or.inl ⟨by rfl, ?_⟩) ?_ ?_
                  rotate_left; focus (intro w'; go_simp; with_reducible rfl; done)
                  rotate_left; focus (simp only [Act.put, List.setIfInBounds_toArray, List.set_cons_zero, List.set_cons_succ, i64_w, i32_w, u8_w, u32_w]; rfl; done)
                  refine pure_ (i := 32) (N := some 77) (v := ?_) (a' := ?_) #[true, true, true, true, true, true, true, true, true, true, true, true, true, true, true, true, true, true, true, true, true, true, true, true, true, true, true, true, true, true, true, true, true, false] rfl rfl (any_of HT_.out (by kernel_rfl)) (fun _ _ _ h => h) (Or.inl ⟨by rfl, ?_⟩) ?_ ?_
                  rotate_left; focus (intro w'; go_simp; with_reducible rfl; done)
                  rotate_left; focus (simp only [Act.put, List.setIfInBounds_toArray, List.set_cons_zero, List.set_cons_succ, i64_w, i32_w, u8_w, u32_w]; rfl; done)
                  refine pure_ (i := 33) (N := some 2) (v := ?_) (a' := ?_) #[true, true, true, true, true, true, true, true, true, true, true, true, true, true, true, true, true, true, true, true, true, true, true, true, true, true, true, true, true, true, true, true, true, true] rfl rfl (any_of HT_.out (by kernel_rfl)) (fun _ _ _ h => h) (Or.inl ⟨by rfl, ?_⟩) ?_ ?_
                  rotate_left; focus (intro w'; go_simp; with_reducible rfl; done)
                  rotate_left; focus (simp only [Act.put, List.setIfInBounds_toArray, List.set_cons_zero, List.set_cons_succ, i64_w, i32_w, u8_w, u32_w]; rfl; done)
                  refine done_ (done_of HT_.out (by kernel_rfl)) ?_
                  try go_wp2
                  go_ret
                  exact ⟨by first | rfl | (simp [errW_none, errW_some] <;> rfl) | (simp only [← hji4, ← hji33]; first | rfl | (simp [errW_none, errW_some] <;> rfl)) | (simp [*, errW_none, errW_some] <;> rfl), by repeat (first | (with_reducible first | exact HB.out | apply below_alloc | apply pw_below_drewN | apply below_drew1) | exact HB.out)⟩
                 ·
                  rw [if_neg c37] at H
                  have c37b0 : (t256.toList == t258.toList) = false := beq_eq_false_iff_ne.mpr c37
                  have c37b1 : (t256.toList != t258.toList) = true := bne_iff_ne.mpr c37
                  exact absurd H (by simp)
                ·
                 rw [if_neg c36] at H
                 have c36b0 : (((rd_T25 y251 (ji33)).f0) == 0 && (((rd_T25 y251 (ji33)).f1) == 0 && ((((rd_T25 y251 (ji33)).f2).toList) == ([] : List UInt8)))) = false := by simpa using c36
                 (try (have c36b1 : (((rd_T25 y251 (ji33)).f0) == 0 && (((rd_T25 y251 (ji33)).f1) == 0 && ((((rd_T25 y251 (ji33)).f2).toList).isEmpty))) = false := by simpa using c36))
                 (try (have c36b2 : decide (((rd_T25 y251 (ji33)).f0) = 0 && (((rd_T25 y251 (ji33)).f1) == 0 && ((((rd_T25 y251 (ji33)).f2).toList) == ([] : List UInt8)))) = false := by simpa using c36))
                 (try (have c36b3 : (((rd_T25 y251 (ji33)).f0) == 0 && (((rd_T25 y251 (ji33)).f1) == 0 && ((((rd_T25 y251 (ji33)).f2).toList) == ([] : List UInt8)))) = false := by simpa using c36))
                 (try (have c36b4 : ¬ (((rd_T25 y251 (ji33)).f0) = 0 && (((rd_T25 y251 (ji33)).f1) == 0 && ((((rd_T25 y251 (ji33)).f2).toList) == ([] : List UInt8)))) := by simpa using c36))
                 clear c36
                 exact absurd H (by simp)
               ·
                rw [if_neg c35] at H
                exact absurd H (by simp)
              ·
               rw [if_neg c34] at H
               exact absurd H (by simp)
             ·
              rw [if_neg c32] at H
              have c32b0 : (((rd_T25 y251 (l0.length : Int)).f0) == 1 && (((rd_T25 y251 (l0.length : Int)).f1) == 77 && ((((rd_T25 y251 (l0.length : Int)).f2).toList) == ([] : List UInt8)))) = false := by simpa using c32
              (try (have c32b1 : (((rd_T25 y251 (l0.length : Int)).f0) == 1 && (((rd_T25 y251 (l0.length : Int)).f1) == 77 && ((((rd_T25 y251 (l0.length : Int)).f2).toList).isEmpty))) = false := by simpa using c32))
              (try (have c32b2 : decide (((rd_T25 y251 (l0.length : Int)).f0) = 1 && (((rd_T25 y251 (l0.length : Int)).f1) == 77 && ((((rd_T25 y251 (l0.length : Int)).f2).toList) == ([] : List UInt8)))) = false := by simpa using c32))
              (try (have c32b3 : (((rd_T25 y251 (l0.length : Int)).f0) == 1 && (((rd_T25 y251 (l0.length : Int)).f1) == 77 && ((((rd_T25 y251 (l0.length : Int)).f2).toList) == ([] : List UInt8)))) = false := by simpa using c32))
              (try (have c32b4 : ¬ (((rd_T25 y251 (l0.length : Int)).f0) = 1 && (((rd_T25 y251 (l0.length : Int)).f1) == 77 && ((((rd_T25 y251 (l0.length : Int)).f2).toList) == ([] : List UInt8)))) := by simpa using c32))
              clear c32
              exact absurd H (by simp)
            ·
             rw [if_neg c30] at H
             exact absurd H (by simp)
           ·
            rw [if_neg c29] at H
            exact absurd H (by simp)
          ·
           replace c28 := Bool.eq_false_iff.mpr c28
           subst c28
           have H1 : (none) = some r := by rw [if_neg (show ¬ (false = true) by decide)] at H; exact H
           clear H
           have H := H1
           clear H1
           exact absurd H (by simp)
         ·
          replace c27 := Bool.eq_false_iff.mpr c27
          subst c27
          have H1 : (none) = some r := by rw [if_neg (show ¬ (false = true) by decide)] at H; exact H
          clear H
          have H := H1
          clear H1
          exact absurd H (by simp)
      ·
       rw [if_neg c12] at H
       exact absurd H (by simp)
     ·
      rw [if_neg c9] at H
      exact absurd H (by simp)
    ·
     rw [if_neg c8] at H
     exact absurd H (by simp)
   ·
    rw [if_neg c6] at H
    exact absurd H (by simp)
  ·
   rw [if_neg c5] at H
   exact absurd H (by simp)

end Go.Proofs.YtohknmlcleifpaaDoor.PA
