-- Laid by a program of ours (wip/gen/xprint.py). Not trusted: Lean checks it.
import Derived.Test.YtlgobbofiingnaaPAx0
import Derived.Test.YtlgobbofiingnaaPAx1
import Derived.Test.YtlgobbofiingnaaPAx2
import Derived.Test.YtlgobbofiingnaaPAx3
import Derived.Test.YtlgobbofiingnaaPAx4
import Derived.Test.YtlgobbofiingnaaPAx7
import Derived.Test.YtlgobbofiingnaaPAx9
import Derived.Test.YtlgobbofiingnaaPAx10
namespace Go.Proofs.Ytlgobbofiingnaa.PA
open Go.RowKit Go.Proofs.YtlgobbofiingnaaW.PrintWords Go.Proofs.YtlgobbofiingnaaW.PrintLast Go.Proofs.YtlgobbofiingnaaW.PrintMore Go.Proofs.YtlgobbofiingnaaX
attribute [local go_sem] max2_int min2_int max_two min_two max_three min_three max_four min_four   -- for this text's walks alone
set_option linter.unusedVariables false
set_option linter.unusedSimpArgs false

attribute [local go_sem high] eqA25
theorem unisonlaw03_RowWrites.kn8 (r0_ : Int) (r1_ : Int) (r2_ : ByteArray) (h_ : unisonlaw03_number.f 77 = some (r0_, r1_, r2_)) : r0_ = 1 ∧ r1_ = 77 ∧ r2_ = (⟨#[]⟩ : ByteArray) := by
  have h2_ : unisonlaw03_number.f 77 = some (1, 77, (⟨#[]⟩ : ByteArray)) := by kernel_rfl
  have h3_ := Option.some.inj (h_.symm.trans h2_)
  simpa only [Prod.mk.injEq] using h3_
/-! ### unisonlaw03_RowWrites: function 3 -/
def unisonlaw03_RowWrites.j0 : Nat → List (S25) → Bool → List (S25) → ByteArray → Int → ByteArray → Int → Int → Int → Int → Int → Bool → Option (Bool)
 | 0, _, _, _, _, _, _, _, _, _, _, _, _ => none
 | k + 1, x0, x3, x4, x5, x6, x7, x8, x9, x10, x11, x12, x13 => if x3 = true then (if x13 = true then (if 0 ≤ (x0.length : Int) then (if (x0.length : Int) < (x4.length : Int) then ((unisonlaw03_number.f 77).bind fun _ => (if (((rd_T25 x4 (x0.length : Int)).f0) == 1 && (((rd_T25 x4 (x0.length : Int)).f1) == 77 && ((((rd_T25 x4 (x0.length : Int)).f2).toList) == ([] : List UInt8)))) = true then (if 0 ≤ (wrap64 ((x0.length : Int) + 1)) then (if (wrap64 ((x0.length : Int) + 1)) < (x4.length : Int) then (if (((rd_T25 x4 (wrap64 ((x0.length : Int) + 1))).f0) == 0 && (((rd_T25 x4 (wrap64 ((x0.length : Int) + 1))).f1) == 0 && ((((rd_T25 x4 (wrap64 ((x0.length : Int) + 1))).f2).toList) == ([] : List UInt8)))) = true then (if x5.toList = x7.toList then (if x6 = x8 then (if x9 = x11 then (some (x10 == x12)) else (none)) else (none)) else (none)) else (none)) else (none)) else (none)) else (none))) else (none)) else (none)) else (none)) else (none)
def unisonlaw03_RowWrites.f (k : Nat) (l0 : List (S25)) : Option (Bool) := if (l0.length : Int) > 2147483647 then (some true) else ((unisonlaw03_awake.f k).bind fun t232 => (if 0 ≤ (wrap64 ((l0.length : Int) + 2)) then (if (wrap64 ((l0.length : Int) + 2) : Int).toNat ≤ 8796093022208 then ((some (cpy (List.replicate (wrap64 ((l0.length : Int) + 2) : Int).toNat z25) l0 : List (S25))).bind fun y236 => ((unisonlaw03_number.f 77).bind fun _ => (if 0 ≤ (l0.length : Int) then (if (l0.length : Int) < (y236.length : Int) then ((some (y236.set ((l0.length : Int) : Int).toNat (⟨1, 77, (⟨#[]⟩ : ByteArray)⟩ : S25) : List (S25))).bind fun y240 => (if (l0.length : Int) ≤ (y236.length : Int) then ((some (y240.take ((l0.length : Int) : Int).toNat : List (S25))).bind fun y241 => ((row_Encode.f k y241).bind fun bt245 => ((unisonref03_Encode.f k l0).bind fun bt247 => ((row_Size.f k y241).bind fun bt249 => ((unisonref03_Size.f k l0).bind fun bt251 => ((unisonlaw03_same.f k y241 l0).bind fun t253 => (unisonlaw03_RowWrites.j0 k l0 t232 y240 bt245.1 bt245.2 bt247.1 bt247.2 bt249.1 bt249.2 bt251.1 bt251.2 t253))))))) else (none))) else (none)) else (none)))) else (none)) else (none)))
theorem unisonlaw03_RowWrites.mono_l : ∀ k, (∀ y0 y1 y2 y3 y4 y5 y6 y7 y8 y9 y10 y11, LeO (unisonlaw03_RowWrites.j0 k y0 y1 y2 y3 y4 y5 y6 y7 y8 y9 y10 y11) (unisonlaw03_RowWrites.j0 (k + 1) y0 y1 y2 y3 y4 y5 y6 y7 y8 y9 y10 y11))
 | 0 => fun _ _ _ _ _ _ _ _ _ _ _ _ r h => by simp [unisonlaw03_RowWrites.j0] at h
 | k + 1 => by
  have ih0 := unisonlaw03_RowWrites.mono_l k
  ·
   intro y0 y1 y2 y3 y4 y5 y6 y7 y8 y9 y10 y11
   unfold unisonlaw03_RowWrites.j0
   repeat' first
   | (with_reducible exact ih0 _ _ _ _ _ _ _ _ _ _ _ _)
   | (with_reducible exact row_Encode.mono _ _)
   | (with_reducible exact row_Size.mono _ _)
   | (with_reducible exact unisonlaw03_awake.mono _)
   | (with_reducible exact unisonlaw03_same.mono _ _ _)
   | (with_reducible exact unisonref03_Encode.mono _ _)
   | (with_reducible exact unisonref03_Size.mono _ _)
   | (with_reducible exact LeO.refl _)
   | (with_reducible exact LeO.none _)
   | (with_reducible refine LeO.ite ?_ ?_)
   | (with_reducible refine LeO.bind ?_ (fun _ => ?_))
   | exact ih0 _ _ _ _ _ _ _ _ _ _ _ _
   | exact row_Encode.mono _ _
   | exact row_Size.mono _ _
   | exact unisonlaw03_awake.mono _
   | exact unisonlaw03_same.mono _ _ _
   | exact unisonref03_Encode.mono _ _
   | exact unisonref03_Size.mono _ _
   | exact LeO.none _
   | refine LeO.ite ?_ ?_
   | refine LeO.bind ?_ (fun _ => ?_)
theorem unisonlaw03_RowWrites.mono : ∀ a0 k, LeO (unisonlaw03_RowWrites.f k a0) (unisonlaw03_RowWrites.f (k + 1) a0) := by
 intro a0 k
 have ih0 := unisonlaw03_RowWrites.mono_l k
 unfold unisonlaw03_RowWrites.f
 repeat' first
   | (with_reducible exact ih0 _ _ _ _ _ _ _ _ _ _ _ _)
   | (with_reducible exact row_Encode.mono _ _)
   | (with_reducible exact row_Size.mono _ _)
   | (with_reducible exact unisonlaw03_awake.mono _)
   | (with_reducible exact unisonlaw03_same.mono _ _ _)
   | (with_reducible exact unisonref03_Encode.mono _ _)
   | (with_reducible exact unisonref03_Size.mono _ _)
   | (with_reducible exact LeO.refl _)
   | (with_reducible exact LeO.none _)
   | (with_reducible refine LeO.ite ?_ ?_)
   | (with_reducible refine LeO.bind ?_ (fun _ => ?_))
   | exact ih0 _ _ _ _ _ _ _ _ _ _ _ _
   | exact row_Encode.mono _ _
   | exact row_Size.mono _ _
   | exact unisonlaw03_awake.mono _
   | exact unisonlaw03_same.mono _ _ _
   | exact unisonref03_Encode.mono _ _
   | exact unisonref03_Size.mono _ _
   | exact LeO.none _
   | refine LeO.ite ?_ ?_
   | refine LeO.bind ?_ (fun _ => ?_)
def unisonlaw03_RowWrites.T12 : Bool × List (List Nat × List Nat) := (true, [([], []), ([0], [0]), ([1], [1]), ([1, 2], [1, 2]), ([3, 1], [3]), ([4], [4]), ([4], [4]), ([6, 4], [4, 6]), ([5, 7, 4], [4, 5, 7]), ([8, 4], [4, 8]), ([4, 4], [4]), ([9, 10, 4], [4, 9, 10]), ([4, 11], [4, 11]), ([12, 10], [12]), ([13], [13]), ([13], [13]), ([15, 13], [13, 15]), ([16, 13], [13, 16]), ([14, 17, 13], [13, 14, 17]), ([18, 13], [13, 18]), ([13], [13]), ([19, 20, 13], [13, 19, 20]), ([13, 21], [13, 21]), ([22, 13], [22]), ([23], [23]), ([23], [23]), ([24, 25, 23], [23, 24, 25]), ([23, 26], [23, 26]), ([27, 23], [27]), ([28], [28]), ([28], [28]), ([29, 30, 28], [28, 29, 30]), ([28, 31], [28, 31]), ([32, 28], [32]), ([33], [33]), ([33], [33]), ([34, 35, 33], [33, 34, 35]), ([33, 36], [33, 36]), ([37, 33], [37]), ([38], [38]), ([38], [38]), ([39, 40, 38], [38, 39, 40]), ([38, 41], [38, 41]), ([42, 38, 0, 1, 2, 3, 4, 5, 6, 7, 8, 9, 10, 11, 12, 13, 14, 15, 16, 17, 18, 19, 20, 21, 22, 23, 24, 25, 26, 27, 28, 29, 30, 31, 32, 33, 34, 35, 36, 37, 38, 39, 40, 41, 42], [42])])
def unisonlaw03_RowWrites.B12 : List Nat := [0, 1, 3, 7, 15, 31, 31, 95, 255, 511, 31, 2047, 4095, 8191, 16383, 16383, 49151, 114687, 262143, 524287, 16383, 2097151, 4194303, 8388607, 16777215, 16777215, 67108863, 134217727, 268435455, 536870911, 536870911, 2147483647, 4294967295, 8589934591, 17179869183, 17179869183, 68719476735, 137438953471, 274877906943, 549755813887, 549755813887, 2199023255551, 4398046511103, 8796093022207]
theorem unisonlaw03_RowWrites.tab12 : rtab .any (opsOf Try.f3 12) = unisonlaw03_RowWrites.T12 := by kernel_rfl
theorem unisonlaw03_RowWrites.bits12 : waitsOk unisonlaw03_RowWrites.T12.2 unisonlaw03_RowWrites.B12 = true := by kernel_rfl
set_option maxHeartbeats 8000000 in
set_option maxRecDepth 100000 in
theorem unisonlaw03_RowWrites.calls (k : Nat) (A0 : Option Addr) (c0 : Nat) (l0 : List (S25)) (r : Bool) (w : World) (hr0 : Kd.C k25 w A0 l0.length l0) (hc0 : l0.length ≤ c0) (h : unisonlaw03_RowWrites.f k l0 = some r) :
  Calls Try.prog 3 #[.slice A0 l0.length c0] w fun e w' => e = .returned (.bool r) ∧ Below w.heap.size w w' := by
 have hu25 := Try.underlying25
 have HR0 := Aside0.mk hr0
 have HC0 := Aside0.mk hc0
 clear hr0 hc0
 have HB := Aside0.mk (Below.refl w.heap.size w)
 have H : (if (l0.length : Int) > 2147483647 then (some true) else ((unisonlaw03_awake.f k).bind fun t232 => (if 0 ≤ (wrap64 ((l0.length : Int) + 2)) then (if (wrap64 ((l0.length : Int) + 2) : Int).toNat ≤ 8796093022208 then ((some (cpy (List.replicate (wrap64 ((l0.length : Int) + 2) : Int).toNat z25) l0 : List (S25))).bind fun y236 => ((unisonlaw03_number.f 77).bind fun _ => (if 0 ≤ (l0.length : Int) then (if (l0.length : Int) < (y236.length : Int) then ((some (y236.set ((l0.length : Int) : Int).toNat (⟨1, 77, (⟨#[]⟩ : ByteArray)⟩ : S25) : List (S25))).bind fun y240 => (if (l0.length : Int) ≤ (y236.length : Int) then ((some (y240.take ((l0.length : Int) : Int).toNat : List (S25))).bind fun y241 => ((row_Encode.f k y241).bind fun bt245 => ((unisonref03_Encode.f k l0).bind fun bt247 => ((row_Size.f k y241).bind fun bt249 => ((unisonref03_Size.f k l0).bind fun bt251 => ((unisonlaw03_same.f k y241 l0).bind fun t253 => (unisonlaw03_RowWrites.j0 k l0 t232 y240 bt245.1 bt245.2 bt247.1 bt247.2 bt249.1 bt249.2 bt251.1 bt251.2 t253))))))) else (none))) else (none)) else (none)))) else (none)) else (none)))) = some r := h
 clear h
 by_cases c2 : (l0.length : Int) > 2147483647
 ·
  rw [if_pos c2] at H
  have c2b0 : decide (2147483647 < (l0.length : Int)) = true := decide_eq_true c2
  have c2b1 : decide (2147483647 < l0.length) = true := decide_eq_true (by omega)
  clear c2
  obtain rfl := Option.some.inj H
  go_enter Try.func3, Try.ntmps3
  go_wp2
  go_ret
  exact ⟨by first | rfl | (simp [errW_none, errW_some] <;> rfl) | (simp [*, errW_none, errW_some] <;> rfl), by repeat (first | (with_reducible first | exact HB.out | apply below_alloc | apply pw_below_drewN | apply below_drew1) | exact HB.out)⟩
 ·
  rw [if_neg c2] at H
  have c2b0 : decide (2147483647 < (l0.length : Int)) = false := decide_eq_false c2
  have c2b1 : decide (2147483647 < l0.length) = false := decide_eq_false (by omega)
  clear c2
  replace H := Option.bind_eq_some_iff.mp H
  obtain ⟨t232, A30, H⟩ := H
  replace H : (if 0 ≤ (wrap64 ((l0.length : Int) + 2)) then (if (wrap64 ((l0.length : Int) + 2) : Int).toNat ≤ 8796093022208 then ((some (cpy (List.replicate (wrap64 ((l0.length : Int) + 2) : Int).toNat z25) l0 : List (S25))).bind fun y236 => ((unisonlaw03_number.f 77).bind fun _ => (if 0 ≤ (l0.length : Int) then (if (l0.length : Int) < (y236.length : Int) then ((some (y236.set ((l0.length : Int) : Int).toNat (⟨1, 77, (⟨#[]⟩ : ByteArray)⟩ : S25) : List (S25))).bind fun y240 => (if (l0.length : Int) ≤ (y236.length : Int) then ((some (y240.take ((l0.length : Int) : Int).toNat : List (S25))).bind fun y241 => ((row_Encode.f k y241).bind fun bt245 => ((unisonref03_Encode.f k l0).bind fun bt247 => ((row_Size.f k y241).bind fun bt249 => ((unisonref03_Size.f k l0).bind fun bt251 => ((unisonlaw03_same.f k y241 l0).bind fun t253 => (unisonlaw03_RowWrites.j0 k l0 t232 y240 bt245.1 bt245.2 bt247.1 bt247.2 bt249.1 bt249.2 bt251.1 bt251.2 t253))))))) else (none))) else (none)) else (none)))) else (none)) else (none)) = some r := H
  have A3 := Aside0.mk A30
  clear A30
  obtain ⟨ji4, hji4⟩ : ∃ j_ : Int, (wrap64 ((l0.length : Int) + 2)) = j_ := ⟨_, rfl⟩
  replace H : (if 0 ≤ (ji4) then (if (ji4 : Int).toNat ≤ 8796093022208 then ((some (cpy (List.replicate (ji4 : Int).toNat z25) l0 : List (S25))).bind fun y236 => ((unisonlaw03_number.f 77).bind fun _ => (if 0 ≤ (l0.length : Int) then (if (l0.length : Int) < (y236.length : Int) then ((some (y236.set ((l0.length : Int) : Int).toNat (⟨1, 77, (⟨#[]⟩ : ByteArray)⟩ : S25) : List (S25))).bind fun y240 => (if (l0.length : Int) ≤ (y236.length : Int) then ((some (y240.take ((l0.length : Int) : Int).toNat : List (S25))).bind fun y241 => ((row_Encode.f k y241).bind fun bt245 => ((unisonref03_Encode.f k l0).bind fun bt247 => ((row_Size.f k y241).bind fun bt249 => ((unisonref03_Size.f k l0).bind fun bt251 => ((unisonlaw03_same.f k y241 l0).bind fun t253 => (unisonlaw03_RowWrites.j0 k l0 t232 y240 bt245.1 bt245.2 bt247.1 bt247.2 bt249.1 bt249.2 bt251.1 bt251.2 t253))))))) else (none))) else (none)) else (none)))) else (none)) else (none)) = some r := by first | (rw [hji4] at H; exact H) | (simp only [hji4] at H ⊢; exact H)
  (try rw [hji4] at A3)
  have hji4w : (IntKind.i64.wrap ((l0.length : Int) + 2)) = ji4 := (i64_w _).trans hji4
  by_cases c5 : 0 ≤ (ji4)
  ·
   rw [if_pos c5] at H
   have c5b0 := eq_true c5
   have c5b1 : decide (0 ≤ (ji4)) = true := decide_eq_true c5
   clear c5
   by_cases c6 : (ji4 : Int).toNat ≤ 8796093022208
   ·
    rw [if_pos c6] at H
    have c6b0 := eq_true c6
    have c6b1 : decide ((ji4 : Int).toNat ≤ 8796093022208) = true := decide_eq_true c6
    clear c6
    obtain ⟨y233, hy233⟩ : ∃ y_ : List (S25), y_ = (List.replicate (ji4 : Int).toNat z25) := ⟨_, rfl⟩
    replace H : ((some (cpy y233 l0 : List (S25))).bind fun y236 => ((unisonlaw03_number.f 77).bind fun _ => (if 0 ≤ (l0.length : Int) then (if (l0.length : Int) < (y236.length : Int) then ((some (y236.set ((l0.length : Int) : Int).toNat (⟨1, 77, (⟨#[]⟩ : ByteArray)⟩ : S25) : List (S25))).bind fun y240 => (if (l0.length : Int) ≤ (y236.length : Int) then ((some (y240.take ((l0.length : Int) : Int).toNat : List (S25))).bind fun y241 => ((row_Encode.f k y241).bind fun bt245 => ((unisonref03_Encode.f k l0).bind fun bt247 => ((row_Size.f k y241).bind fun bt249 => ((unisonref03_Size.f k l0).bind fun bt251 => ((unisonlaw03_same.f k y241 l0).bind fun t253 => (unisonlaw03_RowWrites.j0 k l0 t232 y240 bt245.1 bt245.2 bt247.1 bt247.2 bt249.1 bt249.2 bt251.1 bt251.2 t253))))))) else (none))) else (none)) else (none)))) = some r := by first | (rw [hy233]; with_reducible exact H) | (have H2_ := (Option.bind_some _ _).symm.trans H; rw [hy233]; with_reducible exact H2_) | (have H2_ := (Option.bind_some _ _).symm.trans H; with_reducible exact H2_) | with_reducible exact H | (rw [hy233]; exact H) | exact H
    have Ny233 := Aside0.mk hy233
    clear hy233
    obtain ⟨y236, hy236⟩ : ∃ y_ : List (S25), y_ = (cpy y233 l0) := ⟨_, rfl⟩
    replace H : ((unisonlaw03_number.f 77).bind fun _ => (if 0 ≤ (l0.length : Int) then (if (l0.length : Int) < (y236.length : Int) then ((some (y236.set ((l0.length : Int) : Int).toNat (⟨1, 77, (⟨#[]⟩ : ByteArray)⟩ : S25) : List (S25))).bind fun y240 => (if (l0.length : Int) ≤ (y236.length : Int) then ((some (y240.take ((l0.length : Int) : Int).toNat : List (S25))).bind fun y241 => ((row_Encode.f k y241).bind fun bt245 => ((unisonref03_Encode.f k l0).bind fun bt247 => ((row_Size.f k y241).bind fun bt249 => ((unisonref03_Size.f k l0).bind fun bt251 => ((unisonlaw03_same.f k y241 l0).bind fun t253 => (unisonlaw03_RowWrites.j0 k l0 t232 y240 bt245.1 bt245.2 bt247.1 bt247.2 bt249.1 bt249.2 bt251.1 bt251.2 t253))))))) else (none))) else (none)) else (none))) = some r := by first | (rw [hy236]; with_reducible exact H) | (have H2_ := (Option.bind_some _ _).symm.trans H; rw [hy236]; with_reducible exact H2_) | (have H2_ := (Option.bind_some _ _).symm.trans H; with_reducible exact H2_) | with_reducible exact H | (rw [hy236]; exact H) | exact H
    have Ny236 := Aside0.mk hy236
    clear hy236
    replace H := Option.bind_eq_some_iff.mp H
    obtain ⟨⟨t237, t238, t239⟩, A70, H⟩ := H
    replace H : (if 0 ≤ (l0.length : Int) then (if (l0.length : Int) < (y236.length : Int) then ((some (y236.set ((l0.length : Int) : Int).toNat (⟨1, 77, (⟨#[]⟩ : ByteArray)⟩ : S25) : List (S25))).bind fun y240 => (if (l0.length : Int) ≤ (y236.length : Int) then ((some (y240.take ((l0.length : Int) : Int).toNat : List (S25))).bind fun y241 => ((row_Encode.f k y241).bind fun bt245 => ((unisonref03_Encode.f k l0).bind fun bt247 => ((row_Size.f k y241).bind fun bt249 => ((unisonref03_Size.f k l0).bind fun bt251 => ((unisonlaw03_same.f k y241 l0).bind fun t253 => (unisonlaw03_RowWrites.j0 k l0 t232 y240 bt245.1 bt245.2 bt247.1 bt247.2 bt249.1 bt249.2 bt251.1 bt251.2 t253))))))) else (none))) else (none)) else (none)) = some r := H
    have hk_ : t237 = 1 ∧ t238 = 77 ∧ t239 = (⟨#[]⟩ : ByteArray) := unisonlaw03_RowWrites.kn8 _ _ _ (by have h_ := A70; exact h_)
    obtain ⟨rfl, rfl, rfl⟩ := hk_
    have A7 := Aside0.mk A70
    clear A70
    by_cases c8 : 0 ≤ (l0.length : Int)
    ·
     rw [if_pos c8] at H
     have c8b0 : decide (0 ≤ (l0.length : Int)) = true := decide_eq_true c8
     have c8b1 : decide (0 ≤ l0.length) = true := decide_eq_true (by omega)
     clear c8
     by_cases c9 : (l0.length : Int) < (y236.length : Int)
     ·
      rw [if_pos c9] at H
      have c9b0 : decide ((l0.length : Int) < (y236.length : Int)) = true := decide_eq_true c9
      have c9b1 : decide (l0.length < y236.length) = true := decide_eq_true (Int.ofNat_lt.mp c9)
      clear c9
      obtain ⟨y240, hy240⟩ : ∃ y_ : List (S25), y_ = (y236.set ((l0.length : Int) : Int).toNat (⟨1, 77, (⟨#[]⟩ : ByteArray)⟩ : S25)) := ⟨_, rfl⟩
      replace H : (if (l0.length : Int) ≤ (y236.length : Int) then ((some (y240.take ((l0.length : Int) : Int).toNat : List (S25))).bind fun y241 => ((row_Encode.f k y241).bind fun bt245 => ((unisonref03_Encode.f k l0).bind fun bt247 => ((row_Size.f k y241).bind fun bt249 => ((unisonref03_Size.f k l0).bind fun bt251 => ((unisonlaw03_same.f k y241 l0).bind fun t253 => (unisonlaw03_RowWrites.j0 k l0 t232 y240 bt245.1 bt245.2 bt247.1 bt247.2 bt249.1 bt249.2 bt251.1 bt251.2 t253))))))) else (none)) = some r := by first | (rw [hy240]; with_reducible exact H) | (have H2_ := (Option.bind_some _ _).symm.trans H; rw [hy240]; with_reducible exact H2_) | (have H2_ := (Option.bind_some _ _).symm.trans H; with_reducible exact H2_) | with_reducible exact H | (rw [hy240]; exact H) | exact H
      have Ny240 := Aside0.mk hy240
      clear hy240
      have c11b0 := eq_true (of_decide_eq_true (by first | (with_reducible assumption) | assumption) : 0 ≤ (l0.length : Int))
      by_cases c12 : (l0.length : Int) ≤ (y236.length : Int)
      ·
       rw [if_pos c12] at H
       have c12b0 := eq_true c12
       have c12b1 : decide ((l0.length : Int) ≤ (y236.length : Int)) = true := decide_eq_true c12
       clear c12
       obtain ⟨y241, hy241⟩ : ∃ y_ : List (S25), y_ = (y240.take ((l0.length : Int) : Int).toNat) := ⟨_, rfl⟩
       replace H : ((row_Encode.f k y241).bind fun bt245 => ((unisonref03_Encode.f k l0).bind fun bt247 => ((row_Size.f k y241).bind fun bt249 => ((unisonref03_Size.f k l0).bind fun bt251 => ((unisonlaw03_same.f k y241 l0).bind fun t253 => (unisonlaw03_RowWrites.j0 k l0 t232 y240 bt245.1 bt245.2 bt247.1 bt247.2 bt249.1 bt249.2 bt251.1 bt251.2 t253)))))) = some r := by first | (rw [hy241]; with_reducible exact H) | (have H2_ := (Option.bind_some _ _).symm.trans H; rw [hy241]; with_reducible exact H2_) | (have H2_ := (Option.bind_some _ _).symm.trans H; with_reducible exact H2_) | with_reducible exact H | (rw [hy241]; exact H) | exact H
       have Ny241 := Aside0.mk hy241
       clear hy241
       replace H := Option.bind_eq_some_iff.mp H
       obtain ⟨⟨t245, t246⟩, A130, H⟩ := H
       replace H : ((unisonref03_Encode.f k l0).bind fun bt247 => ((row_Size.f k y241).bind fun bt249 => ((unisonref03_Size.f k l0).bind fun bt251 => ((unisonlaw03_same.f k y241 l0).bind fun t253 => (unisonlaw03_RowWrites.j0 k l0 t232 y240 t245 t246 bt247.1 bt247.2 bt249.1 bt249.2 bt251.1 bt251.2 t253))))) = some r := H
       have A13 := Aside0.mk A130
       clear A130
       replace H := Option.bind_eq_some_iff.mp H
       obtain ⟨⟨t247, t248⟩, A140, H⟩ := H
       replace H : ((row_Size.f k y241).bind fun bt249 => ((unisonref03_Size.f k l0).bind fun bt251 => ((unisonlaw03_same.f k y241 l0).bind fun t253 => (unisonlaw03_RowWrites.j0 k l0 t232 y240 t245 t246 t247 t248 bt249.1 bt249.2 bt251.1 bt251.2 t253)))) = some r := H
       have A14 := Aside0.mk A140
       clear A140
       replace H := Option.bind_eq_some_iff.mp H
       obtain ⟨⟨t249, t250⟩, A150, H⟩ := H
       replace H : ((unisonref03_Size.f k l0).bind fun bt251 => ((unisonlaw03_same.f k y241 l0).bind fun t253 => (unisonlaw03_RowWrites.j0 k l0 t232 y240 t245 t246 t247 t248 t249 t250 bt251.1 bt251.2 t253))) = some r := H
       have A15 := Aside0.mk A150
       clear A150
       replace H := Option.bind_eq_some_iff.mp H
       obtain ⟨⟨t251, t252⟩, A160, H⟩ := H
       replace H : ((unisonlaw03_same.f k y241 l0).bind fun t253 => (unisonlaw03_RowWrites.j0 k l0 t232 y240 t245 t246 t247 t248 t249 t250 t251 t252 t253)) = some r := H
       have A16 := Aside0.mk A160
       clear A160
       have HC17 := Aside0.mk H
       clear H
       go_enter Try.func3, Try.ntmps3
       go_upto_region 11 with (first | ((with_reducible refine gate_callee (f := 6) rfl ?_); refine goesL_ (some 17) rfl rfl Try.func6 (by kernel_rfl) rfl #[] rfl (by (try simp only [List.map_toArray, List.map_cons, List.map_nil]); first | done | rfl | (simp only [List.length_drop, List.length_take]; rfl)) ?_; (with_reducible refine (unisonlaw03_awake.calls k  t232 _ A3.out).mono ?_); rintro e w18 ⟨rfl, hb⟩; refine ⟨_, rfl, ?_⟩; have n0_ := Aside0.mk (below_step (by repeat (first | (with_reducible first | exact HB.out | apply below_alloc | apply pw_below_drewN | apply below_drew1) | exact HB.out)) hb); clear HB; have HB := n0_; clear n0_; (try clear hb); (try clear hb2); (try clear hk); (try clear hi)) | ((with_reducible refine gate_dst (N := 21) rfl ?_); (try (refine gate_guard (by rfl) ?_; dsimp only)); refine Kd.R_make k25 _ 25 rfl (N := 21) rfl 22 _ _ rfl ji4 rfl rfl Try.underlying22 (.agg #[(.int .i64 0), (.int .i64 0), (.string ⟨#[]⟩)]) 32 info25 rfl (by decide) (by omega) z25 (ok := fun _ => True) (okp := fun _ => True) (k25_mkM _ _ _ z25 ) (fun _ hk => hk) trivial (of_decide_eq_true (by first | (with_reducible assumption) | assumption)) (Nat.le_trans (Nat.mul_le_mul_right _ (of_decide_eq_true (by first | (with_reducible assumption) | assumption) : ji4.toNat ≤ 8796093022208)) (by omega)) (Below.refl _ _) (Nat.le_refl _) ?_; intro v234 w19 ho20 hb hg_ hnew_; clear hg_ hnew_; (first | rw [← Ny233.out] at ho20 | (simp only [Int.reduceToNat] at ho20; rw [← Ny233.out] at ho20)); have n0_ := Aside0.mk (Kd.R_lower ho20 (below_size (by repeat (first | (with_reducible first | exact HB.out | apply below_alloc | apply pw_below_drewN | apply below_drew1) | exact HB.out)))); have n1_ := Aside0.mk (below_step (by repeat (first | (with_reducible first | exact HB.out | apply below_alloc | apply pw_below_drewN | apply below_drew1) | exact HB.out)) hb); clear HB; have HO235 := n0_; have HB := n1_; clear n0_ n1_; clear hb ho20) | ((with_reducible refine gate_builtin (b := .copy) (xs := #[.tmp 22, .tmp 23]) rfl ?_); (try (refine gate_guard (by rfl) ?_; dsimp only)); refine R_copy k25 (w0 := w) w.heap.size rfl (.tmp 22) (.tmp 23) 22 25 (.agg #[(.int .i64 0), (.int .i64 0), (.string ⟨#[]⟩)]) 32 rfl Try.underlying22 info25 (by decide) v234 y233 l0 _ _ _ (fun _ => True) rfl rfl ?aO ?aR (fun _ _ _ _ h => h) (fun _ _ _ _ _ h => h) ?aB ?_; (case aO => exact (by (with_reducible repeat (first | apply Kd.R_alloc | apply Kd.R_drewN | apply Kd.R_drew)); exact HO235.out)); (case aR => repeat (first | exact (Kd.C_below HR0.out HB.out) | (with_reducible refine Kd.C_alloc ?_ _) | (with_reducible refine Kd.C_drewN ?_ _) | (with_reducible refine Kd.C_drew ?_))); (case aB => exact (by repeat (first | (with_reducible first | exact HB.out | apply below_alloc | apply pw_below_drewN | apply below_drew1) | exact HB.out))); intro w21 ho hb hg; rw [← Ny236.out] at ho; have n0_ := Aside0.mk (ho); have n1_ := Aside0.mk (hb); clear HO235; clear HB; have HO235 := n0_; have HB := n1_; clear n0_ n1_; clear ho hb hg) | ((with_reducible refine gate_callee (f := 7) rfl ?_); refine goesL_ (some 28) rfl rfl Try.func7 (by kernel_rfl) rfl #[.int .i64 77] rfl (by (try simp only [List.map_toArray, List.map_cons, List.map_nil]); first | done | rfl | (simp only [List.length_drop, List.length_take]; rfl)) ?_; (with_reducible refine (unisonlaw03_number.calls 77 1 77 (⟨#[]⟩ : ByteArray) _ A7.out).mono ?_); rintro e w22 ⟨rfl, hb⟩; refine ⟨_, rfl, ?_⟩; have n0_ := Aside0.mk (Kd.R_below (by (with_reducible repeat (first | apply Kd.R_alloc | apply Kd.R_drewN | apply Kd.R_drew)); exact HO235.out) hb); have n1_ := Aside0.mk (below_step (by repeat (first | (with_reducible first | exact HB.out | apply below_alloc | apply pw_below_drewN | apply below_drew1) | exact HB.out)) hb); clear HO235; clear HB; have HO235 := n0_; have HB := n1_; clear n0_ n1_; (try clear hb); (try clear hb2); (try clear hk); (try clear hi); have p10 : 0 ≤ ((l0.length : Int) : Int) := of_decide_eq_true (by first | (with_reducible assumption) | assumption); have q10 : ((l0.length : Int) : Int) < ((y236.length : Int) : Int) := of_decide_eq_true (by first | (with_reducible assumption) | assumption); obtain ⟨go10, co10, eo10, gb10, gl10, cl10, HG10⟩ := Kd.R_form HO235.out (by omega); (first | cases eo10 | (injection eo10 with ea_ en_ ec_; (first | subst ea_ | (injection ea_ with ea_; subst ea_)); subst ec_; clear en_)); have GB10 := Aside0.mk gb10; have GG10 := Aside0.mk HG10; clear gb10 gl10 HG10; obtain ⟨ce10, hcl10, hM10, hcc10, hfr10⟩ := Kd.R_elem HO235.out z25 ((l0.length : Int) : Int) p10 q10; obtain rfl := k25_openM hM10; have hx10_0 : w22.cell? ⟨go10, ((l0.length : Int) : Int).toNat * 3, none⟩ = some (.int .i64 ((rd_T25 y236 (l0.length : Int)).f0)) := hcc10 0 _ rfl; (try simp only [Int.toNat_natCast] at hx10_0); have hx10_1 : w22.cell? ⟨go10, ((l0.length : Int) : Int).toNat * 3 + 1, none⟩ = some (.int .i64 ((rd_T25 y236 (l0.length : Int)).f1)) := hcc10 1 _ rfl; (try simp only [Int.toNat_natCast] at hx10_1); have hx10_2 : w22.cell? ⟨go10, ((l0.length : Int) : Int).toNat * 3 + 2, none⟩ = some (.string ((rd_T25 y236 (l0.length : Int)).f2)) := hcc10 2 _ rfl; (try simp only [Int.toNat_natCast] at hx10_2); have hf10_0 : w22.frozen? ⟨go10, ((l0.length : Int) : Int).toNat * 3, none⟩ = false := hfr10 0; (try simp only [Int.toNat_natCast] at hf10_0); have hf10_1 : w22.frozen? ⟨go10, ((l0.length : Int) : Int).toNat * 3 + 1, none⟩ = false := hfr10 1; (try simp only [Int.toNat_natCast] at hf10_1); have hf10_2 : w22.frozen? ⟨go10, ((l0.length : Int) : Int).toNat * 3 + 2, none⟩ = false := hfr10 2; (try simp only [Int.toNat_natCast] at hf10_2); clear hcl10 hcc10 hfr10 hM10; replace p10 := eq_true p10; replace q10 := eq_true q10; have HX23 := Aside0.mk (show Kd.R k25 25 w22 w.heap.size (fun _ => True) (.slice (some ⟨go10, 0, none⟩) y236.length co10) y236 from (by (with_reducible repeat (first | apply Kd.R_alloc | apply Kd.R_drewN | apply Kd.R_drew)); exact HO235.out)); obtain ⟨ce23, hcl23, hM23, hcc23, hfr23⟩ := Kd.R_elem HX23.out z25 ((l0.length : Int) : Int) (of_decide_eq_true (by first | (with_reducible assumption) | assumption)) (by have h_ : ((l0.length : Int) : Int) < ((y236.length : Int) : Int) := of_decide_eq_true (by first | (with_reducible assumption) | assumption); first | exact h_ | (have e_ := (Kd.R_reads' HO235.out).1; omega) | simpa using h_); obtain rfl := k25_openM hM23; have HP23 := Kd.R_seg HX23.out ((l0.length : Int) : Int) (of_decide_eq_true (by first | (with_reducible assumption) | assumption)) (by have h_ : ((l0.length : Int) : Int) < ((y236.length : Int) : Int) := of_decide_eq_true (by first | (with_reducible assumption) | assumption); first | exact h_ | (have e_ := (Kd.R_reads' HO235.out).1; omega) | simpa using h_) (seg := [.int .i64 1, .int .i64 77, .string (⟨#[]⟩ : ByteArray)]) (j := 0) hcl23 hcc23 (show 3 ≤ 3 from by decide) (x' := (⟨1, 77, (⟨#[]⟩ : ByteArray)⟩ : S25)) (k25_mkM _ _ _ (⟨1, 77, (⟨#[]⟩ : ByteArray)⟩ : S25) ) (fun _ hk => hk); have hx23_0 := hcc23 0 _ rfl; (try simp only [show (k25).sz = 3 from rfl, Nat.mul_one, Nat.add_zero, Int.toNat_natCast] at hx23_0); have hf23_0 := hfr23 0; (try simp only [show (k25).sz = 3 from rfl, Nat.mul_one, Nat.add_zero, Int.toNat_natCast] at hf23_0); have hx23_1 := hcc23 1 _ rfl; (try simp only [show (k25).sz = 3 from rfl, Nat.mul_one, Nat.add_zero, Int.toNat_natCast] at hx23_1); have hf23_1 := hfr23 1; (try simp only [show (k25).sz = 3 from rfl, Nat.mul_one, Nat.add_zero, Int.toNat_natCast] at hf23_1); have hx23_2 := hcc23 2 _ rfl; (try simp only [show (k25).sz = 3 from rfl, Nat.mul_one, Nat.add_zero, Int.toNat_natCast] at hx23_2); have hf23_2 := hfr23 2; (try simp only [show (k25).sz = 3 from rfl, Nat.mul_one, Nat.add_zero, Int.toNat_natCast] at hf23_2); clear hcl23 hcc23 hfr23 hM23) | ((with_reducible refine gate_store (t := 25) (p := 29) rfl ?_); refine store_event (t := 25) (p := 29) (v := ?vo_w24) (w1 := (((w22.setCell ⟨go10, ((l0.length : Int) : Int).toNat * 3, none⟩ (.int .i64 1)).setCell ⟨go10, ((l0.length : Int) : Int).toNat * 3 + 1, none⟩ (.int .i64 77)).setCell ⟨go10, ((l0.length : Int) : Int).toNat * 3 + 2, none⟩ (.string (⟨#[]⟩ : ByteArray)))) ?hg ?ho ?hn ?hr ?_; (case ho => rfl); (case hg => rfl); (case hn => rfl); (case hr => first | (go_simp; done) | (go_simp; rfl)); intro w24 hw; have hg : w22.grownBy w24 (some go10) := (by rw [hw]; exact HP23.2); have hp_ : Kd.R k25 25 w24 w.heap.size (fun _ => True) (.slice (some ⟨go10, 0, none⟩) y236.length co10) y240 := (by rw [hw, Ny240.out]; exact HP23.1); clear HP23; have n0_ := Aside0.mk (hp_); have n1_ := Aside0.mk ((by rw [hw]; exact below_set (below_set (below_set (HB.out) GB10.out) GB10.out) GB10.out : Below w.heap.size w w24)); clear HO235; clear HB; have HO235 := n0_; have HB := n1_; clear n0_ n1_; clear hg hw hp_; have hlx25 := (Kd.R_reads' HO235.out).1; have q25 : ((l0.length : Int) : Int) ≤ ((y236.length : Int) : Int) := of_decide_eq_true (by first | (with_reducible assumption) | assumption); obtain ⟨i025, hi025, _, hsz25, _⟩ := info_parts info25; have hroom25 : y236.length ≤ co10 := (Kd.R_reads' HO235.out).2.1; have hroomc25 : y240.length ≤ co10 := (by rw [← hlx25]; exact hroom25); have hC25 : Kd.C k25 _ (some ⟨go10, 0, none⟩) y240.length y240 := (Kd.R_reads' HO235.out).2.2; have hcut25 := cut_to (P := Try.prog) 22 25 .i64 Try.underlying22 hi025 (some ⟨go10, 0, none⟩) y236.length co10 (l0.length : Int) (of_decide_eq_true (by first | (with_reducible assumption) | assumption)) q25 hroom25; have hr25 := Kd.C_take (m := ((l0.length : Int) : Int).toNat) hC25 (by omega); have hy25 : y241.length = ((l0.length : Int) : Int).toNat := (by rw [Ny241.out, List.length_take]; omega); rw [← Ny241.out] at hr25; rw [← hy25] at hcut25; have HR244 := Aside0.mk hr25; have HC244 := Aside0.mk (show y241.length ≤ co10 from by omega); clear hr25 hC25 hroom25 hi025 hsz25 hroomc25; have KY25 := Aside0.mk hy25; clear hy25; have KE25 := Aside0.mk hlx25; have KL25 := Aside0.mk (show ((l0.length : Int) : Int).toNat ≤ y240.length from by omega); clear hlx25; replace q25 := eq_true q25) | ((with_reducible refine gate_callee (f := 8) rfl ?_); refine goesL_ (some 35) rfl rfl Try.func8 (by kernel_rfl) rfl #[.slice (some ⟨go10, 0, none⟩) y241.length co10] rfl (by (try simp only [List.map_toArray, List.map_cons, List.map_nil]); first | done | rfl | (simp only [List.length_drop, List.length_take]; rfl)) ?_; (with_reducible refine (row_Encode.calls k _ _ y241 t245 t246 _ ?side1 ?side2 A13.out).mono ?_); (case side1 => repeat (first | exact (by repeat (first | (with_reducible exact HR244.out) | (with_reducible refine Kd.C_alloc ?_ _) | (with_reducible refine Kd.C_drewN ?_ _) | (with_reducible refine Kd.C_drew ?_) | exact HR244.out)) | (with_reducible refine Kd.C_alloc ?_ _) | (with_reducible refine Kd.C_drewN ?_ _) | (with_reducible refine Kd.C_drew ?_))); (case side2 => exact HC244.out); rintro e w26 ⟨rfl, hb⟩; refine ⟨_, rfl, ?_⟩; have n0_ := Aside0.mk (Kd.R_below (by (with_reducible repeat (first | apply Kd.R_alloc | apply Kd.R_drewN | apply Kd.R_drew)); exact HO235.out) hb); have n1_ := Aside0.mk (Kd.C_below (by repeat (first | (with_reducible exact HR244.out) | (with_reducible refine Kd.C_alloc ?_ _) | (with_reducible refine Kd.C_drewN ?_ _) | (with_reducible refine Kd.C_drew ?_) | exact HR244.out)) hb); have n2_ := Aside0.mk (below_step (by repeat (first | (with_reducible first | exact HB.out | apply below_alloc | apply pw_below_drewN | apply below_drew1) | exact HB.out)) hb); clear HO235; clear HR244; clear HB; have HO235 := n0_; have HR244 := n1_; have HB := n2_; clear n0_ n1_ n2_; (try clear hb); (try clear hb2); (try clear hk); (try clear hi)) | ((with_reducible refine gate_callee (f := 9) rfl ?_); refine goesL_ (some 40) rfl rfl Try.func9 (by kernel_rfl) rfl #[.slice A0 l0.length c0] rfl (by (try simp only [List.map_toArray, List.map_cons, List.map_nil]); first | done | rfl | (simp only [List.length_drop, List.length_take]; rfl)) ?_; (with_reducible refine (unisonref03_Encode.calls k _ _ l0 t247 t248 _ ?side1 ?side2 A14.out).mono ?_); (case side1 => repeat (first | exact (Kd.C_below HR0.out HB.out) | (with_reducible refine Kd.C_alloc ?_ _) | (with_reducible refine Kd.C_drewN ?_ _) | (with_reducible refine Kd.C_drew ?_))); (case side2 => exact HC0.out); rintro e w27 ⟨rfl, hb⟩; refine ⟨_, rfl, ?_⟩; have n0_ := Aside0.mk (Kd.R_below (by (with_reducible repeat (first | apply Kd.R_alloc | apply Kd.R_drewN | apply Kd.R_drew)); exact HO235.out) hb); have n1_ := Aside0.mk (Kd.C_below (by repeat (first | (with_reducible exact HR244.out) | (with_reducible refine Kd.C_alloc ?_ _) | (with_reducible refine Kd.C_drewN ?_ _) | (with_reducible refine Kd.C_drew ?_) | exact HR244.out)) hb); have n2_ := Aside0.mk (below_step (by repeat (first | (with_reducible first | exact HB.out | apply below_alloc | apply pw_below_drewN | apply below_drew1) | exact HB.out)) hb); clear HO235; clear HR244; clear HB; have HO235 := n0_; have HR244 := n1_; have HB := n2_; clear n0_ n1_ n2_; (try clear hb); (try clear hb2); (try clear hk); (try clear hi)) | ((with_reducible refine gate_callee (f := 10) rfl ?_); refine goesL_ (some 48) rfl rfl Try.func10 (by kernel_rfl) rfl #[.slice (some ⟨go10, 0, none⟩) y241.length co10] rfl (by (try simp only [List.map_toArray, List.map_cons, List.map_nil]); first | done | rfl | (simp only [List.length_drop, List.length_take]; rfl)) ?_; (with_reducible refine (row_Size.calls k _ _ y241 t249 t250 _ ?side1 ?side2 A15.out).mono ?_); (case side1 => repeat (first | exact (by repeat (first | (with_reducible exact HR244.out) | (with_reducible refine Kd.C_alloc ?_ _) | (with_reducible refine Kd.C_drewN ?_ _) | (with_reducible refine Kd.C_drew ?_) | exact HR244.out)) | (with_reducible refine Kd.C_alloc ?_ _) | (with_reducible refine Kd.C_drewN ?_ _) | (with_reducible refine Kd.C_drew ?_))); (case side2 => exact HC244.out); rintro e w28 ⟨rfl, hb⟩; refine ⟨_, rfl, ?_⟩; have n0_ := Aside0.mk (Kd.R_below (by (with_reducible repeat (first | apply Kd.R_alloc | apply Kd.R_drewN | apply Kd.R_drew)); exact HO235.out) hb); have n1_ := Aside0.mk (Kd.C_below (by repeat (first | (with_reducible exact HR244.out) | (with_reducible refine Kd.C_alloc ?_ _) | (with_reducible refine Kd.C_drewN ?_ _) | (with_reducible refine Kd.C_drew ?_) | exact HR244.out)) hb); have n2_ := Aside0.mk (below_step (by repeat (first | (with_reducible first | exact HB.out | apply below_alloc | apply pw_below_drewN | apply below_drew1) | exact HB.out)) hb); clear HO235; clear HR244; clear HB; have HO235 := n0_; have HR244 := n1_; have HB := n2_; clear n0_ n1_ n2_; (try clear hb); (try clear hb2); (try clear hk); (try clear hi)) | ((with_reducible refine gate_callee (f := 11) rfl ?_); refine goesL_ (some 53) rfl rfl Try.func11 (by kernel_rfl) rfl #[.slice A0 l0.length c0] rfl (by (try simp only [List.map_toArray, List.map_cons, List.map_nil]); first | done | rfl | (simp only [List.length_drop, List.length_take]; rfl)) ?_; (with_reducible refine (unisonref03_Size.calls k _ _ l0 t251 t252 _ ?side1 ?side2 A16.out).mono ?_); (case side1 => repeat (first | exact (Kd.C_below HR0.out HB.out) | (with_reducible refine Kd.C_alloc ?_ _) | (with_reducible refine Kd.C_drewN ?_ _) | (with_reducible refine Kd.C_drew ?_))); (case side2 => exact HC0.out); rintro e w29 ⟨rfl, hb⟩; refine ⟨_, rfl, ?_⟩; have n0_ := Aside0.mk (Kd.R_below (by (with_reducible repeat (first | apply Kd.R_alloc | apply Kd.R_drewN | apply Kd.R_drew)); exact HO235.out) hb); have n1_ := Aside0.mk (Kd.C_below (by repeat (first | (with_reducible exact HR244.out) | (with_reducible refine Kd.C_alloc ?_ _) | (with_reducible refine Kd.C_drewN ?_ _) | (with_reducible refine Kd.C_drew ?_) | exact HR244.out)) hb); have n2_ := Aside0.mk (below_step (by repeat (first | (with_reducible first | exact HB.out | apply below_alloc | apply pw_below_drewN | apply below_drew1) | exact HB.out)) hb); clear HO235; clear HR244; clear HB; have HO235 := n0_; have HR244 := n1_; have HB := n2_; clear n0_ n1_ n2_; (try clear hb); (try clear hb2); (try clear hk); (try clear hi)))
       (try simp only [Act.put, List.setIfInBounds_toArray, List.set_cons_zero, List.set_cons_succ])
       go_cut [13] (fun v13 wc => ∃ (kq : Nat) (x13_16 : Bool), v13 = .bool x13_16 ∧ Aside0 (unisonlaw03_RowWrites.j0 kq l0 t232 y240 t245 t246 t247 t248 t249 t250 t251 t252 x13_16 = some r) ∧ Aside0 (kq ≤ k) ∧ Aside0 (Kd.R k25 25 wc w.heap.size (fun _ => True) (.slice (some ⟨go10, 0, none⟩) y236.length co10) y240) ∧ Aside0 (Kd.C k25 wc (some ⟨go10, 0, none⟩) y241.length y241) ∧ Aside0 (Below w.heap.size w wc))
       case first =>
        have H := HC17.out
        clear HC17
        replace H := Option.bind_eq_some_iff.mp H
        obtain ⟨t253, A300, H⟩ := H
        replace H : (unisonlaw03_RowWrites.j0 k l0 t232 y240 t245 t246 t247 t248 t249 t250 t251 t252 t253) = some r := H
        have A30 := Aside0.mk A300
        clear A300
        have H' := Aside0.mk H
        clear H
        go_wp2_with (first | ((with_reducible refine gate_callee (f := 12) rfl ?_); refine goesL_ (some 61) rfl rfl Try.func12 (by kernel_rfl) rfl #[.slice (some ⟨go10, 0, none⟩) y241.length co10, .slice A0 l0.length c0] rfl (by (try simp only [List.map_toArray, List.map_cons, List.map_nil]); first | done | rfl | (simp only [List.length_drop, List.length_take]; rfl)) ?_; (with_reducible refine (unisonlaw03_same.calls k _ _ y241 _ _ l0 t253 _ ?side1 ?side2 ?side3 ?side4 A30.out).mono ?_); (case side1 => repeat (first | exact (by repeat (first | (with_reducible exact HR244.out) | (with_reducible refine Kd.C_alloc ?_ _) | (with_reducible refine Kd.C_drewN ?_ _) | (with_reducible refine Kd.C_drew ?_) | exact HR244.out)) | (with_reducible refine Kd.C_alloc ?_ _) | (with_reducible refine Kd.C_drewN ?_ _) | (with_reducible refine Kd.C_drew ?_))); (case side2 => exact HC244.out); (case side3 => repeat (first | exact (Kd.C_below HR0.out HB.out) | (with_reducible refine Kd.C_alloc ?_ _) | (with_reducible refine Kd.C_drewN ?_ _) | (with_reducible refine Kd.C_drew ?_))); (case side4 => exact HC0.out); rintro e w' ⟨rfl, ⟨nd, rfl⟩⟩; refine ⟨_, rfl, ?_⟩))
        go_meet
        case rel => exact ⟨_, (t253), (by first | rfl | (simp; done) | (simp [*]; done)), H', ⟨by first | omega | exact Nat.le_refl _⟩, ⟨by (with_reducible repeat (first | apply Kd.R_alloc | apply Kd.R_drewN | apply Kd.R_drew)); exact HO235.out⟩, ⟨by repeat (first | (with_reducible exact HR244.out) | (with_reducible refine Kd.C_alloc ?_ _) | (with_reducible refine Kd.C_drewN ?_ _) | (with_reducible refine Kd.C_drew ?_) | exact HR244.out)⟩, ⟨by repeat (first | (with_reducible first | exact HB.out | apply below_alloc | apply pw_below_drewN | apply below_drew1) | exact HB.out)⟩⟩
       case rest =>
        clear HC17
        try clear c1
        try clear p1
        try clear q1
        try clear hx1
        try clear hf1
        try clear c2
        try clear c2b0
        try clear c2b1
        try clear p2
        try clear q2
        try clear hx2
        try clear hf2
        try clear c3
        try clear c5
        try clear c5b0
        try clear c5b1
        try clear c6
        try clear c6b0
        try clear c6b1
        try clear p6
        try clear c7
        try clear c8
        try clear c8b0
        try clear c8b1
        try clear c9
        try clear c9b0
        try clear c9b1
        try clear c10
        try clear p10
        try clear q10
        try clear hx10
        try clear hf10
        try clear c11
        try clear c11b0
        try clear c12
        try clear c12b0
        try clear c12b1
        try clear c23
        try clear hx23
        try clear hf23
        try clear c25
        try clear q25
        try clear hx10_0
        try clear hx10_1
        try clear hx10_2
        try clear hx23_0
        try clear hx23_1
        try clear hx23_2
        try clear p10
        try clear q10
        try clear q25
        obtain ⟨kq, x13_16, rfl, HA, HJ16, HO_4, HR244, HB⟩ := hcut
        have hl4_16 := (Kd.R_reads' HO_4.out).1
        rw [hl4_16] at HO_4
        (try simp only [hl4_16])
        cases kq with
        | zero => exact absurd HA.out (by simp [unisonlaw03_RowWrites.j0])
        | succ kj16 =>
         have H := HA.out
         clear HA
         simp only [unisonlaw03_RowWrites.j0] at H
         by_cases c31 : t232 = true
         ·
          subst c31
          have H1 : (if x13_16 = true then (if 0 ≤ (l0.length : Int) then (if (l0.length : Int) < (y240.length : Int) then ((unisonlaw03_number.f 77).bind fun _ => (if (((rd_T25 y240 (l0.length : Int)).f0) == 1 && (((rd_T25 y240 (l0.length : Int)).f1) == 77 && ((((rd_T25 y240 (l0.length : Int)).f2).toList) == ([] : List UInt8)))) = true then (if 0 ≤ (wrap64 ((l0.length : Int) + 1)) then (if (wrap64 ((l0.length : Int) + 1)) < (y240.length : Int) then (if (((rd_T25 y240 (wrap64 ((l0.length : Int) + 1))).f0) == 0 && (((rd_T25 y240 (wrap64 ((l0.length : Int) + 1))).f1) == 0 && ((((rd_T25 y240 (wrap64 ((l0.length : Int) + 1))).f2).toList) == ([] : List UInt8)))) = true then (if t245.toList = t247.toList then (if t246 = t248 then (if t249 = t251 then (some (t250 == t252)) else (none)) else (none)) else (none)) else (none)) else (none)) else (none)) else (none))) else (none)) else (none)) else (none)) = some r := by rw [if_pos rfl] at H; exact H
          clear H
          have H := H1
          clear H1
          by_cases c32 : x13_16 = true
          ·
           subst c32
           have H1 : (if 0 ≤ (l0.length : Int) then (if (l0.length : Int) < (y240.length : Int) then ((unisonlaw03_number.f 77).bind fun _ => (if (((rd_T25 y240 (l0.length : Int)).f0) == 1 && (((rd_T25 y240 (l0.length : Int)).f1) == 77 && ((((rd_T25 y240 (l0.length : Int)).f2).toList) == ([] : List UInt8)))) = true then (if 0 ≤ (wrap64 ((l0.length : Int) + 1)) then (if (wrap64 ((l0.length : Int) + 1)) < (y240.length : Int) then (if (((rd_T25 y240 (wrap64 ((l0.length : Int) + 1))).f0) == 0 && (((rd_T25 y240 (wrap64 ((l0.length : Int) + 1))).f1) == 0 && ((((rd_T25 y240 (wrap64 ((l0.length : Int) + 1))).f2).toList) == ([] : List UInt8)))) = true then (if t245.toList = t247.toList then (if t246 = t248 then (if t249 = t251 then (some (t250 == t252)) else (none)) else (none)) else (none)) else (none)) else (none)) else (none)) else (none))) else (none)) else (none)) = some r := by rw [if_pos rfl] at H; exact H
           clear H
           have H := H1
           clear H1
           by_cases c33 : 0 ≤ (l0.length : Int)
           ·
            rw [if_pos c33] at H
            have c33b0 : decide (0 ≤ (l0.length : Int)) = true := decide_eq_true c33
            have c33b1 : decide (0 ≤ l0.length) = true := decide_eq_true (by omega)
            clear c33
            by_cases c34 : (l0.length : Int) < (y240.length : Int)
            ·
             rw [if_pos c34] at H
             have c34b0 : decide ((l0.length : Int) < (y240.length : Int)) = true := decide_eq_true c34
             have c34b1 : decide (l0.length < y240.length) = true := decide_eq_true (Int.ofNat_lt.mp c34)
             clear c34
             replace H := Option.bind_eq_some_iff.mp H
             obtain ⟨⟨t255, t256, t257⟩, A350, H⟩ := H
             replace H : (if (((rd_T25 y240 (l0.length : Int)).f0) == 1 && (((rd_T25 y240 (l0.length : Int)).f1) == 77 && ((((rd_T25 y240 (l0.length : Int)).f2).toList) == ([] : List UInt8)))) = true then (if 0 ≤ (wrap64 ((l0.length : Int) + 1)) then (if (wrap64 ((l0.length : Int) + 1)) < (y240.length : Int) then (if (((rd_T25 y240 (wrap64 ((l0.length : Int) + 1))).f0) == 0 && (((rd_T25 y240 (wrap64 ((l0.length : Int) + 1))).f1) == 0 && ((((rd_T25 y240 (wrap64 ((l0.length : Int) + 1))).f2).toList) == ([] : List UInt8)))) = true then (if t245.toList = t247.toList then (if t246 = t248 then (if t249 = t251 then (some (t250 == t252)) else (none)) else (none)) else (none)) else (none)) else (none)) else (none)) else (none)) = some r := H
             have hk_ : t255 = 1 ∧ t256 = 77 ∧ t257 = (⟨#[]⟩ : ByteArray) := unisonlaw03_RowWrites.kn8 _ _ _ (by have h_ := A350; exact h_)
             obtain ⟨rfl, rfl, rfl⟩ := hk_
             have A35 := Aside0.mk A350
             clear A350
             by_cases c36 : (((rd_T25 y240 (l0.length : Int)).f0) == 1 && (((rd_T25 y240 (l0.length : Int)).f1) == 77 && ((((rd_T25 y240 (l0.length : Int)).f2).toList) == ([] : List UInt8)))) = true
             ·
              rw [if_pos c36] at H
              have c36b0 : (((rd_T25 y240 (l0.length : Int)).f0) == 1 && (((rd_T25 y240 (l0.length : Int)).f1) == 77 && ((((rd_T25 y240 (l0.length : Int)).f2).toList) == ([] : List UInt8)))) = true := c36
              (try (have c36b1 : (((rd_T25 y240 (l0.length : Int)).f0) == 1 && (((rd_T25 y240 (l0.length : Int)).f1) == 77 && ((((rd_T25 y240 (l0.length : Int)).f2).toList).isEmpty))) = true := by simpa using c36))
              (try (have c36b2 : decide (((rd_T25 y240 (l0.length : Int)).f0) = 1 && (((rd_T25 y240 (l0.length : Int)).f1) == 77 && ((((rd_T25 y240 (l0.length : Int)).f2).toList) == ([] : List UInt8)))) = true := by simpa using c36))
              (try (have c36b3 : (((rd_T25 y240 (l0.length : Int)).f0) == 1 && (((rd_T25 y240 (l0.length : Int)).f1) == 77 && ((((rd_T25 y240 (l0.length : Int)).f2).toList) == ([] : List UInt8)))) = true := by simpa using c36))
              clear c36
              obtain ⟨ji37, hji37⟩ : ∃ j_ : Int, (wrap64 ((l0.length : Int) + 1)) = j_ := ⟨_, rfl⟩
              replace H : (if 0 ≤ (ji37) then (if (ji37) < (y240.length : Int) then (if (((rd_T25 y240 (ji37)).f0) == 0 && (((rd_T25 y240 (ji37)).f1) == 0 && ((((rd_T25 y240 (ji37)).f2).toList) == ([] : List UInt8)))) = true then (if t245.toList = t247.toList then (if t246 = t248 then (if t249 = t251 then (some (t250 == t252)) else (none)) else (none)) else (none)) else (none)) else (none)) else (none)) = some r := by first | (rw [hji37] at H; exact H) | (simp only [hji37] at H ⊢; exact H)
              (try rw [hji37] at A35)
              have hji37w : (IntKind.i64.wrap ((l0.length : Int) + 1)) = ji37 := (i64_w _).trans hji37
              by_cases c38 : 0 ≤ (ji37)
              ·
               rw [if_pos c38] at H
               have c38b0 : decide (0 ≤ (ji37)) = true := decide_eq_true c38
               clear c38
               by_cases c39 : (ji37) < (y240.length : Int)
               ·
                rw [if_pos c39] at H
                have c39b0 : decide ((ji37) < (y240.length : Int)) = true := decide_eq_true c39
                clear c39
                by_cases c40 : (((rd_T25 y240 (ji37)).f0) == 0 && (((rd_T25 y240 (ji37)).f1) == 0 && ((((rd_T25 y240 (ji37)).f2).toList) == ([] : List UInt8)))) = true
                ·
                 rw [if_pos c40] at H
                 have c40b0 : (((rd_T25 y240 (ji37)).f0) == 0 && (((rd_T25 y240 (ji37)).f1) == 0 && ((((rd_T25 y240 (ji37)).f2).toList) == ([] : List UInt8)))) = true := c40
                 (try (have c40b1 : (((rd_T25 y240 (ji37)).f0) == 0 && (((rd_T25 y240 (ji37)).f1) == 0 && ((((rd_T25 y240 (ji37)).f2).toList).isEmpty))) = true := by simpa using c40))
                 (try (have c40b2 : decide (((rd_T25 y240 (ji37)).f0) = 0 && (((rd_T25 y240 (ji37)).f1) == 0 && ((((rd_T25 y240 (ji37)).f2).toList) == ([] : List UInt8)))) = true := by simpa using c40))
                 (try (have c40b3 : (((rd_T25 y240 (ji37)).f0) == 0 && (((rd_T25 y240 (ji37)).f1) == 0 && ((((rd_T25 y240 (ji37)).f2).toList) == ([] : List UInt8)))) = true := by simpa using c40))
                 clear c40
                 by_cases c41 : t245.toList = t247.toList
                 ·
                  rw [if_pos c41] at H
                  have c41b0 : (t245.toList == t247.toList) = true := beq_iff_eq.mpr c41
                  have c41b1 : (t245.toList != t247.toList) = false := bne_eq_false_iff_eq.mpr c41
                  clear c41
                  by_cases c42 : t246 = t248
                  ·
                   rw [if_pos c42] at H
                   have c42b0 : (t246 == t248) = true := beq_iff_eq.mpr c42
                   have c42b1 : (t246 != t248) = false := bne_eq_false_iff_eq.mpr c42
                   clear c42
                   by_cases c43 : t249 = t251
                   ·
                    rw [if_pos c43] at H
                    have c43b0 : (t249 == t251) = true := beq_iff_eq.mpr c43
                    have c43b1 : (t249 != t251) = false := bne_eq_false_iff_eq.mpr c43
                    clear c43
                    obtain rfl := Option.some.inj H
                    try go_wp2
                    have n0_ := Aside0.mk (Kd.R_drew HO_4.out)
                    have n1_ := Aside0.mk (Kd.C_drew HR244.out)
                    have n2_ := Aside0.mk (below_drew1 HB.out)
                    clear HO_4
                    clear HR244
                    clear HB
                    have HO_4 := n0_
                    have HR244 := n1_
                    have HB := n2_
                    clear n0_ n1_ n2_
                    have p254 : 0 ≤ ((l0.length : Int) : Int) := of_decide_eq_true (by first | (with_reducible assumption) | assumption)
                    have q254 : (l0.length : Int) < (y240.length : Int) := of_decide_eq_true (by first | (with_reducible assumption) | assumption)
                    obtain ⟨ad254, e254, hx254_0, hx254_1, hx254_2⟩ := at_T25 (Kd.R_reads' HO_4.out).2.2 (l0.length : Int) p254 q254
                    obtain rfl : (⟨go10, 0, none⟩ : Addr) = ad254 := (by injection e254)
                    (first | simp only [add_plain] at hx254_0 | simp only [add_at] at hx254_0 | simp only [Addr.add, Nat.zero_add] at hx254_0 | skip)
                    (first | simp only [add_plain] at hx254_1 | simp only [add_at] at hx254_1 | simp only [Addr.add, Nat.zero_add] at hx254_1 | skip)
                    (first | simp only [add_plain] at hx254_2 | simp only [add_at] at hx254_2 | simp only [Addr.add, Nat.zero_add] at hx254_2 | skip)
                    (try simp only [Go.IntWalk.toNatUp] at hx254_0)
                    (try simp only [Go.IntWalk.toNatUp] at hx254_1)
                    (try simp only [Go.IntWalk.toNatUp] at hx254_2)
                    (try simp only [hl4_16] at p254)
                    (try simp only [hl4_16] at q254)
                    (try simp only [hl4_16] at hx254_0)
                    (try simp only [hl4_16] at hx254_1)
                    (try simp only [hl4_16] at hx254_2)
                    replace p254 := eq_true p254
                    replace q254 := eq_true q254
                    have p258 : 0 ≤ ((ji37) : Int) := of_decide_eq_true (by first | (with_reducible assumption) | assumption)
                    have q258 : (ji37) < (y240.length : Int) := of_decide_eq_true (by first | (with_reducible assumption) | assumption)
                    obtain ⟨ad258, e258, hx258_0, hx258_1, hx258_2⟩ := at_T25 (Kd.R_reads' HO_4.out).2.2 (ji37) p258 q258
                    obtain rfl : (⟨go10, 0, none⟩ : Addr) = ad258 := (by injection e258)
                    (first | simp only [add_plain] at hx258_0 | simp only [add_at] at hx258_0 | simp only [Addr.add, Nat.zero_add] at hx258_0 | skip)
                    (first | simp only [add_plain] at hx258_1 | simp only [add_at] at hx258_1 | simp only [Addr.add, Nat.zero_add] at hx258_1 | skip)
                    (first | simp only [add_plain] at hx258_2 | simp only [add_at] at hx258_2 | simp only [Addr.add, Nat.zero_add] at hx258_2 | skip)
                    replace p258 := eq_true p258
                    replace q258 := eq_true q258
                    refine start_ (n := 44) (S := fun w' => w'.cell? ⟨go10, ((l0.length : Int)).toNat * 3, none⟩ = some (.int .i64 ((rd_T25 y240 (l0.length : Int)).f0)) ∧ w'.cell? ⟨go10, ((l0.length : Int)).toNat * 3 + 1, none⟩ = some (.int .i64 ((rd_T25 y240 (l0.length : Int)).f1)) ∧ w'.cell? ⟨go10, ((l0.length : Int)).toNat * 3 + 2, none⟩ = some (.string ((rd_T25 y240 (l0.length : Int)).f2)) ∧ w'.cell? ⟨go10, ((ji37)).toNat * 3, none⟩ = some (.int .i64 ((rd_T25 y240 (ji37)).f0)) ∧ w'.cell? ⟨go10, ((ji37)).toNat * 3 + 1, none⟩ = some (.int .i64 ((rd_T25 y240 (ji37)).f1)) ∧ w'.cell? ⟨go10, ((ji37)).toNat * 3 + 2, none⟩ = some (.string ((rd_T25 y240 (ji37)).f2))) (ds := []) #[false, false, false, false, false, false, false, false, false, false, false, false, false, false, false, false, false, false, false, false, false, false, false, false, false, false, false, false, false, false, false, false, false, false, false, false, false, false, false, false, false, false, false, false] (by kernel_rfl) rfl rfl ⟨hx254_0, hx254_1, hx254_2, hx258_0, hx258_1, hx258_2⟩ (fun hHeld => ?_); refine with_tabW unisonlaw03_RowWrites.tab12 unisonlaw03_RowWrites.bits12 (fun HT_ HW_ => ?_)
                    generalize wc.drew = w44 at HO_4 HR244 HB hx254_0 hx254_1 hx254_2 hx258_0 hx258_1 hx258_2 hHeld ⊢
                    refine pure_ (i := 0) (N := some 62) (v := ?_) (a' := ?_) #[true, false, false, false, false, false, false, false, false, false, false, false, false, false, false, false, false, false, false, false, false, false, false, false, false, false, false, false, false, false, false, false, false, false, false, false, false, false, false, false, false, false, false, false] rfl rfl (any_of HT_.out (by kernel_rfl)) (fun _ _ _ h => h) (Or.inl ⟨by rfl, ?_⟩) ?_ ?_
                    rotate_left; focus (intro w'; go_simp; with_reducible rfl; done)
                    rotate_left; focus (simp only [Act.put, List.setIfInBounds_toArray, List.set_cons_zero, List.set_cons_succ, i64_w, i32_w, u8_w, u32_w]; rfl; done)
                    refine pure_ (i := 1) (N := some 63) (v := ?_) (a' := ?_) #[true, true, false, false, false, false, false, false, false, false, false, false, false, false, false, false, false, false, false, false, false, false, false, false, false, false, false, false, false, false, false, false, false, false, false, false, false, false, false, false, false, false, false, false] rfl rfl (any_of HT_.out (by kernel_rfl)) (fun _ _ _ h => h) (Or.inl ⟨by rfl, ?_⟩) ?_ ?_
                    rotate_left; focus (intro w'; go_simp; with_reducible rfl; done)
                    rotate_left; focus (simp only [Act.put, List.setIfInBounds_toArray, List.set_cons_zero, List.set_cons_succ, i64_w, i32_w, u8_w, u32_w]; rfl; done)
                    refine pure_ (i := 2) (N := some 64) (v := ?_) (a' := ?_) #[true, true, true, false, false, false, false, false, false, false, false, false, false, false, false, false, false, false, false, false, false, false, false, false, false, false, false, false, false, false, false, false, false, false, false, false, false, false, false, false, false, false, false, false] rfl rfl (any_of HT_.out (by kernel_rfl)) (fun _ _ _ h => h) (Or.inl ⟨by rfl, ?_⟩) ?_ ?_
                    rotate_left; focus (intro w'; go_simp; with_reducible rfl; done)
                    rotate_left; focus (simp only [Act.put, List.setIfInBounds_toArray, List.set_cons_zero, List.set_cons_succ, i64_w, i32_w, u8_w, u32_w]; rfl; done)
                    refine pure_ (i := 3) (N := some 65) (v := ?_) (a' := ?_) #[true, true, true, true, false, false, false, false, false, false, false, false, false, false, false, false, false, false, false, false, false, false, false, false, false, false, false, false, false, false, false, false, false, false, false, false, false, false, false, false, false, false, false, false] rfl rfl (any_of HT_.out (by kernel_rfl)) (fun _ _ _ h => h) (Or.inl ⟨by rfl, ?_⟩) ?_ ?_
                    rotate_left; focus (intro w'; go_simp; with_reducible rfl; done)
                    rotate_left; focus (simp only [Act.put, List.setIfInBounds_toArray, List.set_cons_zero, List.set_cons_succ, i64_w, i32_w, u8_w, u32_w]; rfl; done)
                    refine pure_ (i := 4) (N := some 66) (v := ?_) (a' := ?_) #[true, true, true, true, true, false, false, false, false, false, false, false, false, false, false, false, false, false, false, false, false, false, false, false, false, false, false, false, false, false, false, false, false, false, false, false, false, false, false, false, false, false, false, false] rfl rfl (any_of HT_.out (by kernel_rfl)) (fun _ _ _ h => h) (Or.inl ⟨by rfl, ?_⟩) ?_ ?_
                    rotate_left; focus (intro w'; go_simp; with_reducible rfl; done)
                    rotate_left; focus (simp only [Act.put, List.setIfInBounds_toArray, List.set_cons_zero, List.set_cons_succ, i64_w, i32_w, u8_w, u32_w]; rfl; done)
                    refine pure_ (i := 5) (N := some 67) (v := ?_) (a' := ?_) #[true, true, true, true, true, true, false, false, false, false, false, false, false, false, false, false, false, false, false, false, false, false, false, false, false, false, false, false, false, false, false, false, false, false, false, false, false, false, false, false, false, false, false, false] rfl rfl (any_of HT_.out (by kernel_rfl)) (fun _ _ _ h => h) (Or.inl ⟨by rfl, ?_⟩) ?_ ?_
                    rotate_left; focus (intro w'; go_simp; with_reducible rfl; done)
                    rotate_left; focus (simp only [Act.put, List.setIfInBounds_toArray, List.set_cons_zero, List.set_cons_succ, i64_w, i32_w, u8_w, u32_w]; rfl; done)
                    refine pure_ (i := 6) (N := some 68) (v := ?_) (a' := ?_) #[true, true, true, true, true, true, true, false, false, false, false, false, false, false, false, false, false, false, false, false, false, false, false, false, false, false, false, false, false, false, false, false, false, false, false, false, false, false, false, false, false, false, false, false] rfl rfl (any_of HT_.out (by kernel_rfl)) (fun _ _ _ h => h) (Or.inl ⟨by rfl, ?_⟩) ?_ ?_
                    rotate_left; focus (intro w'; go_simp; with_reducible rfl; done)
                    rotate_left; focus (simp only [Act.put, List.setIfInBounds_toArray, List.set_cons_zero, List.set_cons_succ, i64_w, i32_w, u8_w, u32_w]; rfl; done)
                    refine pure_ (i := 7) (N := some 69) (v := ?_) (a' := ?_) #[true, true, true, true, true, true, true, true, false, false, false, false, false, false, false, false, false, false, false, false, false, false, false, false, false, false, false, false, false, false, false, false, false, false, false, false, false, false, false, false, false, false, false, false] rfl rfl (any_of HT_.out (by kernel_rfl)) (fun _ _ _ h => h) (Or.inl ⟨by rfl, ?_⟩) ?_ ?_
                    rotate_left; focus (intro w'; go_simp; with_reducible rfl; done)
                    rotate_left; focus (simp only [Act.put, List.setIfInBounds_toArray, List.set_cons_zero, List.set_cons_succ, i64_w, i32_w, u8_w, u32_w]; rfl; done)
                    refine pure_ (i := 8) (N := some 70) (v := ?_) (a' := ?_) #[true, true, true, true, true, true, true, true, true, false, false, false, false, false, false, false, false, false, false, false, false, false, false, false, false, false, false, false, false, false, false, false, false, false, false, false, false, false, false, false, false, false, false, false] rfl rfl (any_of HT_.out (by kernel_rfl)) (fun _ _ _ h => h) (Or.inl ⟨by rfl, ?_⟩) ?_ ?_
                    rotate_left; focus (intro w'; go_simp; with_reducible rfl; done)
                    rotate_left; focus (simp only [Act.put, List.setIfInBounds_toArray, List.set_cons_zero, List.set_cons_succ, i64_w, i32_w, u8_w, u32_w]; rfl; done)
                    refine take_ (i := 9) (N := some 71) (v := ?_) (a' := ?_) #[true, true, true, true, true, true, true, true, true, true, false, false, false, false, false, false, false, false, false, false, false, false, false, false, false, false, false, false, false, false, false, false, false, false, false, false, false, false, false, false, false, false, false, false] rfl rfl (take_ofW HT_.out HW_.out (by kernel_rfl)) (fun _ _ _ h => h) (Or.inl ⟨by rfl, ?_⟩) hHeld ?_ ?_
                    rotate_left; focus (rintro w' ⟨s0, s1, s2, s3, s4, s5⟩; (try simp only [Int.toNat_natCast] at s0 s1 s2 s3 s4 s5); go_simp; with_reducible rfl; done)
                    rotate_left; focus (simp only [Act.put, List.setIfInBounds_toArray, List.set_cons_zero, List.set_cons_succ, i64_w, i32_w, u8_w, u32_w]; rfl; done)
                    refine one_ (i := 10) (N := some 72) #[true, true, true, true, true, true, true, true, true, true, true, false, false, false, false, false, false, false, false, false, false, false, false, false, false, false, false, false, false, false, false, false, false, false, false, false, false, false, false, false, false, false, false, false] rfl rfl (one_of HT_.out (by kernel_rfl)) (by decide) (fun K hK => ?_)
                    refine goes_ Try.func7 (by kernel_rfl) rfl #[.int .i64 77] (by rfl) rfl rfl (by (try simp only [List.map_toArray, List.map_cons, List.map_nil]); first | done | rfl | (simp only [List.length_drop, List.length_take]; rfl)) ?_
                    with_reducible refine (unisonlaw03_number.calls 77 1 77 (⟨#[]⟩ : ByteArray) _ A35.out).mono ?_
                    rintro e w45 ⟨rfl, hb⟩
                    have HS0_ := (hb.cell (World.block_lt_of_cell? _ _ (hHeld.1))).trans (hHeld.1)
                    have HS1_ := (hb.cell (World.block_lt_of_cell? _ _ (hHeld.2.1))).trans (hHeld.2.1)
                    have HS2_ := (hb.cell (World.block_lt_of_cell? _ _ (hHeld.2.2.1))).trans (hHeld.2.2.1)
                    have HS3_ := (hb.cell (World.block_lt_of_cell? _ _ (hHeld.2.2.2.1))).trans (hHeld.2.2.2.1)
                    have HS4_ := (hb.cell (World.block_lt_of_cell? _ _ (hHeld.2.2.2.2.1))).trans (hHeld.2.2.2.2.1)
                    have HS5_ := (hb.cell (World.block_lt_of_cell? _ _ (hHeld.2.2.2.2.2))).trans (hHeld.2.2.2.2.2)
                    refine ⟨_, rfl, ?_⟩
                    have n0_ := Aside0.mk (Kd.R_below (by (with_reducible repeat (first | apply Kd.R_alloc | apply Kd.R_drewN | apply Kd.R_drew)); exact HO_4.out) hb)
                    have n1_ := Aside0.mk (Kd.C_below (by repeat (first | (with_reducible exact HR244.out) | (with_reducible refine Kd.C_alloc ?_ _) | (with_reducible refine Kd.C_drewN ?_ _) | (with_reducible refine Kd.C_drew ?_) | exact HR244.out)) hb)
                    have n2_ := Aside0.mk (below_step (by repeat (first | (with_reducible first | exact HB.out | apply below_alloc | apply pw_below_drewN | apply below_drew1) | exact HB.out)) hb)
                    clear HO_4
                    clear HR244
                    clear HB
                    have HO_4 := n0_
                    have HR244 := n1_
                    have HB := n2_
                    clear n0_ n1_ n2_
                    (try clear hb)
                    (try clear hb2)
                    (try clear hk)
                    (try clear hi)
                    refine hK.out _ _ ⟨HS0_, HS1_, HS2_, HS3_, HS4_, HS5_⟩ (fun hHeld => ?_)
                    clear hK K
                    refine norm_ (a' := ?_) ?_ ?_
                    rotate_left; focus (show Act.put _ (some 72) _ = _; simp only [Act.put, List.setIfInBounds_toArray, List.set_cons_zero, List.set_cons_succ, i64_w, i32_w, u8_w, u32_w]; rfl; done)
                    refine pure_ (i := 11) (N := some 73) (v := ?_) (a' := ?_) #[true, true, true, true, true, true, true, true, true, true, true, true, false, false, false, false, false, false, false, false, false, false, false, false, false, false, false, false, false, false, false, false, false, false, false, false, false, false, false, false, false, false, false, false] rfl rfl (any_of HT_.out (by kernel_rfl)) (fun _ _ _ h => h) (Or.inl ⟨by rfl, ?_⟩) ?_ ?_
                    rotate_left; focus (intro w'; go_simp; with_reducible rfl; done)
                    rotate_left; focus (simp only [Act.put, List.setIfInBounds_toArray, List.set_cons_zero, List.set_cons_succ, i64_w, i32_w, u8_w, u32_w]; rfl; done)
                    refine pure_ (i := 12) (N := some 74) (v := ?_) (a' := ?_) #[true, true, true, true, true, true, true, true, true, true, true, true, true, false, false, false, false, false, false, false, false, false, false, false, false, false, false, false, false, false, false, false, false, false, false, false, false, false, false, false, false, false, false, false] rfl rfl (any_of HT_.out (by kernel_rfl)) (fun _ _ _ h => h) (Or.inl ⟨by rfl, ?_⟩) ?_ ?_
                    rotate_left; focus (intro w'; go_simp; with_reducible rfl; done)
                    rotate_left; focus (simp only [Act.put, List.setIfInBounds_toArray, List.set_cons_zero, List.set_cons_succ, i64_w, i32_w, u8_w, u32_w]; rfl; done)
                    refine pure_ (i := 13) (N := some 75) (v := ?_) (a' := ?_) #[true, true, true, true, true, true, true, true, true, true, true, true, true, true, false, false, false, false, false, false, false, false, false, false, false, false, false, false, false, false, false, false, false, false, false, false, false, false, false, false, false, false, false, false] rfl rfl (any_of HT_.out (by kernel_rfl)) (fun _ _ _ h => h) (Or.inl ⟨by rfl, ?_⟩) ?_ ?_
                    rotate_left; focus (intro w'; go_simp; with_reducible rfl; done)
                    rotate_left; focus (simp only [Act.put, List.setIfInBounds_toArray, List.set_cons_zero, List.set_cons_succ, i64_w, i32_w, u8_w, u32_w]; rfl; done)
                    refine pure_ (i := 14) (N := some 76) (v := ?_) (a' := ?_) #[true, true, true, true, true, true, true, true, true, true, true, true, true, true, true, false, false, false, false, false, false, false, false, false, false, false, false, false, false, false, false, false, false, false, false, false, false, false, false, false, false, false, false, false] rfl rfl (any_of HT_.out (by kernel_rfl)) (fun _ _ _ h => h) (Or.inl ⟨by rfl, ?_⟩) ?_ ?_
                    rotate_left; focus (intro w'; go_simp; with_reducible rfl; done)
                    rotate_left; focus (simp only [Act.put, List.setIfInBounds_toArray, List.set_cons_zero, List.set_cons_succ, i64_w, i32_w, u8_w, u32_w]; rfl; done)
                    refine pure_ (i := 15) (N := some 77) (v := ?_) (a' := ?_) #[true, true, true, true, true, true, true, true, true, true, true, true, true, true, true, true, false, false, false, false, false, false, false, false, false, false, false, false, false, false, false, false, false, false, false, false, false, false, false, false, false, false, false, false] rfl rfl (any_of HT_.out (by kernel_rfl)) (fun _ _ _ h => h) (Or.inl ⟨by rfl, ?_⟩) ?_ ?_
                    rotate_left; focus (intro w'; go_simp; with_reducible rfl; done)
                    rotate_left; focus (simp only [Act.put, List.setIfInBounds_toArray, List.set_cons_zero, List.set_cons_succ, i64_w, i32_w, u8_w, u32_w]; rfl; done)
                    refine pure_ (i := 16) (N := some 78) (v := ?_) (a' := ?_) #[true, true, true, true, true, true, true, true, true, true, true, true, true, true, true, true, true, false, false, false, false, false, false, false, false, false, false, false, false, false, false, false, false, false, false, false, false, false, false, false, false, false, false, false] rfl rfl (any_of HT_.out (by kernel_rfl)) (fun _ _ _ h => h) (Or.inl ⟨by rfl, ?_⟩) ?_ ?_
                    rotate_left; focus (intro w'; go_simp; with_reducible rfl; done)
                    rotate_left; focus (simp only [Act.put, List.setIfInBounds_toArray, List.set_cons_zero, List.set_cons_succ, i64_w, i32_w, u8_w, u32_w]; rfl; done)
                    refine pure_ (i := 17) (N := some 79) (v := ?_) (a' := ?_) #[true, true, true, true, true, true, true, true, true, true, true, true, true, true, true, true, true, true, false, false, false, false, false, false, false, false, false, false, false, false, false, false, false, false, false, false, false, false, false, false, false, false, false, false] rfl rfl (any_of HT_.out (by kernel_rfl)) (fun _ _ _ h => h) (Or.inl ⟨by rfl, ?_⟩) ?_ ?_
                    rotate_left; focus (intro w'; go_simp; with_reducible rfl; done)
                    rotate_left; focus (simp only [Act.put, List.setIfInBounds_toArray, List.set_cons_zero, List.set_cons_succ, i64_w, i32_w, u8_w, u32_w]; rfl; done)
                    refine pure_ (i := 18) (N := some 80) (v := ?_) (a' := ?_) #[true, true, true, true, true, true, true, true, true, true, true, true, true, true, true, true, true, true, true, false, false, false, false, false, false, false, false, false, false, false, false, false, false, false, false, false, false, false, false, false, false, false, false, false] rfl rfl (any_of HT_.out (by kernel_rfl)) (fun _ _ _ h => h) (Or.inl ⟨by rfl, ?_⟩) ?_ ?_
                    rotate_left; focus (intro w'; go_simp; with_reducible rfl; done)
                    rotate_left; focus (simp only [Act.put, List.setIfInBounds_toArray, List.set_cons_zero, List.set_cons_succ, i64_w, i32_w, u8_w, u32_w]; rfl; done)
                    refine pure_ (i := 20) (N := some 82) (v := ?_) (a' := ?_) #[true, true, true, true, true, true, true, true, true, true, true, true, true, true, true, true, true, true, true, false, true, false, false, false, false, false, false, false, false, false, false, false, false, false, false, false, false, false, false, false, false, false, false, false] rfl rfl (any_of HT_.out (by kernel_rfl)) (fun _ _ _ h => h) (Or.inl ⟨by rfl, ?_⟩) ?_ ?_
                    rotate_left; focus (intro w'; go_simp; with_reducible rfl; done)
                    rotate_left; focus (simp only [Act.put, List.setIfInBounds_toArray, List.set_cons_zero, List.set_cons_succ, i64_w, i32_w, u8_w, u32_w]; rfl; done)
                    refine take_ (i := 19) (N := some 81) (v := ?_) (a' := ?_) #[true, true, true, true, true, true, true, true, true, true, true, true, true, true, true, true, true, true, true, true, true, false, false, false, false, false, false, false, false, false, false, false, false, false, false, false, false, false, false, false, false, false, false, false] rfl rfl (take_ofW HT_.out HW_.out (by kernel_rfl)) (fun _ _ _ h => h) (Or.inl ⟨by rfl, ?_⟩) hHeld ?_ ?_
                    rotate_left; focus (rintro w' ⟨s0, s1, s2, s3, s4, s5⟩; (try simp only [Int.toNat_natCast] at s0 s1 s2 s3 s4 s5); go_simp; with_reducible rfl; done)
                    rotate_left; focus (simp only [Act.put, List.setIfInBounds_toArray, List.set_cons_zero, List.set_cons_succ, i64_w, i32_w, u8_w, u32_w]; rfl; done)
                    refine pure_ (i := 21) (N := some 83) (v := ?_) (a' := ?_) #[true, true, true, true, true, true, true, true, true, true, true, true, true, true, true, true, true, true, true, true, true, true, false, false, false, false, false, false, false, false, false, false, false, false, false, false, false, false, false, false, false, false, false, false] rfl rfl (any_of HT_.out (by kernel_rfl)) (fun _ _ _ h => h) (Or.inl ⟨by rfl, ?_⟩) ?_ ?_
                    rotate_left; focus (intro w'; go_simp; with_reducible rfl; done)
                    rotate_left; focus (simp only [Act.put, List.setIfInBounds_toArray, List.set_cons_zero, List.set_cons_succ, i64_w, i32_w, u8_w, u32_w]; rfl; done)
                    refine pure_ (i := 22) (N := some 84) (v := ?_) (a' := ?_) #[true, true, true, true, true, true, true, true, true, true, true, true, true, true, true, true, true, true, true, true, true, true, true, false, false, false, false, false, false, false, false, false, false, false, false, false, false, false, false, false, false, false, false, false] rfl rfl (any_of HT_.out (by kernel_rfl)) (fun _ _ _ h => h) (Or.inl ⟨by rfl, ?_⟩) ?_ ?_
                    rotate_left; focus (intro w'; go_simp; with_reducible rfl; done)
                    rotate_left; focus (simp only [Act.put, List.setIfInBounds_toArray, List.set_cons_zero, List.set_cons_succ, i64_w, i32_w, u8_w, u32_w]; rfl; done)
                    refine pure_ (i := 23) (N := some 85) (v := ?_) (a' := ?_) #[true, true, true, true, true, true, true, true, true, true, true, true, true, true, true, true, true, true, true, true, true, true, true, true, false, false, false, false, false, false, false, false, false, false, false, false, false, false, false, false, false, false, false, false] rfl rfl (any_of HT_.out (by kernel_rfl)) (fun _ _ _ h => h) (Or.inl ⟨by rfl, ?_⟩) ?_ ?_
                    rotate_left; focus (intro w'; go_simp; with_reducible rfl; done)
                    rotate_left; focus (simp only [Act.put, List.setIfInBounds_toArray, List.set_cons_zero, List.set_cons_succ, i64_w, i32_w, u8_w, u32_w]; rfl; done)
                    refine pure_ (i := 24) (N := some 86) (v := ?_) (a' := ?_) #[true, true, true, true, true, true, true, true, true, true, true, true, true, true, true, true, true, true, true, true, true, true, true, true, true, false, false, false, false, false, false, false, false, false, false, false, false, false, false, false, false, false, false, false] rfl rfl (any_of HT_.out (by kernel_rfl)) (fun _ _ _ h => h) (Or.inl ⟨by rfl, ?_⟩) ?_ ?_
                    rotate_left; focus (intro w'; go_simp; with_reducible rfl; done)
                    rotate_left; focus (simp only [Act.put, List.setIfInBounds_toArray, List.set_cons_zero, List.set_cons_succ, i64_w, i32_w, u8_w, u32_w]; rfl; done)
                    refine pure_ (i := 25) (N := some 87) (v := ?_) (a' := ?_) #[true, true, true, true, true, true, true, true, true, true, true, true, true, true, true, true, true, true, true, true, true, true, true, true, true, true, false, false, false, false, false, false, false, false, false, false, false, false, false, false, false, false, false, false] rfl rfl (any_of HT_.out (by kernel_rfl)) (fun _ _ _ h => h) (Or.inl ⟨by rfl, ?_⟩) ?_ ?_
                    rotate_left; focus (intro w'; go_simp; with_reducible rfl; done)
                    rotate_left; focus (simp only [Act.put, List.setIfInBounds_toArray, List.set_cons_zero, List.set_cons_succ, i64_w, i32_w, u8_w, u32_w]; rfl; done)
                    refine pure_ (i := 26) (N := some 88) (v := ?_) (a' := ?_) #[true, true, true, true, true, true, true, true, true, true, true, true, true, true, true, true, true, true, true, true, true, true, true, true, true, true, true, false, false, false, false, false, false, false, false, false, false, false, false, false, false, false, false, false] rfl rfl (any_of HT_.out (by kernel_rfl)) (fun _ _ _ h => h) (Or.inl ⟨by rfl, ?_⟩) ?_ ?_
                    rotate_left; focus (intro w'; go_simp; with_reducible rfl; done)
                    rotate_left; focus (simp only [Act.put, List.setIfInBounds_toArray, List.set_cons_zero, List.set_cons_succ, i64_w, i32_w, u8_w, u32_w]; rfl; done)
                    refine pure_ (i := 27) (N := some 89) (v := ?_) (a' := ?_) #[true, true, true, true, true, true, true, true, true, true, true, true, true, true, true, true, true, true, true, true, true, true, true, true, true, true, true, true, false, false, false, false, false, false, false, false, false, false, false, false, false, false, false, false] rfl rfl (any_of HT_.out (by kernel_rfl)) (fun _ _ _ h => h) (Or.inl ⟨by rfl, ?_⟩) ?_ ?_
                    rotate_left; focus (intro w'; go_simp; with_reducible rfl; done)
                    rotate_left; focus (simp only [Act.put, List.setIfInBounds_toArray, List.set_cons_zero, List.set_cons_succ, i64_w, i32_w, u8_w, u32_w]; rfl; done)
                    refine pure_ (i := 28) (N := some 90) (v := ?_) (a' := ?_) #[true, true, true, true, true, true, true, true, true, true, true, true, true, true, true, true, true, true, true, true, true, true, true, true, true, true, true, true, true, false, false, false, false, false, false, false, false, false, false, false, false, false, false, false] rfl rfl (any_of HT_.out (by kernel_rfl)) (fun _ _ _ h => h) (Or.inl ⟨by rfl, ?_⟩) ?_ ?_
                    rotate_left; focus (intro w'; go_simp; with_reducible rfl; done)
                    rotate_left; focus (simp only [Act.put, List.setIfInBounds_toArray, List.set_cons_zero, List.set_cons_succ, i64_w, i32_w, u8_w, u32_w]; rfl; done)
                    refine pure_ (i := 29) (N := some 91) (v := ?_) (a' := ?_) #[true, true, true, true, true, true, true, true, true, true, true, true, true, true, true, true, true, true, true, true, true, true, true, true, true, true, true, true, true, true, false, false, false, false, false, false, false, false, false, false, false, false, false, false] rfl rfl (any_of HT_.out (by kernel_rfl)) (fun _ _ _ h => h) (Or.inl ⟨by rfl, ?_⟩) ?_ ?_
                    rotate_left; focus (intro w'; go_simp; with_reducible rfl; done)
                    rotate_left; focus (simp only [Act.put, List.setIfInBounds_toArray, List.set_cons_zero, List.set_cons_succ, i64_w, i32_w, u8_w, u32_w]; rfl; done)
                    refine pure_ (i := 30) (N := some 92) (v := ?_) (a' := ?_) #[true, true, true, true, true, true, true, true, true, true, true, true, true, true, true, true, true, true, true, true, true, true, true, true, true, true, true, true, true, true, true, false, false, false, false, false, false, false, false, false, false, false, false, false] rfl rfl (any_of HT_.out (by kernel_rfl)) (fun _ _ _ h => h) (Or.inl ⟨by rfl, ?_⟩) ?_ ?_
                    rotate_left; focus (intro w'; go_simp; with_reducible rfl; done)
                    rotate_left; focus (simp only [Act.put, List.setIfInBounds_toArray, List.set_cons_zero, List.set_cons_succ, i64_w, i32_w, u8_w, u32_w]; rfl; done)
                    refine pure_ (i := 31) (N := some 93) (v := ?_) (a' := ?_) #[true, true, true, true, true, true, true, true, true, true, true, true, true, true, true, true, true, true, true, true, true, true, true, true, true, true, true, true, true, true, true, true, false, false, false, false, false, false, false, false, false, false, false, false] rfl rfl (any_of HT_.out (by kernel_rfl)) (fun _ _ _ h => h) (Or.inl ⟨by rfl, ?_⟩) ?_ ?_
                    rotate_left; focus (intro w'; go_simp; with_reducible rfl; done)
                    rotate_left; focus (simp only [Act.put, List.setIfInBounds_toArray, List.set_cons_zero, List.set_cons_succ, i64_w, i32_w, u8_w, u32_w]; rfl; done)
                    refine pure_ (i := 32) (N := some 94) (v := ?_) (a' := ?_) #[true, true, true, true, true, true, true, true, true, true, true, true, true, true, true, true, true, true, true, true, true, true, true, true, true, true, true, true, true, true, true, true, true, false, false, false, false, false, false, false, false, false, false, false] rfl rfl (any_of HT_.out (by kernel_rfl)) (fun _ _ _ h => h) (Or.inl ⟨by rfl, ?_⟩) ?_ ?_
                    rotate_left; focus (intro w'; go_simp; with_reducible rfl; done)
                    rotate_left; focus (simp only [Act.put, List.setIfInBounds_toArray, List.set_cons_zero, List.set_cons_succ, i64_w, i32_w, u8_w, u32_w]; rfl; done)
                    refine pure_ (i := 33) (N := some 95) (v := ?_) (a' := ?_) #[true, true, true, true, true, true, true, true, true, true, true, true, true, true, true, true, true, true, true, true, true, true, true, true, true, true, true, true, true, true, true, true, true, true, false, false, false, false, false, false, false, false, false, false] rfl rfl (any_of HT_.out (by kernel_rfl)) (fun _ _ _ h => h) (Or.inl ⟨by rfl, ?_⟩) ?_ ?_
                    rotate_left; focus (intro w'; go_simp; with_reducible rfl; done)
                    rotate_left; focus (simp only [Act.put, List.setIfInBounds_toArray, List.set_cons_zero, List.set_cons_succ, i64_w, i32_w, u8_w, u32_w]; rfl; done)
                    refine pure_ (i := 34) (N := some 96) (v := ?_) (a' := ?_) #[true, true, true, true, true, true, true, true, true, true, true, true, true, true, true, true, true, true, true, true, true, true, true, true, true, true, true, true, true, true, true, true, true, true, true, false, false, false, false, false, false, false, false, false] rfl rfl (any_of HT_.out (by kernel_rfl)) (fun _ _ _ h => h) (Or.inl ⟨by rfl, ?_⟩) ?_ ?_
                    rotate_left; focus (intro w'; go_simp; with_reducible rfl; done)
                    rotate_left; focus (simp only [Act.put, List.setIfInBounds_toArray, List.set_cons_zero, List.set_cons_succ, i64_w, i32_w, u8_w, u32_w]; rfl; done)
                    refine pure_ (i := 35) (N := some 97) (v := ?_) (a' := ?_) #[true, true, true, true, true, true, true, true, true, true, true, true, true, true, true, true, true, true, true, true, true, true, true, true, true, true, true, true, true, true, true, true, true, true, true, true, false, false, false, false, false, false, false, false] rfl rfl (any_of HT_.out (by kernel_rfl)) (fun _ _ _ h => h) (Or.inl ⟨by rfl, ?_⟩) ?_ ?_
                    rotate_left; focus (intro w'; go_simp; with_reducible rfl; done)
                    rotate_left; focus (simp only [Act.put, List.setIfInBounds_toArray, List.set_cons_zero, List.set_cons_succ, i64_w, i32_w, u8_w, u32_w]; rfl; done)
                    refine pure_ (i := 36) (N := some 98) (v := ?_) (a' := ?_) #[true, true, true, true, true, true, true, true, true, true, true, true, true, true, true, true, true, true, true, true, true, true, true, true, true, true, true, true, true, true, true, true, true, true, true, true, true, false, false, false, false, false, false, false] rfl rfl (any_of HT_.out (by kernel_rfl)) (fun _ _ _ h => h) (Or.inl ⟨by rfl, ?_⟩) ?_ ?_
                    rotate_left; focus (intro w'; go_simp; with_reducible rfl; done)
                    rotate_left; focus (simp only [Act.put, List.setIfInBounds_toArray, List.set_cons_zero, List.set_cons_succ, i64_w, i32_w, u8_w, u32_w]; rfl; done)
                    refine pure_ (i := 37) (N := some 99) (v := ?_) (a' := ?_) #[true, true, true, true, true, true, true, true, true, true, true, true, true, true, true, true, true, true, true, true, true, true, true, true, true, true, true, true, true, true, true, true, true, true, true, true, true, true, false, false, false, false, false, false] rfl rfl (any_of HT_.out (by kernel_rfl)) (fun _ _ _ h => h) (Or.inl ⟨by rfl, ?_⟩) ?_ ?_
                    rotate_left; focus (intro w'; go_simp; with_reducible rfl; done)
                    rotate_left; focus (simp only [Act.put, List.setIfInBounds_toArray, List.set_cons_zero, List.set_cons_succ, i64_w, i32_w, u8_w, u32_w]; rfl; done)
                    refine pure_ (i := 38) (N := some 100) (v := ?_) (a' := ?_) #[true, true, true, true, true, true, true, true, true, true, true, true, true, true, true, true, true, true, true, true, true, true, true, true, true, true, true, true, true, true, true, true, true, true, true, true, true, true, true, false, false, false, false, false] rfl rfl (any_of HT_.out (by kernel_rfl)) (fun _ _ _ h => h) (Or.inl ⟨by rfl, ?_⟩) ?_ ?_
                    rotate_left; focus (intro w'; go_simp; with_reducible rfl; done)
                    rotate_left; focus (simp only [Act.put, List.setIfInBounds_toArray, List.set_cons_zero, List.set_cons_succ, i64_w, i32_w, u8_w, u32_w]; rfl; done)
                    refine pure_ (i := 39) (N := some 101) (v := ?_) (a' := ?_) #[true, true, true, true, true, true, true, true, true, true, true, true, true, true, true, true, true, true, true, true, true, true, true, true, true, true, true, true, true, true, true, true, true, true, true, true, true, true, true, true, false, false, false, false] rfl rfl (any_of HT_.out (by kernel_rfl)) (fun _ _ _ h => h) (Or.inl ⟨by rfl, ?_⟩) ?_ ?_
                    rotate_left; focus (intro w'; go_simp; with_reducible rfl; done)
                    rotate_left; focus (simp only [Act.put, List.setIfInBounds_toArray, List.set_cons_zero, List.set_cons_succ, i64_w, i32_w, u8_w, u32_w]; rfl; done)
                    refine pure_ (i := 40) (N := some 102) (v := ?_) (a' := ?_) #[true, true, true, true, true, true, true, true, true, true, true, true, true, true, true, true, true, true, true, true, true, true, true, true, true, true, true, true, true, true, true, true, true, true, true, true, true, true, true, true, true, false, false, false] rfl rfl (any_of HT_.out (by kernel_rfl)) (fun _ _ _ h => h) (Or.inl ⟨by rfl, ?_⟩) ?_ ?_
                    rotate_left; focus (intro w'; go_simp; with_reducible rfl; done)
                    rotate_left; focus (simp only [Act.put, List.setIfInBounds_toArray, List.set_cons_zero, List.set_cons_succ, i64_w, i32_w, u8_w, u32_w]; rfl; done)
                    refine pure_ (i := 41) (N := some 103) (v := ?_) (a' := ?_) #[true, true, true, true, true, true, true, true, true, true, true, true, true, true, true, true, true, true, true, true, true, true, true, true, true, true, true, true, true, true, true, true, true, true, true, true, true, true, true, true, true, true, false, false] rfl rfl (any_of HT_.out (by kernel_rfl)) (fun _ _ _ h => h) (Or.inl ⟨by rfl, ?_⟩) ?_ ?_
                    rotate_left; focus (intro w'; go_simp; with_reducible rfl; done)
                    rotate_left; focus (simp only [Act.put, List.setIfInBounds_toArray, List.set_cons_zero, List.set_cons_succ, i64_w, i32_w, u8_w, u32_w]; rfl; done)
                    refine pure_ (i := 42) (N := some 104) (v := ?_) (a' := ?_) #[true, true, true, true, true, true, true, true, true, true, true, true, true, true, true, true, true, true, true, true, true, true, true, true, true, true, true, true, true, true, true, true, true, true, true, true, true, true, true, true, true, true, true, false] rfl rfl (any_of HT_.out (by kernel_rfl)) (fun _ _ _ h => h) (Or.inl ⟨by rfl, ?_⟩) ?_ ?_
                    rotate_left; focus (intro w'; go_simp; with_reducible rfl; done)
                    rotate_left; focus (simp only [Act.put, List.setIfInBounds_toArray, List.set_cons_zero, List.set_cons_succ, i64_w, i32_w, u8_w, u32_w]; rfl; done)
                    refine pure_ (i := 43) (N := some 2) (v := ?_) (a' := ?_) #[true, true, true, true, true, true, true, true, true, true, true, true, true, true, true, true, true, true, true, true, true, true, true, true, true, true, true, true, true, true, true, true, true, true, true, true, true, true, true, true, true, true, true, true] rfl rfl (any_of HT_.out (by kernel_rfl)) (fun _ _ _ h => h) (Or.inl ⟨by rfl, ?_⟩) ?_ ?_
                    rotate_left; focus (intro w'; go_simp; with_reducible rfl; done)
                    rotate_left; focus (simp only [Act.put, List.setIfInBounds_toArray, List.set_cons_zero, List.set_cons_succ, i64_w, i32_w, u8_w, u32_w]; rfl; done)
                    refine done_ (done_of HT_.out (by kernel_rfl)) ?_
                    try go_wp2
                    go_ret
                    exact ⟨by first | rfl | (simp [errW_none, errW_some] <;> rfl) | (simp only [← hji4, ← hji37]; first | rfl | (simp [errW_none, errW_some] <;> rfl)) | (simp [*, errW_none, errW_some] <;> rfl), by repeat (first | (with_reducible first | exact HB.out | apply below_alloc | apply pw_below_drewN | apply below_drew1) | exact HB.out)⟩
                   ·
                    rw [if_neg c43] at H
                    have c43b0 : (t249 == t251) = false := beq_eq_false_iff_ne.mpr c43
                    have c43b1 : (t249 != t251) = true := bne_iff_ne.mpr c43
                    exact absurd H (by simp)
                  ·
                   rw [if_neg c42] at H
                   have c42b0 : (t246 == t248) = false := beq_eq_false_iff_ne.mpr c42
                   have c42b1 : (t246 != t248) = true := bne_iff_ne.mpr c42
                   exact absurd H (by simp)
                 ·
                  rw [if_neg c41] at H
                  have c41b0 : (t245.toList == t247.toList) = false := beq_eq_false_iff_ne.mpr c41
                  have c41b1 : (t245.toList != t247.toList) = true := bne_iff_ne.mpr c41
                  exact absurd H (by simp)
                ·
                 rw [if_neg c40] at H
                 have c40b0 : (((rd_T25 y240 (ji37)).f0) == 0 && (((rd_T25 y240 (ji37)).f1) == 0 && ((((rd_T25 y240 (ji37)).f2).toList) == ([] : List UInt8)))) = false := by simpa using c40
                 (try (have c40b1 : (((rd_T25 y240 (ji37)).f0) == 0 && (((rd_T25 y240 (ji37)).f1) == 0 && ((((rd_T25 y240 (ji37)).f2).toList).isEmpty))) = false := by simpa using c40))
                 (try (have c40b2 : decide (((rd_T25 y240 (ji37)).f0) = 0 && (((rd_T25 y240 (ji37)).f1) == 0 && ((((rd_T25 y240 (ji37)).f2).toList) == ([] : List UInt8)))) = false := by simpa using c40))
                 (try (have c40b3 : (((rd_T25 y240 (ji37)).f0) == 0 && (((rd_T25 y240 (ji37)).f1) == 0 && ((((rd_T25 y240 (ji37)).f2).toList) == ([] : List UInt8)))) = false := by simpa using c40))
                 (try (have c40b4 : ¬ (((rd_T25 y240 (ji37)).f0) = 0 && (((rd_T25 y240 (ji37)).f1) == 0 && ((((rd_T25 y240 (ji37)).f2).toList) == ([] : List UInt8)))) := by simpa using c40))
                 clear c40
                 exact absurd H (by simp)
               ·
                rw [if_neg c39] at H
                exact absurd H (by simp)
              ·
               rw [if_neg c38] at H
               exact absurd H (by simp)
             ·
              rw [if_neg c36] at H
              have c36b0 : (((rd_T25 y240 (l0.length : Int)).f0) == 1 && (((rd_T25 y240 (l0.length : Int)).f1) == 77 && ((((rd_T25 y240 (l0.length : Int)).f2).toList) == ([] : List UInt8)))) = false := by simpa using c36
              (try (have c36b1 : (((rd_T25 y240 (l0.length : Int)).f0) == 1 && (((rd_T25 y240 (l0.length : Int)).f1) == 77 && ((((rd_T25 y240 (l0.length : Int)).f2).toList).isEmpty))) = false := by simpa using c36))
              (try (have c36b2 : decide (((rd_T25 y240 (l0.length : Int)).f0) = 1 && (((rd_T25 y240 (l0.length : Int)).f1) == 77 && ((((rd_T25 y240 (l0.length : Int)).f2).toList) == ([] : List UInt8)))) = false := by simpa using c36))
              (try (have c36b3 : (((rd_T25 y240 (l0.length : Int)).f0) == 1 && (((rd_T25 y240 (l0.length : Int)).f1) == 77 && ((((rd_T25 y240 (l0.length : Int)).f2).toList) == ([] : List UInt8)))) = false := by simpa using c36))
              (try (have c36b4 : ¬ (((rd_T25 y240 (l0.length : Int)).f0) = 1 && (((rd_T25 y240 (l0.length : Int)).f1) == 77 && ((((rd_T25 y240 (l0.length : Int)).f2).toList) == ([] : List UInt8)))) := by simpa using c36))
              clear c36
              exact absurd H (by simp)
            ·
             rw [if_neg c34] at H
             exact absurd H (by simp)
           ·
            rw [if_neg c33] at H
            exact absurd H (by simp)
          ·
           replace c32 := Bool.eq_false_iff.mpr c32
           subst c32
           have H1 : (none) = some r := by rw [if_neg (show ¬ (false = true) by decide)] at H; exact H
           clear H
           have H := H1
           clear H1
           exact absurd H (by simp)
         ·
          replace c31 := Bool.eq_false_iff.mpr c31
          subst c31
          have H1 : (none) = some r := by rw [if_neg (show ¬ (false = true) by decide)] at H; exact H
          clear H
          have H := H1
          clear H1
          exact absurd H (by simp)
      ·
       rw [if_neg c12] at H
       exact absurd H (by simp)
     ·
      rw [if_neg c9] at H
      exact absurd H (by simp)
    ·
     rw [if_neg c8] at H
     exact absurd H (by simp)
   ·
    rw [if_neg c6] at H
    exact absurd H (by simp)
  ·
   rw [if_neg c5] at H
   exact absurd H (by simp)

end Go.Proofs.Ytlgobbofiingnaa.PA
