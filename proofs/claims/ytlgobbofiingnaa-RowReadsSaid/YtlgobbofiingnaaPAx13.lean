-- Laid by a program of ours (wip/gen/xprint.py). Not trusted: Lean checks it.
import Derived.Test.YtlgobbofiingnaaPAx0
import Derived.Test.YtlgobbofiingnaaPAx9
import Derived.Test.YtlgobbofiingnaaPAx12
namespace Go.Proofs.Ytlgobbofiingnaa.PA
open Go.RowKit Go.Proofs.YtlgobbofiingnaaW.PrintWords Go.Proofs.YtlgobbofiingnaaW.PrintLast Go.Proofs.YtlgobbofiingnaaW.PrintMore Go.Proofs.YtlgobbofiingnaaX
attribute [local go_sem] max2_int min2_int max_two min_two max_three min_three max_four min_four   -- for this text's walks alone
set_option linter.unusedVariables false
set_option linter.unusedSimpArgs false

/-! ### unisonref03_Decode: function 14 -/
mutual
def unisonref03_Decode.j0 : Nat → ByteArray → Bool → Option ((List (S25)) × Int)
 | 0, _, _ => none
 | k + 1, x0, x33 => if x33 = true then (some (([] : List (S25)), 30)) else (if 0 < (x0.size : Int) then (if 0 ≤ (wrap64 (1 + (wrap64 (Int.tdiv (wrap64 ((wrap64 (bt x0 0)) + 3)) 4)))) then (if (wrap64 (1 + (wrap64 (Int.tdiv (wrap64 ((wrap64 (bt x0 0)) + 3)) 4)))) ≤ (x0.size : Int) then (unisonref03_Decode.l0 k x0 (wrap64 (bt x0 0)) (x0.extract ((wrap64 (1 + (wrap64 (Int.tdiv (wrap64 ((wrap64 (bt x0 0)) + 3)) 4)))) : Int).toNat x0.size) ([] : List (S25)) 0) else (none)) else (none)) else (none))
def unisonref03_Decode.l0 : Nat → ByteArray → Int → ByteArray → List (S25) → Int → Option ((List (S25)) × Int)
 | 0, _, _, _, _, _ => none
 | k + 1, x0, x4, x5, x6, x7 => if x7 < x4 then (if 0 ≤ (wrap64 (1 + (wrap64 (Int.tdiv x7 4)))) then (if (wrap64 (1 + (wrap64 (Int.tdiv x7 4)))) < (x0.size : Int) then (if 0 ≤ (wrap64 (2 * (Int.tmod x7 4))) then (if (Int.tmod (wrap64 (shr .u8 (bt x0 (wrap64 (1 + (wrap64 (Int.tdiv x7 4))))) (wrap64 (2 * (Int.tmod x7 4))))) 4) = 1 then ((unisonref03_ReadNumber.f k x5).bind fun bt262 => (if 0 ≤ bt262.2 then (if bt262.2 ≤ (x5.size : Int) then (if x6.length < 4398046511104 then (unisonref03_Decode.l0 k x0 x4 (x5.extract (bt262.2 : Int).toNat x5.size) (x6 ++ [(⟨Int.tmod (wrap64 (shr .u8 (bt x0 (wrap64 (1 + (wrap64 (Int.tdiv x7 4))))) (wrap64 (2 * (Int.tmod x7 4))))) 4, bt262.1, (⟨#[]⟩ : ByteArray)⟩ : S25)]) (wrap64 (x7 + 1))) else (none)) else (none)) else (none))) else (if (Int.tmod (wrap64 (shr .u8 (bt x0 (wrap64 (1 + (wrap64 (Int.tdiv x7 4))))) (wrap64 (2 * (Int.tmod x7 4))))) 4) = 2 then (if (x5.size : Int) > 0 then (if 0 < (x5.size : Int) then (if 1 ≤ (x5.size : Int) then (if x6.length < 4398046511104 then (unisonref03_Decode.l0 k x0 x4 (x5.extract 1 x5.size) (x6 ++ [(⟨Int.tmod (wrap64 (shr .u8 (bt x0 (wrap64 (1 + (wrap64 (Int.tdiv x7 4))))) (wrap64 (2 * (Int.tmod x7 4))))) 4, wrap64 (bt x5 0), (⟨#[]⟩ : ByteArray)⟩ : S25)]) (wrap64 (x7 + 1))) else (none)) else (none)) else (none)) else (if 0 ≤ (x5.size : Int) then (if x6.length < 4398046511104 then (unisonref03_Decode.l0 k x0 x4 (x5.extract 0 x5.size) (x6 ++ [(⟨Int.tmod (wrap64 (shr .u8 (bt x0 (wrap64 (1 + (wrap64 (Int.tdiv x7 4))))) (wrap64 (2 * (Int.tmod x7 4))))) 4, 0, (⟨#[]⟩ : ByteArray)⟩ : S25)]) (wrap64 (x7 + 1))) else (none)) else (none))) else (if (Int.tmod (wrap64 (shr .u8 (bt x0 (wrap64 (1 + (wrap64 (Int.tdiv x7 4))))) (wrap64 (2 * (Int.tmod x7 4))))) 4) = 3 then (if (x5.size : Int) > 0 then (if 0 < (x5.size : Int) then (unisonref03_Decode.j2 k x0 x4 x5 x6 x7 (wrap64 (1 + (wrap64 (bt x5 0)))) (Int.tmod (wrap64 (shr .u8 (bt x0 (wrap64 (1 + (wrap64 (Int.tdiv x7 4))))) (wrap64 (2 * (Int.tmod x7 4))))) 4) 0 (⟨#[]⟩ : ByteArray)) else (none)) else (unisonref03_Decode.j2 k x0 x4 x5 x6 x7 0 (Int.tmod (wrap64 (shr .u8 (bt x0 (wrap64 (1 + (wrap64 (Int.tdiv x7 4))))) (wrap64 (2 * (Int.tmod x7 4))))) 4) 0 (⟨#[]⟩ : ByteArray))) else (if 0 ≤ (x5.size : Int) then (if x6.length < 4398046511104 then (unisonref03_Decode.l0 k x0 x4 (x5.extract 0 x5.size) (x6 ++ [(⟨Int.tmod (wrap64 (shr .u8 (bt x0 (wrap64 (1 + (wrap64 (Int.tdiv x7 4))))) (wrap64 (2 * (Int.tmod x7 4))))) 4, 0, (⟨#[]⟩ : ByteArray)⟩ : S25)]) (wrap64 (x7 + 1))) else (none)) else (none))))) else (none)) else (none)) else (none)) else ((unisonref03_Encode.f k x6).bind fun bt259 => (if bt259.2 = 0 then (if bt259.1.toList = x0.toList then (some (x6, 0)) else (some (([] : List (S25)), 30))) else (some (([] : List (S25)), 30))))
def unisonref03_Decode.j2 : Nat → ByteArray → Int → ByteArray → List (S25) → Int → Int → Int → Int → ByteArray → Option ((List (S25)) × Int)
 | 0, _, _, _, _, _, _, _, _, _ => none
 | k + 1, x0, x4, x5, x6, x7, x9, x262000, x262001, x262002 => if x9 > (x5.size : Int) then (if (x5.size : Int) > 0 then (if 1 ≤ (x5.size : Int) then (if (x5.size : Int) ≤ (x5.size : Int) then (if 0 ≤ (x5.size : Int) then (if x6.length < 4398046511104 then (unisonref03_Decode.l0 k x0 x4 (x5.extract ((x5.size : Int) : Int).toNat x5.size) (x6 ++ [(⟨x262000, x262001, x5.extract 1 ((x5.size : Int) : Int).toNat⟩ : S25)]) (wrap64 (x7 + 1))) else (none)) else (none)) else (none)) else (none)) else (if 0 ≤ (x5.size : Int) then (if (x5.size : Int) ≤ (x5.size : Int) then (if x6.length < 4398046511104 then (unisonref03_Decode.l0 k x0 x4 (x5.extract ((x5.size : Int) : Int).toNat x5.size) (x6 ++ [(⟨x262000, x262001, x262002⟩ : S25)]) (wrap64 (x7 + 1))) else (none)) else (none)) else (none))) else (if x9 > 0 then (if 1 ≤ x9 then (if x9 ≤ (x5.size : Int) then (if 0 ≤ x9 then (if x6.length < 4398046511104 then (unisonref03_Decode.l0 k x0 x4 (x5.extract (x9 : Int).toNat x5.size) (x6 ++ [(⟨x262000, x262001, x5.extract 1 (x9 : Int).toNat⟩ : S25)]) (wrap64 (x7 + 1))) else (none)) else (none)) else (none)) else (none)) else (if 0 ≤ x9 then (if x9 ≤ (x5.size : Int) then (if x6.length < 4398046511104 then (unisonref03_Decode.l0 k x0 x4 (x5.extract (x9 : Int).toNat x5.size) (x6 ++ [(⟨x262000, x262001, x262002⟩ : S25)]) (wrap64 (x7 + 1))) else (none)) else (none)) else (none)))
end
def unisonref03_Decode.f (k : Nat) (a0 : ByteArray) : Option ((List (S25)) × Int) := if (a0.size : Int) = 0 then (unisonref03_Decode.j0 k a0 true) else (if 0 < (a0.size : Int) then (if (wrap64 (bt a0 0)) > 16 then (unisonref03_Decode.j0 k a0 true) else (unisonref03_Decode.j0 k a0 (decide ((a0.size : Int) < (wrap64 (1 + (wrap64 (Int.tdiv (wrap64 ((wrap64 (bt a0 0)) + 3)) 4)))))))) else (none))
theorem unisonref03_Decode.mono_l : ∀ k, (∀ y0 y1, LeO (unisonref03_Decode.j0 k y0 y1) (unisonref03_Decode.j0 (k + 1) y0 y1)) ∧ (∀ y0 y1 y2 y3 y4, LeO (unisonref03_Decode.l0 k y0 y1 y2 y3 y4) (unisonref03_Decode.l0 (k + 1) y0 y1 y2 y3 y4)) ∧ (∀ y0 y1 y2 y3 y4 y5 y6 y7 y8, LeO (unisonref03_Decode.j2 k y0 y1 y2 y3 y4 y5 y6 y7 y8) (unisonref03_Decode.j2 (k + 1) y0 y1 y2 y3 y4 y5 y6 y7 y8))
 | 0 => ⟨fun _ _ r h => by simp [unisonref03_Decode.j0] at h, fun _ _ _ _ _ r h => by simp [unisonref03_Decode.l0] at h, fun _ _ _ _ _ _ _ _ _ r h => by simp [unisonref03_Decode.j2] at h⟩
 | k + 1 => by
  obtain ⟨ih0, ih1, ih2⟩ := unisonref03_Decode.mono_l k
  refine ⟨?_, ?_, ?_⟩
  ·
   intro y0 y1
   unfold unisonref03_Decode.j0
   repeat' first
   | (with_reducible exact ih0 _ _)
   | (with_reducible exact ih1 _ _ _ _ _)
   | (with_reducible exact ih2 _ _ _ _ _ _ _ _ _)
   | (with_reducible exact unisonref03_Encode.mono _ _)
   | (with_reducible exact unisonref03_ReadNumber.mono _ _)
   | (with_reducible exact LeO.refl _)
   | (with_reducible exact LeO.none _)
   | (with_reducible refine LeO.ite ?_ ?_)
   | (with_reducible refine LeO.bind ?_ (fun _ => ?_))
   | exact ih0 _ _
   | exact ih1 _ _ _ _ _
   | exact ih2 _ _ _ _ _ _ _ _ _
   | exact unisonref03_Encode.mono _ _
   | exact unisonref03_ReadNumber.mono _ _
   | exact LeO.none _
   | refine LeO.ite ?_ ?_
   | refine LeO.bind ?_ (fun _ => ?_)
  ·
   intro y0 y1 y2 y3 y4
   unfold unisonref03_Decode.l0
   repeat' first
   | (with_reducible exact ih0 _ _)
   | (with_reducible exact ih1 _ _ _ _ _)
   | (with_reducible exact ih2 _ _ _ _ _ _ _ _ _)
   | (with_reducible exact unisonref03_Encode.mono _ _)
   | (with_reducible exact unisonref03_ReadNumber.mono _ _)
   | (with_reducible exact LeO.refl _)
   | (with_reducible exact LeO.none _)
   | (with_reducible refine LeO.ite ?_ ?_)
   | (with_reducible refine LeO.bind ?_ (fun _ => ?_))
   | exact ih0 _ _
   | exact ih1 _ _ _ _ _
   | exact ih2 _ _ _ _ _ _ _ _ _
   | exact unisonref03_Encode.mono _ _
   | exact unisonref03_ReadNumber.mono _ _
   | exact LeO.none _
   | refine LeO.ite ?_ ?_
   | refine LeO.bind ?_ (fun _ => ?_)
  ·
   intro y0 y1 y2 y3 y4 y5 y6 y7 y8
   unfold unisonref03_Decode.j2
   repeat' first
   | (with_reducible exact ih0 _ _)
   | (with_reducible exact ih1 _ _ _ _ _)
   | (with_reducible exact ih2 _ _ _ _ _ _ _ _ _)
   | (with_reducible exact unisonref03_Encode.mono _ _)
   | (with_reducible exact unisonref03_ReadNumber.mono _ _)
   | (with_reducible exact LeO.refl _)
   | (with_reducible exact LeO.none _)
   | (with_reducible refine LeO.ite ?_ ?_)
   | (with_reducible refine LeO.bind ?_ (fun _ => ?_))
   | exact ih0 _ _
   | exact ih1 _ _ _ _ _
   | exact ih2 _ _ _ _ _ _ _ _ _
   | exact unisonref03_Encode.mono _ _
   | exact unisonref03_ReadNumber.mono _ _
   | exact LeO.none _
   | refine LeO.ite ?_ ?_
   | refine LeO.bind ?_ (fun _ => ?_)
theorem unisonref03_Decode.mono : ∀ a0 k, LeO (unisonref03_Decode.f k a0) (unisonref03_Decode.f (k + 1) a0) := by
 intro a0 k
 obtain ⟨ih0, ih1, ih2⟩ := unisonref03_Decode.mono_l k
 unfold unisonref03_Decode.f
 repeat' first
   | (with_reducible exact ih0 _ _)
   | (with_reducible exact ih1 _ _ _ _ _)
   | (with_reducible exact ih2 _ _ _ _ _ _ _ _ _)
   | (with_reducible exact unisonref03_Encode.mono _ _)
   | (with_reducible exact unisonref03_ReadNumber.mono _ _)
   | (with_reducible exact LeO.refl _)
   | (with_reducible exact LeO.none _)
   | (with_reducible refine LeO.ite ?_ ?_)
   | (with_reducible refine LeO.bind ?_ (fun _ => ?_))
   | exact ih0 _ _
   | exact ih1 _ _ _ _ _
   | exact ih2 _ _ _ _ _ _ _ _ _
   | exact unisonref03_Encode.mono _ _
   | exact unisonref03_ReadNumber.mono _ _
   | exact LeO.none _
   | refine LeO.ite ?_ ?_
   | refine LeO.bind ?_ (fun _ => ?_)
set_option maxHeartbeats 8000000 in
set_option maxRecDepth 100000 in
theorem unisonref03_Decode.calls (k : Nat) (a0 : ByteArray) (r1 : List (S25)) (r2 : Int) (w : World) (h : unisonref03_Decode.f k a0 = some (r1, r2)) :
  Calls Try.prog 14 #[.string a0] w fun e w' => ∃ v0_ : Value, e = .returned (.tuple #[v0_, .int .i64 r2]) ∧ Kd.R k25 25 w' w.heap.size (fun _ => True) v0_ r1 ∧ Below w.heap.size w w' := by
 have hu25 := Try.underlying25
 have HB := Aside0.mk (Below.refl w.heap.size w)
 have H : (if (a0.size : Int) = 0 then (unisonref03_Decode.j0 k a0 true) else (if 0 < (a0.size : Int) then (if (wrap64 (bt a0 0)) > 16 then (unisonref03_Decode.j0 k a0 true) else (unisonref03_Decode.j0 k a0 (decide ((a0.size : Int) < (wrap64 (1 + (wrap64 (Int.tdiv (wrap64 ((wrap64 (bt a0 0)) + 3)) 4)))))))) else (none))) = some (r1, r2) := h
 clear h
 have HC2 := Aside0.mk H
 clear H
 go_enter Try.func14, Try.ntmps14
 go_upto_region 1 with (fail)
 go_cut [33] (fun v33 wc => ∃ (kq : Nat) (x33_1 : Bool), v33 = .bool x33_1 ∧ Aside0 (unisonref03_Decode.j0 kq a0 x33_1 = some (r1, r2)) ∧ Aside0 (kq ≤ k) ∧ Aside0 (Below w.heap.size w wc))
 case first =>
  have H := HC2.out
  clear HC2
  by_cases c3 : (a0.size : Int) = 0
  ·
   rw [if_pos c3] at H
   have c3b0 : ((a0.size : Int) == 0) = true := beq_iff_eq.mpr c3
   have c3b1 : ((a0.size : Int) != 0) = false := bne_eq_false_iff_eq.mpr c3
   clear c3
   (first | rw [c3b0] | (simp only [i64_w, i32_w, u8_w, u32_w]; rw [c3b0]) | rw [c3b1] | skip)
   have H' := Aside0.mk H
   clear H
   go_wp2
   go_meet
   case rel => exact ⟨_, (true), (by first | rfl | (simp; done) | (simp [*]; done)), H', ⟨by first | omega | exact Nat.le_refl _⟩, ⟨by repeat (first | (with_reducible first | exact HB.out | apply below_alloc | apply pw_below_drewN | apply below_drew1) | exact HB.out)⟩⟩
  ·
   rw [if_neg c3] at H
   have c3b0 : ((a0.size : Int) == 0) = false := beq_eq_false_iff_ne.mpr c3
   have c3b1 : ((a0.size : Int) != 0) = true := bne_iff_ne.mpr c3
   (first | rw [c3b0] | (simp only [i64_w, i32_w, u8_w, u32_w]; rw [c3b0]) | rw [c3b1] | skip)
   by_cases c4 : 0 < (a0.size : Int)
   ·
    rw [if_pos c4] at H
    have c4b0 : decide (0 < (a0.size : Int)) = true := decide_eq_true c4
    have c4b1 : decide (0 < a0.size) = true := decide_eq_true (by omega)
    clear c4
    by_cases c6 : (wrap64 (bt a0 0)) > 16
    ·
     rw [if_pos c6] at H
     have c6b0 : decide (16 < (wrap64 (bt a0 0))) = true := decide_eq_true c6
     clear c6
     have H' := Aside0.mk H
     clear H
     have p5 : 0 ≤ (0 : Int) := (by omega)
     have q5 : 0 < a0.size := (by have : (0 : Int) < (a0.size : Int) := of_decide_eq_true (by first | (with_reducible assumption) | assumption); omega)
     have hx5 : ∀ h : 0 < a0.size, ((a0[0]'h).toNat : Int) = bt a0 0 := bt_at a0 0
     clear p5
     have qi5 : (0 < (a0.size : Int)) = True := eq_true (of_decide_eq_true (by first | (with_reducible assumption) | assumption))
     replace q5 := eq_true q5
     go_wp2
     go_meet
     case rel => exact ⟨_, (true), (by first | rfl | (simp; done) | (simp [*]; done)), H', ⟨by first | omega | exact Nat.le_refl _⟩, ⟨by repeat (first | (with_reducible first | exact HB.out | apply below_alloc | apply pw_below_drewN | apply below_drew1) | exact HB.out)⟩⟩
    ·
     rw [if_neg c6] at H
     have c6b0 : decide (16 < (wrap64 (bt a0 0))) = false := decide_eq_false c6
     clear c6
     have H' := Aside0.mk H
     clear H
     have p5 : 0 ≤ (0 : Int) := (by omega)
     have q5 : 0 < a0.size := (by have : (0 : Int) < (a0.size : Int) := of_decide_eq_true (by first | (with_reducible assumption) | assumption); omega)
     have hx5 : ∀ h : 0 < a0.size, ((a0[0]'h).toNat : Int) = bt a0 0 := bt_at a0 0
     clear p5
     have qi5 : (0 < (a0.size : Int)) = True := eq_true (of_decide_eq_true (by first | (with_reducible assumption) | assumption))
     replace q5 := eq_true q5
     have p7 : 0 ≤ (0 : Int) := (by omega)
     have q7 : 0 < a0.size := (by have : (0 : Int) < (a0.size : Int) := of_decide_eq_true (by first | (with_reducible assumption) | assumption); omega)
     have hx7 : ∀ h : 0 < a0.size, ((a0[0]'h).toNat : Int) = bt a0 0 := bt_at a0 0
     clear p7
     have qi7 : (0 < (a0.size : Int)) = True := eq_true (of_decide_eq_true (by first | (with_reducible assumption) | assumption))
     replace q7 := eq_true q7
     go_wp2
     go_meet
     case rel => exact ⟨_, (decide ((a0.size : Int) < (wrap64 (1 + (wrap64 (Int.tdiv (wrap64 ((wrap64 (bt a0 0)) + 3)) 4)))))), (by first | rfl | (simp; done) | (simp [*]; done)), H', ⟨by first | omega | exact Nat.le_refl _⟩, ⟨by repeat (first | (with_reducible first | exact HB.out | apply below_alloc | apply pw_below_drewN | apply below_drew1) | exact HB.out)⟩⟩
   ·
    rw [if_neg c4] at H
    exact absurd H (by simp)
 case rest =>
  clear HC2
  try clear c1
  try clear p2
  try clear c3
  try clear c3b0
  try clear c3b1
  try clear c4
  try clear c4b0
  try clear c4b1
  try clear p5
  try clear q5
  try clear hx5
  try clear qi5
  try clear c6
  try clear c6b0
  try clear p6
  try clear p7
  try clear q7
  try clear hx7
  try clear qi7
  try clear p5
  try clear p7
  try clear q5
  try clear q7
  obtain ⟨kq, x33_1, rfl, HA, HJ1, HB⟩ := hcut
  cases kq with
  | zero => exact absurd HA.out (by simp [unisonref03_Decode.j0])
  | succ kj1 =>
   have H := HA.out
   clear HA
   simp only [unisonref03_Decode.j0] at H
   by_cases c8 : x33_1 = true
   ·
    subst c8
    have H1 : (some (([] : List (S25)), 30)) = some (r1, r2) := by rw [if_pos rfl] at H; exact H
    clear H
    have H := H1
    clear H1
    simp only [Option.some.injEq, Prod.mk.injEq] at H
    obtain ⟨rfl, rfl⟩ := H
    go_wp2
    go_ret2
    exact ⟨_, by first | rfl | (simp [errW_none, errW_some] <;> rfl) | (simp [*, errW_none, errW_some] <;> rfl), by first | exact Kd.R_nil _ _ _ _ _ | exact Kd.N_nil _ _ _ _ _ | exact Kd.V_nil _ _ _ _ _ | exact Kd.Q_nil _ _ _ _ _ | exact Kd.S_nil _ _ _ _ _, by repeat (first | (with_reducible first | exact HB.out | apply below_alloc | apply pw_below_drewN | apply below_drew1) | exact HB.out)⟩
   ·
    replace c8 := Bool.eq_false_iff.mpr c8
    subst c8
    have H1 : (if 0 < (a0.size : Int) then (if 0 ≤ (wrap64 (1 + (wrap64 (Int.tdiv (wrap64 ((wrap64 (bt a0 0)) + 3)) 4)))) then (if (wrap64 (1 + (wrap64 (Int.tdiv (wrap64 ((wrap64 (bt a0 0)) + 3)) 4)))) ≤ (a0.size : Int) then (unisonref03_Decode.l0 kj1 a0 (wrap64 (bt a0 0)) (a0.extract ((wrap64 (1 + (wrap64 (Int.tdiv (wrap64 ((wrap64 (bt a0 0)) + 3)) 4)))) : Int).toNat a0.size) ([] : List (S25)) 0) else (none)) else (none)) else (none)) = some (r1, r2) := by rw [if_neg (show ¬ (false = true) by decide)] at H; exact H
    clear H
    have H := H1
    clear H1
    by_cases c9 : 0 < (a0.size : Int)
    ·
     rw [if_pos c9] at H
     have c9b0 : decide (0 < (a0.size : Int)) = true := decide_eq_true c9
     have c9b1 : decide (0 < a0.size) = true := decide_eq_true (by omega)
     clear c9
     obtain ⟨ji11, hji11⟩ : ∃ j_ : Int, (wrap64 (1 + (wrap64 (Int.tdiv (wrap64 ((wrap64 (bt a0 0)) + 3)) 4)))) = j_ := ⟨_, rfl⟩
     replace H : (if 0 ≤ (ji11) then (if (ji11) ≤ (a0.size : Int) then (unisonref03_Decode.l0 kj1 a0 (wrap64 (bt a0 0)) (a0.extract ((ji11) : Int).toNat a0.size) ([] : List (S25)) 0) else (none)) else (none)) = some (r1, r2) := by first | (rw [hji11] at H; exact H) | (simp only [hji11] at H ⊢; exact H)
     have hji11w : (IntKind.i64.wrap (1 + (wrap64 (Int.tdiv (wrap64 ((wrap64 (bt a0 0)) + 3)) 4)))) = ji11 := (i64_w _).trans hji11
     by_cases c12 : 0 ≤ (ji11)
     ·
      rw [if_pos c12] at H
      have c12b0 := eq_true c12
      have c12b1 : decide (0 ≤ (ji11)) = true := decide_eq_true c12
      clear c12
      by_cases c13 : (ji11) ≤ (a0.size : Int)
      ·
       rw [if_pos c13] at H
       have c13b0 := eq_true c13
       have c13b1 : decide ((ji11) ≤ (a0.size : Int)) = true := decide_eq_true c13
       clear c13
       have H' := Aside0.mk H
       clear H
       have p10 : 0 ≤ (0 : Int) := (by omega)
       have q10 : 0 < a0.size := (by have : (0 : Int) < (a0.size : Int) := of_decide_eq_true (by first | (with_reducible assumption) | assumption); omega)
       have hx10 : ∀ h : 0 < a0.size, ((a0[0]'h).toNat : Int) = bt a0 0 := bt_at a0 0
       clear p10
       have qi10 : (0 < (a0.size : Int)) = True := eq_true (of_decide_eq_true (by first | (with_reducible assumption) | assumption))
       replace q10 := eq_true q10
       go_wp2
       go_loopg [5, 6, 7] kj1 (fun kq v5 v6 v7 w' => ∃ (x5_2 : ByteArray) (x6_2 : List (S25)) (x7_2 : Int), v5 = .string x5_2 ∧ v7 = .int .i64 x7_2 ∧ Aside0 (unisonref03_Decode.l0 kq a0 (wrap64 (bt a0 0)) x5_2 x6_2 x7_2 = some (r1, r2)) ∧ Aside0 (kq ≤ kj1) ∧ Aside0 (Kd.R k25 25 w' w.heap.size (fun _ => True) v6 x6_2) ∧ Aside0 (Below w.heap.size w w'))
       case atStart => exact ⟨(a0.extract ((ji11) : Int).toNat a0.size), (([] : List (S25))), (0), (by first | rfl | (simp; done) | (simp only [← hji11] <;> (first | rfl | simp)) | (simp [*]; done)), (by first | rfl | (simp; done) | (simp [*]; done)), H', ⟨Nat.le_refl _⟩, ⟨by first | exact Kd.R_nil _ _ _ _ _ | exact Kd.N_nil _ _ _ _ _ | exact Kd.V_nil _ _ _ _ _ | exact Kd.Q_nil _ _ _ _ _ | exact Kd.S_nil _ _ _ _ _⟩, ⟨by repeat (first | (with_reducible first | exact HB.out | apply below_alloc | apply pw_below_drewN | apply below_drew1) | exact HB.out)⟩⟩
       case round =>
        clear H'
        try clear c1
        try clear p1
        try clear q1
        try clear hx1
        try clear qi1
        try clear p2
        try clear c3
        try clear c3b0
        try clear c3b1
        try clear c4
        try clear c4b0
        try clear c4b1
        try clear p5
        try clear q5
        try clear hx5
        try clear qi5
        try clear c6
        try clear c6b0
        try clear p6
        try clear p7
        try clear q7
        try clear hx7
        try clear qi7
        try clear c8
        try clear c9
        try clear c9b0
        try clear c9b1
        try clear p10
        try clear q10
        try clear hx10
        try clear qi10
        try clear c12
        try clear c12b0
        try clear c12b1
        try clear c13
        try clear c13b0
        try clear c13b1
        try clear p10
        try clear p2
        try clear p5
        try clear p6
        try clear p7
        try clear q10
        try clear q5
        try clear q7
        obtain ⟨x5_2, x6_2, x7_2, rfl, rfl, HA, HK2, HO_6, HB⟩ := hrel
        cases gk with
        | zero => exact absurd HA.out (by simp [unisonref03_Decode.l0])
        | succ k2 =>
         have H := HA.out
         clear HA
         simp only [unisonref03_Decode.l0] at H
         by_cases c14 : x7_2 < (wrap64 (bt a0 0))
         ·
          rw [if_pos c14] at H
          have c14b0 : decide (x7_2 < (wrap64 (bt a0 0))) = true := decide_eq_true c14
          clear c14
          obtain ⟨ji15, hji15⟩ : ∃ j_ : Int, (wrap64 (1 + (wrap64 (Int.tdiv x7_2 4)))) = j_ := ⟨_, rfl⟩
          replace H : (if 0 ≤ (ji15) then (if (ji15) < (a0.size : Int) then (if 0 ≤ (wrap64 (2 * (Int.tmod x7_2 4))) then (if (Int.tmod (wrap64 (shr .u8 (bt a0 (ji15)) (wrap64 (2 * (Int.tmod x7_2 4))))) 4) = 1 then ((unisonref03_ReadNumber.f k2 x5_2).bind fun bt262 => (if 0 ≤ bt262.2 then (if bt262.2 ≤ (x5_2.size : Int) then (if x6_2.length < 4398046511104 then (unisonref03_Decode.l0 k2 a0 (wrap64 (bt a0 0)) (x5_2.extract (bt262.2 : Int).toNat x5_2.size) (x6_2 ++ [(⟨Int.tmod (wrap64 (shr .u8 (bt a0 (ji15)) (wrap64 (2 * (Int.tmod x7_2 4))))) 4, bt262.1, (⟨#[]⟩ : ByteArray)⟩ : S25)]) (wrap64 (x7_2 + 1))) else (none)) else (none)) else (none))) else (if (Int.tmod (wrap64 (shr .u8 (bt a0 (ji15)) (wrap64 (2 * (Int.tmod x7_2 4))))) 4) = 2 then (if (x5_2.size : Int) > 0 then (if 0 < (x5_2.size : Int) then (if 1 ≤ (x5_2.size : Int) then (if x6_2.length < 4398046511104 then (unisonref03_Decode.l0 k2 a0 (wrap64 (bt a0 0)) (x5_2.extract 1 x5_2.size) (x6_2 ++ [(⟨Int.tmod (wrap64 (shr .u8 (bt a0 (ji15)) (wrap64 (2 * (Int.tmod x7_2 4))))) 4, wrap64 (bt x5_2 0), (⟨#[]⟩ : ByteArray)⟩ : S25)]) (wrap64 (x7_2 + 1))) else (none)) else (none)) else (none)) else (if 0 ≤ (x5_2.size : Int) then (if x6_2.length < 4398046511104 then (unisonref03_Decode.l0 k2 a0 (wrap64 (bt a0 0)) (x5_2.extract 0 x5_2.size) (x6_2 ++ [(⟨Int.tmod (wrap64 (shr .u8 (bt a0 (ji15)) (wrap64 (2 * (Int.tmod x7_2 4))))) 4, 0, (⟨#[]⟩ : ByteArray)⟩ : S25)]) (wrap64 (x7_2 + 1))) else (none)) else (none))) else (if (Int.tmod (wrap64 (shr .u8 (bt a0 (ji15)) (wrap64 (2 * (Int.tmod x7_2 4))))) 4) = 3 then (if (x5_2.size : Int) > 0 then (if 0 < (x5_2.size : Int) then (unisonref03_Decode.j2 k2 a0 (wrap64 (bt a0 0)) x5_2 x6_2 x7_2 (wrap64 (1 + (wrap64 (bt x5_2 0)))) (Int.tmod (wrap64 (shr .u8 (bt a0 (ji15)) (wrap64 (2 * (Int.tmod x7_2 4))))) 4) 0 (⟨#[]⟩ : ByteArray)) else (none)) else (unisonref03_Decode.j2 k2 a0 (wrap64 (bt a0 0)) x5_2 x6_2 x7_2 0 (Int.tmod (wrap64 (shr .u8 (bt a0 (ji15)) (wrap64 (2 * (Int.tmod x7_2 4))))) 4) 0 (⟨#[]⟩ : ByteArray))) else (if 0 ≤ (x5_2.size : Int) then (if x6_2.length < 4398046511104 then (unisonref03_Decode.l0 k2 a0 (wrap64 (bt a0 0)) (x5_2.extract 0 x5_2.size) (x6_2 ++ [(⟨Int.tmod (wrap64 (shr .u8 (bt a0 (ji15)) (wrap64 (2 * (Int.tmod x7_2 4))))) 4, 0, (⟨#[]⟩ : ByteArray)⟩ : S25)]) (wrap64 (x7_2 + 1))) else (none)) else (none))))) else (none)) else (none)) else (none)) = some (r1, r2) := by first | (rw [hji15] at H; exact H) | (simp only [hji15] at H ⊢; exact H)
          have hji15w : (IntKind.i64.wrap (1 + (wrap64 (Int.tdiv x7_2 4)))) = ji15 := (i64_w _).trans hji15
          by_cases c16 : 0 ≤ (ji15)
          ·
           rw [if_pos c16] at H
           have c16b0 : decide (0 ≤ (ji15)) = true := decide_eq_true c16
           clear c16
           by_cases c17 : (ji15) < (a0.size : Int)
           ·
            rw [if_pos c17] at H
            have c17b0 : decide ((ji15) < (a0.size : Int)) = true := decide_eq_true c17
            clear c17
            obtain ⟨ji19, hji19⟩ : ∃ j_ : Int, (wrap64 (2 * (Int.tmod x7_2 4))) = j_ := ⟨_, rfl⟩
            replace H : (if 0 ≤ (ji19) then (if (Int.tmod (wrap64 (shr .u8 (bt a0 (ji15)) (ji19))) 4) = 1 then ((unisonref03_ReadNumber.f k2 x5_2).bind fun bt262 => (if 0 ≤ bt262.2 then (if bt262.2 ≤ (x5_2.size : Int) then (if x6_2.length < 4398046511104 then (unisonref03_Decode.l0 k2 a0 (wrap64 (bt a0 0)) (x5_2.extract (bt262.2 : Int).toNat x5_2.size) (x6_2 ++ [(⟨Int.tmod (wrap64 (shr .u8 (bt a0 (ji15)) (ji19))) 4, bt262.1, (⟨#[]⟩ : ByteArray)⟩ : S25)]) (wrap64 (x7_2 + 1))) else (none)) else (none)) else (none))) else (if (Int.tmod (wrap64 (shr .u8 (bt a0 (ji15)) (ji19))) 4) = 2 then (if (x5_2.size : Int) > 0 then (if 0 < (x5_2.size : Int) then (if 1 ≤ (x5_2.size : Int) then (if x6_2.length < 4398046511104 then (unisonref03_Decode.l0 k2 a0 (wrap64 (bt a0 0)) (x5_2.extract 1 x5_2.size) (x6_2 ++ [(⟨Int.tmod (wrap64 (shr .u8 (bt a0 (ji15)) (ji19))) 4, wrap64 (bt x5_2 0), (⟨#[]⟩ : ByteArray)⟩ : S25)]) (wrap64 (x7_2 + 1))) else (none)) else (none)) else (none)) else (if 0 ≤ (x5_2.size : Int) then (if x6_2.length < 4398046511104 then (unisonref03_Decode.l0 k2 a0 (wrap64 (bt a0 0)) (x5_2.extract 0 x5_2.size) (x6_2 ++ [(⟨Int.tmod (wrap64 (shr .u8 (bt a0 (ji15)) (ji19))) 4, 0, (⟨#[]⟩ : ByteArray)⟩ : S25)]) (wrap64 (x7_2 + 1))) else (none)) else (none))) else (if (Int.tmod (wrap64 (shr .u8 (bt a0 (ji15)) (ji19))) 4) = 3 then (if (x5_2.size : Int) > 0 then (if 0 < (x5_2.size : Int) then (unisonref03_Decode.j2 k2 a0 (wrap64 (bt a0 0)) x5_2 x6_2 x7_2 (wrap64 (1 + (wrap64 (bt x5_2 0)))) (Int.tmod (wrap64 (shr .u8 (bt a0 (ji15)) (ji19))) 4) 0 (⟨#[]⟩ : ByteArray)) else (none)) else (unisonref03_Decode.j2 k2 a0 (wrap64 (bt a0 0)) x5_2 x6_2 x7_2 0 (Int.tmod (wrap64 (shr .u8 (bt a0 (ji15)) (ji19))) 4) 0 (⟨#[]⟩ : ByteArray))) else (if 0 ≤ (x5_2.size : Int) then (if x6_2.length < 4398046511104 then (unisonref03_Decode.l0 k2 a0 (wrap64 (bt a0 0)) (x5_2.extract 0 x5_2.size) (x6_2 ++ [(⟨Int.tmod (wrap64 (shr .u8 (bt a0 (ji15)) (ji19))) 4, 0, (⟨#[]⟩ : ByteArray)⟩ : S25)]) (wrap64 (x7_2 + 1))) else (none)) else (none))))) else (none)) = some (r1, r2) := by first | (rw [hji19] at H; exact H) | (simp only [hji19] at H ⊢; exact H)
            have hji19w : (IntKind.i64.wrap (2 * (Int.tmod x7_2 4))) = ji19 := (i64_w _).trans hji19
            by_cases c20 : 0 ≤ (ji19)
            ·
             rw [if_pos c20] at H
             have c20b0 := eq_true c20
             have c20b1 : decide (0 ≤ (ji19)) = true := decide_eq_true c20
             clear c20
             obtain ⟨ji21, hji21⟩ : ∃ j_ : Int, (shr .u8 (bt a0 (ji15)) (ji19)) = j_ := ⟨_, rfl⟩
             replace H : (if (Int.tmod (wrap64 (ji21)) 4) = 1 then ((unisonref03_ReadNumber.f k2 x5_2).bind fun bt262 => (if 0 ≤ bt262.2 then (if bt262.2 ≤ (x5_2.size : Int) then (if x6_2.length < 4398046511104 then (unisonref03_Decode.l0 k2 a0 (wrap64 (bt a0 0)) (x5_2.extract (bt262.2 : Int).toNat x5_2.size) (x6_2 ++ [(⟨Int.tmod (wrap64 (ji21)) 4, bt262.1, (⟨#[]⟩ : ByteArray)⟩ : S25)]) (wrap64 (x7_2 + 1))) else (none)) else (none)) else (none))) else (if (Int.tmod (wrap64 (ji21)) 4) = 2 then (if (x5_2.size : Int) > 0 then (if 0 < (x5_2.size : Int) then (if 1 ≤ (x5_2.size : Int) then (if x6_2.length < 4398046511104 then (unisonref03_Decode.l0 k2 a0 (wrap64 (bt a0 0)) (x5_2.extract 1 x5_2.size) (x6_2 ++ [(⟨Int.tmod (wrap64 (ji21)) 4, wrap64 (bt x5_2 0), (⟨#[]⟩ : ByteArray)⟩ : S25)]) (wrap64 (x7_2 + 1))) else (none)) else (none)) else (none)) else (if 0 ≤ (x5_2.size : Int) then (if x6_2.length < 4398046511104 then (unisonref03_Decode.l0 k2 a0 (wrap64 (bt a0 0)) (x5_2.extract 0 x5_2.size) (x6_2 ++ [(⟨Int.tmod (wrap64 (ji21)) 4, 0, (⟨#[]⟩ : ByteArray)⟩ : S25)]) (wrap64 (x7_2 + 1))) else (none)) else (none))) else (if (Int.tmod (wrap64 (ji21)) 4) = 3 then (if (x5_2.size : Int) > 0 then (if 0 < (x5_2.size : Int) then (unisonref03_Decode.j2 k2 a0 (wrap64 (bt a0 0)) x5_2 x6_2 x7_2 (wrap64 (1 + (wrap64 (bt x5_2 0)))) (Int.tmod (wrap64 (ji21)) 4) 0 (⟨#[]⟩ : ByteArray)) else (none)) else (unisonref03_Decode.j2 k2 a0 (wrap64 (bt a0 0)) x5_2 x6_2 x7_2 0 (Int.tmod (wrap64 (ji21)) 4) 0 (⟨#[]⟩ : ByteArray))) else (if 0 ≤ (x5_2.size : Int) then (if x6_2.length < 4398046511104 then (unisonref03_Decode.l0 k2 a0 (wrap64 (bt a0 0)) (x5_2.extract 0 x5_2.size) (x6_2 ++ [(⟨Int.tmod (wrap64 (ji21)) 4, 0, (⟨#[]⟩ : ByteArray)⟩ : S25)]) (wrap64 (x7_2 + 1))) else (none)) else (none))))) = some (r1, r2) := by first | (rw [hji21] at H; exact H) | (simp only [hji21] at H ⊢; exact H)
             have hji21_ : ((bt a0 (ji15)) / 2 ^ min (ji19).toNat 8) = ji21 := hji21
             have hji21z : (ji19) ≤ 8 → ((bt a0 (ji15)) / 2 ^ (ji19).toNat) = ji21 := shr_small hji21
             (try have hji21y := hji21z (by (try simp only [decide_eq_true_eq, decide_eq_false_iff_not] at *); omega))
             by_cases c22 : (Int.tmod (wrap64 (ji21)) 4) = 1
             ·
              rw [if_pos c22] at H
              have c22b0 : ((Int.tmod (wrap64 (ji21)) 4) == 1) = true := beq_iff_eq.mpr c22
              have c22b1 : ((Int.tmod (wrap64 (ji21)) 4) != 1) = false := bne_eq_false_iff_eq.mpr c22
              clear c22
              replace H := Option.bind_eq_some_iff.mp H
              obtain ⟨⟨t262, t263⟩, A230, H⟩ := H
              replace H : (if 0 ≤ t263 then (if t263 ≤ (x5_2.size : Int) then (if x6_2.length < 4398046511104 then (unisonref03_Decode.l0 k2 a0 (wrap64 (bt a0 0)) (x5_2.extract (t263 : Int).toNat x5_2.size) (x6_2 ++ [(⟨Int.tmod (wrap64 (ji21)) 4, t262, (⟨#[]⟩ : ByteArray)⟩ : S25)]) (wrap64 (x7_2 + 1))) else (none)) else (none)) else (none)) = some (r1, r2) := H
              have A23 := Aside0.mk A230
              clear A230
              by_cases c24 : 0 ≤ t263
              ·
               rw [if_pos c24] at H
               have c24b0 := eq_true c24
               have c24b1 : decide (0 ≤ t263) = true := decide_eq_true c24
               clear c24
               by_cases c25 : t263 ≤ (x5_2.size : Int)
               ·
                rw [if_pos c25] at H
                have c25b0 := eq_true c25
                have c25b1 : decide (t263 ≤ (x5_2.size : Int)) = true := decide_eq_true c25
                clear c25
                by_cases c26 : x6_2.length < 4398046511104
                ·
                 rw [if_pos c26] at H
                 have LMc26 := Aside0.mk c26
                 clear c26
                 obtain ⟨y264, hy264⟩ : ∃ y_ : List (S25), y_ = (x6_2 ++ [(⟨Int.tmod (wrap64 (ji21)) 4, t262, (⟨#[]⟩ : ByteArray)⟩ : S25)]) := ⟨_, rfl⟩
                 replace H : (unisonref03_Decode.l0 k2 a0 (wrap64 (bt a0 0)) (x5_2.extract (t263 : Int).toNat x5_2.size) y264 (wrap64 (x7_2 + 1))) = some (r1, r2) := by first | (rw [hy264]; with_reducible exact H) | (have H2_ := (Option.bind_some _ _).symm.trans H; rw [hy264]; with_reducible exact H2_) | (have H2_ := (Option.bind_some _ _).symm.trans H; with_reducible exact H2_) | with_reducible exact H | (rw [hy264]; exact H) | exact H
                 have Ny264 := Aside0.mk hy264
                 clear hy264
                 have H' := Aside0.mk H
                 clear H
                 have p18 : 0 ≤ ((ji15) : Int) := of_decide_eq_true (by first | (with_reducible assumption) | assumption)
                 have q18 : (ji15) < (a0.size : Int) := of_decide_eq_true (by first | (with_reducible assumption) | assumption)
                 have hx18 := bt_at a0 (ji15)
                 replace p18 := eq_true p18
                 replace q18 := eq_true q18
                 go_wp2_with (first | ((with_reducible refine gate_dst (N := 8) rfl ?_); (try (refine gate_guard (by rfl) ?_; dsimp only)); refine box_event ?hg (N := 8) ?hd (cs := #[.int .i64 0, .int .i64 0, .string (⟨#[]⟩ : ByteArray)]) (t := 25) ?hr ?_; (case hd => rfl); (case hg => rfl); (case hr => first | (go_simp; done) | (go_simp; rfl)); intro gb261 hg w27 hbox hb; have n0_ := Aside0.mk (Kd.R_below (Kd.R_elderB (by (with_reducible repeat (first | apply Kd.R_alloc | apply Kd.R_drewN | apply Kd.R_drew)); exact HO_6.out) gb261 (Nat.le_of_eq hg.symm)) hb); have n1_ := Aside0.mk (below_step (by repeat (first | (with_reducible first | exact HB.out | apply below_alloc | apply pw_below_drewN | apply below_drew1) | exact HB.out)) hb); have n2_ := Aside0.mk (hbox); have n3_ := Aside0.mk ((by rw [hg]; exact (below_size (by repeat (first | (with_reducible first | exact HB.out | apply below_alloc | apply pw_below_drewN | apply below_drew1) | exact HB.out))) : w.heap.size ≤ gb261)); have n4_ := Aside0.mk ((by rw [hg]; exact (below_size (by repeat (first | (with_reducible first | exact HB.out | apply below_alloc | apply pw_below_drewN | apply below_drew1) | exact HB.out))) : w.heap.size ≤ gb261)); clear HO_6; clear HB; have HO_6 := n0_; have HB := n1_; have BK261 := n2_; have GW261 := n3_; have GE261 := n4_; clear n0_ n1_ n2_ n3_ n4_; clear hb hbox hg; have hcz28_0 : w27.cell? ⟨gb261, 0, none⟩ = some (.int .i64 0) := (blk_cell BK261.out 0).trans rfl; have hcz28_1 : w27.cell? ⟨gb261, 1, none⟩ = some (.int .i64 0) := (blk_cell BK261.out 1).trans rfl; have hcz28_2 : w27.cell? ⟨gb261, 2, none⟩ = some (.string (⟨#[]⟩ : ByteArray)) := (blk_cell BK261.out 2).trans rfl; have hfz28_0 := blk_frozen BK261.out 0; have hfz28_1 := blk_frozen BK261.out 1; have hfz28_2 := blk_frozen BK261.out 2) | ((with_reducible refine gate_store (t := 25) (p := 8) rfl ?_); refine store_event (t := 25) (p := 8) (v := ?vo_w29) (w1 := (((w27.setCell ⟨gb261, 0, none⟩ (.int .i64 (Int.tmod (wrap64 (ji21)) 4))).setCell ⟨gb261, 1, none⟩ (.int .i64 0)).setCell ⟨gb261, 2, none⟩ (.string (⟨#[]⟩ : ByteArray)))) ?hg ?ho ?hn ?hr ?_; (case ho => rfl); (case hg => rfl); (case hn => rfl); (case hr => first | (go_simp; done) | (go_simp; rfl)); intro w29 hw; have n0_ : Aside0 (Kd.R k25 25 w29 w.heap.size (fun k_ => k_ ≠ gb261) u6 x6_2) := ⟨(by rw [hw]; exact (by (with_reducible repeat (first | apply Kd.R_alloc | apply Kd.R_drewN | apply Kd.R_drew)); exact Kd.R_mono (Kd.R_far (p := ⟨gb261, 2, none⟩) (Kd.R_far (p := ⟨gb261, 1, none⟩) (Kd.R_far (p := ⟨gb261, 0, none⟩) (Kd.R_mono HO_6.out (fun k_ hk => (⟨hk, hk.2⟩ : _ ∧ k_ ≠ gb261))) (fun _ hk => hk.2) (.int .i64 (Int.tmod (wrap64 (ji21)) 4))) (fun _ hk => hk.2) (.int .i64 0)) (fun _ hk => hk.2) (.string (⟨#[]⟩ : ByteArray))) (fun _ hk => hk.1.2)))⟩; have n1_ : Aside0 (w29.heap[gb261]? = some (.cells #[.int .i64 (Int.tmod (wrap64 (ji21)) 4), .int .i64 0, .string (⟨#[]⟩ : ByteArray)] 25 (0, 0))) := ⟨(by rw [hw]; exact (by (with_reducible repeat (first | refine blk_drewN ?_ _ | refine blk_drew ?_ | refine blk_alloc ?_ _)); refine blk_put (cs := #[.int .i64 (Int.tmod (wrap64 (ji21)) 4), .int .i64 0, .string (⟨#[]⟩ : ByteArray)]) ?_ 2 _ rfl; (with_reducible repeat (first | refine blk_drewN ?_ _ | refine blk_drew ?_ | refine blk_alloc ?_ _)); refine blk_put (cs := #[.int .i64 (Int.tmod (wrap64 (ji21)) 4), .int .i64 0, .string (⟨#[]⟩ : ByteArray)]) ?_ 1 _ rfl; (with_reducible repeat (first | refine blk_drewN ?_ _ | refine blk_drew ?_ | refine blk_alloc ?_ _)); refine blk_put (cs := #[.int .i64 0, .int .i64 0, .string (⟨#[]⟩ : ByteArray)]) ?_ 0 _ rfl; (with_reducible repeat (first | refine blk_drewN ?_ _ | refine blk_drew ?_ | refine blk_alloc ?_ _)); exact BK261.out))⟩; have n2_ : Aside0 (Below w.heap.size w w29) := ⟨(by rw [hw]; exact (by repeat (first | (with_reducible first | exact HB.out | apply below_alloc | apply pw_below_drewN | apply below_drew1 | refine below_set ?_ GE261.out) | exact HB.out)))⟩; clear hw; clear HO_6; clear BK261; clear HB; have HO_6 := n0_; have BK261 := n1_; have HB := n2_; clear n0_ n1_ n2_; have hcz30_0 : w29.cell? ⟨gb261, 0, none⟩ = some (.int .i64 (Int.tmod (wrap64 (ji21)) 4)) := (blk_cell BK261.out 0).trans rfl; have hcz30_1 : w29.cell? ⟨gb261, 1, none⟩ = some (.int .i64 0) := (blk_cell BK261.out 1).trans rfl; have hcz30_2 : w29.cell? ⟨gb261, 2, none⟩ = some (.string (⟨#[]⟩ : ByteArray)) := (blk_cell BK261.out 2).trans rfl; have hfz30_0 := blk_frozen BK261.out 0; have hfz30_1 := blk_frozen BK261.out 1; have hfz30_2 := blk_frozen BK261.out 2) | ((with_reducible refine gate_callee (f := 22) rfl ?_); refine goesL_ (some 66) rfl rfl Try.func22 (by kernel_rfl) rfl #[.string x5_2] rfl (by (try simp only [List.map_toArray, List.map_cons, List.map_nil]); first | done | rfl | (simp only [List.length_drop, List.length_take]; rfl)) ?_; (with_reducible refine (unisonref03_ReadNumber.calls k2 x5_2 t262 t263 _ A23.out).mono ?_); rintro e w' ⟨rfl, ⟨nd, rfl⟩⟩; refine ⟨_, rfl, ?_⟩; (try (rw [drewN_self w29]; generalize hq_ : World.drewN w29 _ = w29; have n0_ : Aside0 (Kd.R k25 25 w29 w.heap.size (fun k_ => k_ ≠ gb261) u6 x6_2) := ⟨by rw [← hq_]; exact (by (with_reducible repeat (first | apply Kd.R_alloc | apply Kd.R_drewN | apply Kd.R_drew)); exact HO_6.out)⟩; have n1_ : Aside0 (w29.heap[gb261]? = some (.cells #[.int .i64 (Int.tmod (wrap64 (ji21)) 4), .int .i64 0, .string (⟨#[]⟩ : ByteArray)] 25 (0, 0))) := ⟨by rw [← hq_]; exact (by (with_reducible repeat (first | refine blk_drewN ?_ _ | refine blk_drew ?_ | refine blk_alloc ?_ _)); exact BK261.out)⟩; have n2_ : Aside0 (Below w.heap.size w w29) := ⟨by rw [← hq_]; exact (by repeat (first | (with_reducible first | exact HB.out | apply below_alloc | apply pw_below_drewN | apply below_drew1 | refine below_set ?_ GE261.out) | exact HB.out))⟩; clear HO_6 BK261 HB hq_; have HO_6 := n0_; have BK261 := n1_; have HB := n2_; clear n0_ n1_ n2_)); (try (have hcz30_0 : w29.cell? ⟨gb261, 0, none⟩ = some (.int .i64 (Int.tmod (wrap64 (ji21)) 4)) := (blk_cell BK261.out 0).trans rfl; have hcz30_1 : w29.cell? ⟨gb261, 1, none⟩ = some (.int .i64 0) := (blk_cell BK261.out 1).trans rfl; have hcz30_2 : w29.cell? ⟨gb261, 2, none⟩ = some (.string (⟨#[]⟩ : ByteArray)) := (blk_cell BK261.out 2).trans rfl; have hfz30_0 := blk_frozen BK261.out 0; have hfz30_1 := blk_frozen BK261.out 1; have hfz30_2 := blk_frozen BK261.out 2))) | ((with_reducible refine gate_builtin (b := .append) (xs := #[.tmp 105, .tmp 107]) rfl ?_); (try (refine gate_guard (by rfl) ?_; dsimp only)); at_builtin; refine Kd.R_append k25 (w0 := w) w.heap.size rfl (.tmp 105) (.tmp 107) 22 25 (.agg #[(.int .i64 0), (.int .i64 0), (.string ⟨#[]⟩)]) 32 rfl Try.underlying22 info25 rfl (by decide) (by omega) u6 x6_2 (⟨Int.tmod (wrap64 (ji21)) 4, t262, (⟨#[]⟩ : ByteArray)⟩ : S25) [.int .i64 (Int.tmod (wrap64 (ji21)) 4), .int .i64 t262, .string (⟨#[]⟩ : ByteArray)] (fun k_ => k_ ≠ gb261) (fun _ => False) rfl (by first | (go_simp; done) | (go_simp; rfl)) ?aP (fun _ hk => hk.elim) ?aF ?aO ?aB ?aS ?aL ?_; (case aP => exact k25_mkM _ _ _ (⟨Int.tmod (wrap64 (ji21)) 4, t262, (⟨#[]⟩ : ByteArray)⟩ : S25)); (case aB => exact (by repeat (first | (with_reducible first | exact HB.out | apply below_alloc | apply pw_below_drewN | apply below_drew1 | refine below_set ?_ GE261.out) | exact HB.out))); (case aF => exact (fun k_ hk => Kd.freshB (g := gb261) (o := .cells #[.int .i64 (Int.tmod (wrap64 (ji21)) 4), .int .i64 t262, .string (⟨#[]⟩ : ByteArray)] 25 (0, 0)) (by (with_reducible repeat (first | refine blk_drewN ?_ _ | refine blk_drew ?_ | refine blk_alloc ?_ _)); refine blk_put (cs := #[.int .i64 (Int.tmod (wrap64 (ji21)) 4), .int .i64 0, .string (⟨#[]⟩ : ByteArray)]) ?_ 1 _ rfl; (with_reducible repeat (first | refine blk_drewN ?_ _ | refine blk_drew ?_ | refine blk_alloc ?_ _)); exact BK261.out) k_ hk)); (case aO => exact (by (with_reducible repeat (first | apply Kd.R_alloc | apply Kd.R_drewN | apply Kd.R_drew)); exact Kd.R_mono (Kd.R_far (p := ⟨gb261, 1, none⟩) (Kd.R_mono HO_6.out (fun k_ hk => (⟨hk, hk⟩ : _ ∧ k_ ≠ gb261))) (fun _ hk => hk.2) (.int .i64 t262)) (fun _ hk => hk.1))); (case aS => exact (below_size (by repeat (first | (with_reducible first | exact HB.out | apply below_alloc | apply pw_below_drewN | apply below_drew1 | refine below_set ?_ GE261.out) | exact HB.out)))); (case aL => have := LMc26.out; omega); intro v265 w31 ho hb hg hat; rw [← Ny264.out] at ho; have n0_ := Aside0.mk (blk_grown (g := gb261) (o := .cells #[.int .i64 (Int.tmod (wrap64 (ji21)) 4), .int .i64 t262, .string (⟨#[]⟩ : ByteArray)] 25 (0, 0)) (by (with_reducible repeat (first | refine blk_drewN ?_ _ | refine blk_drew ?_ | refine blk_alloc ?_ _)); refine blk_put (cs := #[.int .i64 (Int.tmod (wrap64 (ji21)) 4), .int .i64 0, .string (⟨#[]⟩ : ByteArray)]) ?_ 1 _ rfl; (with_reducible repeat (first | refine blk_drewN ?_ _ | refine blk_drew ?_ | refine blk_alloc ?_ _)); exact BK261.out) hg (Kd.R_away HO_6.out (fun _ hk => hk))); have n1_ := Aside0.mk (hb); have n2_ := Aside0.mk (ho); clear BK261; clear HB; clear HO_6; have BK261 := n0_; have HB := n1_; have HO266 := n2_; clear n0_ n1_ n2_; clear ho hb hg hat))
                 go_roundg k2
                 case measure => have := HJ1.out; have := HK2.out; omega
                 case rel => exact ⟨(x5_2.extract (t263 : Int).toNat x5_2.size), (y264), (wrap64 (x7_2 + 1)), (by first | rfl | (simp; done) | (simp [*]; done)), (by first | rfl | (simp; done) | (simp [*]; done)), H', ⟨by have := HJ1.out; have := HK2.out; omega⟩, ⟨by (with_reducible repeat (first | apply Kd.R_alloc | apply Kd.R_drewN | apply Kd.R_drew)); exact Kd.R_mono HO266.out (fun _ hk => trivial)⟩, ⟨by repeat (first | (with_reducible first | exact HB.out | apply below_alloc | apply pw_below_drewN | apply below_drew1 | refine below_set ?_ GE261.out) | exact HB.out)⟩⟩
                ·
                 rw [if_neg c26] at H
                 exact absurd H (by simp)
               ·
                rw [if_neg c25] at H
                exact absurd H (by simp)
              ·
               rw [if_neg c24] at H
               exact absurd H (by simp)
             ·
              rw [if_neg c22] at H
              have c22b0 : ((Int.tmod (wrap64 (ji21)) 4) == 1) = false := beq_eq_false_iff_ne.mpr c22
              have c22b1 : ((Int.tmod (wrap64 (ji21)) 4) != 1) = true := bne_iff_ne.mpr c22
              by_cases c32 : (Int.tmod (wrap64 (ji21)) 4) = 2
              ·
               rw [if_pos c32] at H
               have c32b0 : ((Int.tmod (wrap64 (ji21)) 4) == 2) = true := beq_iff_eq.mpr c32
               have c32b1 : ((Int.tmod (wrap64 (ji21)) 4) != 2) = false := bne_eq_false_iff_eq.mpr c32
               clear c32
               by_cases c33 : (x5_2.size : Int) > 0
               ·
                rw [if_pos c33] at H
                have c33b0 : decide (0 < (x5_2.size : Int)) = true := decide_eq_true c33
                have c33b1 : decide (0 < x5_2.size) = true := decide_eq_true (by omega)
                clear c33
                by_cases c34 : 0 < (x5_2.size : Int)
                ·
                 rw [if_pos c34] at H
                 have c34b0 : decide (0 < (x5_2.size : Int)) = true := decide_eq_true c34
                 have c34b1 : decide (0 < x5_2.size) = true := decide_eq_true (by omega)
                 clear c34
                 by_cases c36 : 1 ≤ (x5_2.size : Int)
                 ·
                  rw [if_pos c36] at H
                  have c36b0 := eq_true c36
                  have c36b1 : decide (1 ≤ (x5_2.size : Int)) = true := decide_eq_true c36
                  clear c36
                  by_cases c37 : x6_2.length < 4398046511104
                  ·
                   rw [if_pos c37] at H
                   have LMc37 := Aside0.mk c37
                   clear c37
                   obtain ⟨y267, hy267⟩ : ∃ y_ : List (S25), y_ = (x6_2 ++ [(⟨Int.tmod (wrap64 (ji21)) 4, wrap64 (bt x5_2 0), (⟨#[]⟩ : ByteArray)⟩ : S25)]) := ⟨_, rfl⟩
                   replace H : (unisonref03_Decode.l0 k2 a0 (wrap64 (bt a0 0)) (x5_2.extract 1 x5_2.size) y267 (wrap64 (x7_2 + 1))) = some (r1, r2) := by first | (rw [hy267]; with_reducible exact H) | (have H2_ := (Option.bind_some _ _).symm.trans H; rw [hy267]; with_reducible exact H2_) | (have H2_ := (Option.bind_some _ _).symm.trans H; with_reducible exact H2_) | with_reducible exact H | (rw [hy267]; exact H) | exact H
                   have Ny267 := Aside0.mk hy267
                   clear hy267
                   have H' := Aside0.mk H
                   clear H
                   have p18 : 0 ≤ ((ji15) : Int) := of_decide_eq_true (by first | (with_reducible assumption) | assumption)
                   have q18 : (ji15) < (a0.size : Int) := of_decide_eq_true (by first | (with_reducible assumption) | assumption)
                   have hx18 := bt_at a0 (ji15)
                   replace p18 := eq_true p18
                   replace q18 := eq_true q18
                   go_wp2_with (first | ((with_reducible refine gate_dst (N := 8) rfl ?_); (try (refine gate_guard (by rfl) ?_; dsimp only)); refine box_event ?hg (N := 8) ?hd (cs := #[.int .i64 0, .int .i64 0, .string (⟨#[]⟩ : ByteArray)]) (t := 25) ?hr ?_; (case hd => rfl); (case hg => rfl); (case hr => first | (go_simp; done) | (go_simp; rfl)); intro gb261 hg w38 hbox hb; have n0_ := Aside0.mk (Kd.R_below (Kd.R_elderB (by (with_reducible repeat (first | apply Kd.R_alloc | apply Kd.R_drewN | apply Kd.R_drew)); exact HO_6.out) gb261 (Nat.le_of_eq hg.symm)) hb); have n1_ := Aside0.mk (below_step (by repeat (first | (with_reducible first | exact HB.out | apply below_alloc | apply pw_below_drewN | apply below_drew1) | exact HB.out)) hb); have n2_ := Aside0.mk (hbox); have n3_ := Aside0.mk ((by rw [hg]; exact (below_size (by repeat (first | (with_reducible first | exact HB.out | apply below_alloc | apply pw_below_drewN | apply below_drew1) | exact HB.out))) : w.heap.size ≤ gb261)); have n4_ := Aside0.mk ((by rw [hg]; exact (below_size (by repeat (first | (with_reducible first | exact HB.out | apply below_alloc | apply pw_below_drewN | apply below_drew1) | exact HB.out))) : w.heap.size ≤ gb261)); clear HO_6; clear HB; have HO_6 := n0_; have HB := n1_; have BK261 := n2_; have GW261 := n3_; have GE261 := n4_; clear n0_ n1_ n2_ n3_ n4_; clear hb hbox hg; have hcz39_0 : w38.cell? ⟨gb261, 0, none⟩ = some (.int .i64 0) := (blk_cell BK261.out 0).trans rfl; have hcz39_1 : w38.cell? ⟨gb261, 1, none⟩ = some (.int .i64 0) := (blk_cell BK261.out 1).trans rfl; have hcz39_2 : w38.cell? ⟨gb261, 2, none⟩ = some (.string (⟨#[]⟩ : ByteArray)) := (blk_cell BK261.out 2).trans rfl; have hfz39_0 := blk_frozen BK261.out 0; have hfz39_1 := blk_frozen BK261.out 1; have hfz39_2 := blk_frozen BK261.out 2) | ((with_reducible refine gate_store (t := 25) (p := 8) rfl ?_); refine store_event (t := 25) (p := 8) (v := ?vo_w40) (w1 := (((w38.setCell ⟨gb261, 0, none⟩ (.int .i64 (Int.tmod (wrap64 (ji21)) 4))).setCell ⟨gb261, 1, none⟩ (.int .i64 0)).setCell ⟨gb261, 2, none⟩ (.string (⟨#[]⟩ : ByteArray)))) ?hg ?ho ?hn ?hr ?_; (case ho => rfl); (case hg => rfl); (case hn => rfl); (case hr => first | (go_simp; done) | (go_simp; rfl)); intro w40 hw; have n0_ : Aside0 (Kd.R k25 25 w40 w.heap.size (fun k_ => k_ ≠ gb261) u6 x6_2) := ⟨(by rw [hw]; exact (by (with_reducible repeat (first | apply Kd.R_alloc | apply Kd.R_drewN | apply Kd.R_drew)); exact Kd.R_mono (Kd.R_far (p := ⟨gb261, 2, none⟩) (Kd.R_far (p := ⟨gb261, 1, none⟩) (Kd.R_far (p := ⟨gb261, 0, none⟩) (Kd.R_mono HO_6.out (fun k_ hk => (⟨hk, hk.2⟩ : _ ∧ k_ ≠ gb261))) (fun _ hk => hk.2) (.int .i64 (Int.tmod (wrap64 (ji21)) 4))) (fun _ hk => hk.2) (.int .i64 0)) (fun _ hk => hk.2) (.string (⟨#[]⟩ : ByteArray))) (fun _ hk => hk.1.2)))⟩; have n1_ : Aside0 (w40.heap[gb261]? = some (.cells #[.int .i64 (Int.tmod (wrap64 (ji21)) 4), .int .i64 0, .string (⟨#[]⟩ : ByteArray)] 25 (0, 0))) := ⟨(by rw [hw]; exact (by (with_reducible repeat (first | refine blk_drewN ?_ _ | refine blk_drew ?_ | refine blk_alloc ?_ _)); refine blk_put (cs := #[.int .i64 (Int.tmod (wrap64 (ji21)) 4), .int .i64 0, .string (⟨#[]⟩ : ByteArray)]) ?_ 2 _ rfl; (with_reducible repeat (first | refine blk_drewN ?_ _ | refine blk_drew ?_ | refine blk_alloc ?_ _)); refine blk_put (cs := #[.int .i64 (Int.tmod (wrap64 (ji21)) 4), .int .i64 0, .string (⟨#[]⟩ : ByteArray)]) ?_ 1 _ rfl; (with_reducible repeat (first | refine blk_drewN ?_ _ | refine blk_drew ?_ | refine blk_alloc ?_ _)); refine blk_put (cs := #[.int .i64 0, .int .i64 0, .string (⟨#[]⟩ : ByteArray)]) ?_ 0 _ rfl; (with_reducible repeat (first | refine blk_drewN ?_ _ | refine blk_drew ?_ | refine blk_alloc ?_ _)); exact BK261.out))⟩; have n2_ : Aside0 (Below w.heap.size w w40) := ⟨(by rw [hw]; exact (by repeat (first | (with_reducible first | exact HB.out | apply below_alloc | apply pw_below_drewN | apply below_drew1 | refine below_set ?_ GE261.out) | exact HB.out)))⟩; clear hw; clear HO_6; clear BK261; clear HB; have HO_6 := n0_; have BK261 := n1_; have HB := n2_; clear n0_ n1_ n2_; have hcz41_0 : w40.cell? ⟨gb261, 0, none⟩ = some (.int .i64 (Int.tmod (wrap64 (ji21)) 4)) := (blk_cell BK261.out 0).trans rfl; have hcz41_1 : w40.cell? ⟨gb261, 1, none⟩ = some (.int .i64 0) := (blk_cell BK261.out 1).trans rfl; have hcz41_2 : w40.cell? ⟨gb261, 2, none⟩ = some (.string (⟨#[]⟩ : ByteArray)) := (blk_cell BK261.out 2).trans rfl; have hfz41_0 := blk_frozen BK261.out 0; have hfz41_1 := blk_frozen BK261.out 1; have hfz41_2 := blk_frozen BK261.out 2; have p35 : 0 ≤ (0 : Int) := (by omega); have q35 : 0 < x5_2.size := (by have : (0 : Int) < (x5_2.size : Int) := of_decide_eq_true (by first | (with_reducible assumption) | assumption); omega); have hx35 : ∀ h : 0 < x5_2.size, ((x5_2[0]'h).toNat : Int) = bt x5_2 0 := bt_at x5_2 0; clear p35; have qi35 : (0 < (x5_2.size : Int)) = True := eq_true (of_decide_eq_true (by first | (with_reducible assumption) | assumption)); replace q35 := eq_true q35) | ((with_reducible refine gate_builtin (b := .append) (xs := #[.tmp 105, .tmp 107]) rfl ?_); (try (refine gate_guard (by rfl) ?_; dsimp only)); at_builtin; refine Kd.R_append k25 (w0 := w) w.heap.size rfl (.tmp 105) (.tmp 107) 22 25 (.agg #[(.int .i64 0), (.int .i64 0), (.string ⟨#[]⟩)]) 32 rfl Try.underlying22 info25 rfl (by decide) (by omega) u6 x6_2 (⟨Int.tmod (wrap64 (ji21)) 4, wrap64 (bt x5_2 0), (⟨#[]⟩ : ByteArray)⟩ : S25) [.int .i64 (Int.tmod (wrap64 (ji21)) 4), .int .i64 (wrap64 (bt x5_2 0)), .string (⟨#[]⟩ : ByteArray)] (fun k_ => k_ ≠ gb261) (fun _ => False) rfl (by first | (go_simp; done) | (go_simp; rfl)) ?aP (fun _ hk => hk.elim) ?aF ?aO ?aB ?aS ?aL ?_; (case aP => exact k25_mkM _ _ _ (⟨Int.tmod (wrap64 (ji21)) 4, wrap64 (bt x5_2 0), (⟨#[]⟩ : ByteArray)⟩ : S25)); (case aB => exact (by repeat (first | (with_reducible first | exact HB.out | apply below_alloc | apply pw_below_drewN | apply below_drew1 | refine below_set ?_ GE261.out) | exact HB.out))); (case aF => exact (fun k_ hk => Kd.freshB (g := gb261) (o := .cells #[.int .i64 (Int.tmod (wrap64 (ji21)) 4), .int .i64 (wrap64 (bt x5_2 0)), .string (⟨#[]⟩ : ByteArray)] 25 (0, 0)) (by (with_reducible repeat (first | refine blk_drewN ?_ _ | refine blk_drew ?_ | refine blk_alloc ?_ _)); refine blk_put (cs := #[.int .i64 (Int.tmod (wrap64 (ji21)) 4), .int .i64 0, .string (⟨#[]⟩ : ByteArray)]) ?_ 1 _ rfl; (with_reducible repeat (first | refine blk_drewN ?_ _ | refine blk_drew ?_ | refine blk_alloc ?_ _)); exact BK261.out) k_ hk)); (case aO => exact (by (with_reducible repeat (first | apply Kd.R_alloc | apply Kd.R_drewN | apply Kd.R_drew)); exact Kd.R_mono (Kd.R_far (p := ⟨gb261, 1, none⟩) (Kd.R_mono HO_6.out (fun k_ hk => (⟨hk, hk⟩ : _ ∧ k_ ≠ gb261))) (fun _ hk => hk.2) (.int .i64 (wrap64 (bt x5_2 0)))) (fun _ hk => hk.1))); (case aS => exact (below_size (by repeat (first | (with_reducible first | exact HB.out | apply below_alloc | apply pw_below_drewN | apply below_drew1 | refine below_set ?_ GE261.out) | exact HB.out)))); (case aL => have := LMc37.out; omega); intro v268 w42 ho hb hg hat; rw [← Ny267.out] at ho; have n0_ := Aside0.mk (blk_grown (g := gb261) (o := .cells #[.int .i64 (Int.tmod (wrap64 (ji21)) 4), .int .i64 (wrap64 (bt x5_2 0)), .string (⟨#[]⟩ : ByteArray)] 25 (0, 0)) (by (with_reducible repeat (first | refine blk_drewN ?_ _ | refine blk_drew ?_ | refine blk_alloc ?_ _)); refine blk_put (cs := #[.int .i64 (Int.tmod (wrap64 (ji21)) 4), .int .i64 0, .string (⟨#[]⟩ : ByteArray)]) ?_ 1 _ rfl; (with_reducible repeat (first | refine blk_drewN ?_ _ | refine blk_drew ?_ | refine blk_alloc ?_ _)); exact BK261.out) hg (Kd.R_away HO_6.out (fun _ hk => hk))); have n1_ := Aside0.mk (hb); have n2_ := Aside0.mk (ho); clear BK261; clear HB; clear HO_6; have BK261 := n0_; have HB := n1_; have HO269 := n2_; clear n0_ n1_ n2_; clear ho hb hg hat))
                   go_roundg k2
                   case measure => have := HJ1.out; have := HK2.out; omega
                   case rel => exact ⟨(x5_2.extract 1 x5_2.size), (y267), (wrap64 (x7_2 + 1)), (by first | rfl | (simp; done) | (simp [*]; done)), (by first | rfl | (simp; done) | (simp [*]; done)), H', ⟨by have := HJ1.out; have := HK2.out; omega⟩, ⟨by (with_reducible repeat (first | apply Kd.R_alloc | apply Kd.R_drewN | apply Kd.R_drew)); exact Kd.R_mono HO269.out (fun _ hk => trivial)⟩, ⟨by repeat (first | (with_reducible first | exact HB.out | apply below_alloc | apply pw_below_drewN | apply below_drew1 | refine below_set ?_ GE261.out) | exact HB.out)⟩⟩
                  ·
                   rw [if_neg c37] at H
                   exact absurd H (by simp)
                 ·
                  rw [if_neg c36] at H
                  exact absurd H (by simp)
                ·
                 rw [if_neg c34] at H
                 exact absurd H (by simp)
               ·
                rw [if_neg c33] at H
                have c33b0 : decide (0 < (x5_2.size : Int)) = false := decide_eq_false c33
                have c33b1 : decide (0 < x5_2.size) = false := decide_eq_false (by omega)
                clear c33
                by_cases c43 : 0 ≤ (x5_2.size : Int)
                ·
                 rw [if_pos c43] at H
                 have c43b0 := eq_true c43
                 have c43b1 : decide (0 ≤ (x5_2.size : Int)) = true := decide_eq_true c43
                 clear c43
                 by_cases c44 : x6_2.length < 4398046511104
                 ·
                  rw [if_pos c44] at H
                  have LMc44 := Aside0.mk c44
                  clear c44
                  obtain ⟨y270, hy270⟩ : ∃ y_ : List (S25), y_ = (x6_2 ++ [(⟨Int.tmod (wrap64 (ji21)) 4, 0, (⟨#[]⟩ : ByteArray)⟩ : S25)]) := ⟨_, rfl⟩
                  replace H : (unisonref03_Decode.l0 k2 a0 (wrap64 (bt a0 0)) (x5_2.extract 0 x5_2.size) y270 (wrap64 (x7_2 + 1))) = some (r1, r2) := by first | (rw [hy270]; with_reducible exact H) | (have H2_ := (Option.bind_some _ _).symm.trans H; rw [hy270]; with_reducible exact H2_) | (have H2_ := (Option.bind_some _ _).symm.trans H; with_reducible exact H2_) | with_reducible exact H | (rw [hy270]; exact H) | exact H
                  have Ny270 := Aside0.mk hy270
                  clear hy270
                  have H' := Aside0.mk H
                  clear H
                  have p18 : 0 ≤ ((ji15) : Int) := of_decide_eq_true (by first | (with_reducible assumption) | assumption)
                  have q18 : (ji15) < (a0.size : Int) := of_decide_eq_true (by first | (with_reducible assumption) | assumption)
                  have hx18 := bt_at a0 (ji15)
                  replace p18 := eq_true p18
                  replace q18 := eq_true q18
                  go_wp2_with (first | ((with_reducible refine gate_dst (N := 8) rfl ?_); (try (refine gate_guard (by rfl) ?_; dsimp only)); refine box_event ?hg (N := 8) ?hd (cs := #[.int .i64 0, .int .i64 0, .string (⟨#[]⟩ : ByteArray)]) (t := 25) ?hr ?_; (case hd => rfl); (case hg => rfl); (case hr => first | (go_simp; done) | (go_simp; rfl)); intro gb261 hg w45 hbox hb; have n0_ := Aside0.mk (Kd.R_below (Kd.R_elderB (by (with_reducible repeat (first | apply Kd.R_alloc | apply Kd.R_drewN | apply Kd.R_drew)); exact HO_6.out) gb261 (Nat.le_of_eq hg.symm)) hb); have n1_ := Aside0.mk (below_step (by repeat (first | (with_reducible first | exact HB.out | apply below_alloc | apply pw_below_drewN | apply below_drew1) | exact HB.out)) hb); have n2_ := Aside0.mk (hbox); have n3_ := Aside0.mk ((by rw [hg]; exact (below_size (by repeat (first | (with_reducible first | exact HB.out | apply below_alloc | apply pw_below_drewN | apply below_drew1) | exact HB.out))) : w.heap.size ≤ gb261)); have n4_ := Aside0.mk ((by rw [hg]; exact (below_size (by repeat (first | (with_reducible first | exact HB.out | apply below_alloc | apply pw_below_drewN | apply below_drew1) | exact HB.out))) : w.heap.size ≤ gb261)); clear HO_6; clear HB; have HO_6 := n0_; have HB := n1_; have BK261 := n2_; have GW261 := n3_; have GE261 := n4_; clear n0_ n1_ n2_ n3_ n4_; clear hb hbox hg; have hcz46_0 : w45.cell? ⟨gb261, 0, none⟩ = some (.int .i64 0) := (blk_cell BK261.out 0).trans rfl; have hcz46_1 : w45.cell? ⟨gb261, 1, none⟩ = some (.int .i64 0) := (blk_cell BK261.out 1).trans rfl; have hcz46_2 : w45.cell? ⟨gb261, 2, none⟩ = some (.string (⟨#[]⟩ : ByteArray)) := (blk_cell BK261.out 2).trans rfl; have hfz46_0 := blk_frozen BK261.out 0; have hfz46_1 := blk_frozen BK261.out 1; have hfz46_2 := blk_frozen BK261.out 2) | ((with_reducible refine gate_store (t := 25) (p := 8) rfl ?_); refine store_event (t := 25) (p := 8) (v := ?vo_w47) (w1 := (((w45.setCell ⟨gb261, 0, none⟩ (.int .i64 (Int.tmod (wrap64 (ji21)) 4))).setCell ⟨gb261, 1, none⟩ (.int .i64 0)).setCell ⟨gb261, 2, none⟩ (.string (⟨#[]⟩ : ByteArray)))) ?hg ?ho ?hn ?hr ?_; (case ho => rfl); (case hg => rfl); (case hn => rfl); (case hr => first | (go_simp; done) | (go_simp; rfl)); intro w47 hw; have n0_ : Aside0 (Kd.R k25 25 w47 w.heap.size (fun k_ => k_ ≠ gb261) u6 x6_2) := ⟨(by rw [hw]; exact (by (with_reducible repeat (first | apply Kd.R_alloc | apply Kd.R_drewN | apply Kd.R_drew)); exact Kd.R_mono (Kd.R_far (p := ⟨gb261, 2, none⟩) (Kd.R_far (p := ⟨gb261, 1, none⟩) (Kd.R_far (p := ⟨gb261, 0, none⟩) (Kd.R_mono HO_6.out (fun k_ hk => (⟨hk, hk.2⟩ : _ ∧ k_ ≠ gb261))) (fun _ hk => hk.2) (.int .i64 (Int.tmod (wrap64 (ji21)) 4))) (fun _ hk => hk.2) (.int .i64 0)) (fun _ hk => hk.2) (.string (⟨#[]⟩ : ByteArray))) (fun _ hk => hk.1.2)))⟩; have n1_ : Aside0 (w47.heap[gb261]? = some (.cells #[.int .i64 (Int.tmod (wrap64 (ji21)) 4), .int .i64 0, .string (⟨#[]⟩ : ByteArray)] 25 (0, 0))) := ⟨(by rw [hw]; exact (by (with_reducible repeat (first | refine blk_drewN ?_ _ | refine blk_drew ?_ | refine blk_alloc ?_ _)); refine blk_put (cs := #[.int .i64 (Int.tmod (wrap64 (ji21)) 4), .int .i64 0, .string (⟨#[]⟩ : ByteArray)]) ?_ 2 _ rfl; (with_reducible repeat (first | refine blk_drewN ?_ _ | refine blk_drew ?_ | refine blk_alloc ?_ _)); refine blk_put (cs := #[.int .i64 (Int.tmod (wrap64 (ji21)) 4), .int .i64 0, .string (⟨#[]⟩ : ByteArray)]) ?_ 1 _ rfl; (with_reducible repeat (first | refine blk_drewN ?_ _ | refine blk_drew ?_ | refine blk_alloc ?_ _)); refine blk_put (cs := #[.int .i64 0, .int .i64 0, .string (⟨#[]⟩ : ByteArray)]) ?_ 0 _ rfl; (with_reducible repeat (first | refine blk_drewN ?_ _ | refine blk_drew ?_ | refine blk_alloc ?_ _)); exact BK261.out))⟩; have n2_ : Aside0 (Below w.heap.size w w47) := ⟨(by rw [hw]; exact (by repeat (first | (with_reducible first | exact HB.out | apply below_alloc | apply pw_below_drewN | apply below_drew1 | refine below_set ?_ GE261.out) | exact HB.out)))⟩; clear hw; clear HO_6; clear BK261; clear HB; have HO_6 := n0_; have BK261 := n1_; have HB := n2_; clear n0_ n1_ n2_; have hcz48_0 : w47.cell? ⟨gb261, 0, none⟩ = some (.int .i64 (Int.tmod (wrap64 (ji21)) 4)) := (blk_cell BK261.out 0).trans rfl; have hcz48_1 : w47.cell? ⟨gb261, 1, none⟩ = some (.int .i64 0) := (blk_cell BK261.out 1).trans rfl; have hcz48_2 : w47.cell? ⟨gb261, 2, none⟩ = some (.string (⟨#[]⟩ : ByteArray)) := (blk_cell BK261.out 2).trans rfl; have hfz48_0 := blk_frozen BK261.out 0; have hfz48_1 := blk_frozen BK261.out 1; have hfz48_2 := blk_frozen BK261.out 2) | ((with_reducible refine gate_builtin (b := .append) (xs := #[.tmp 105, .tmp 107]) rfl ?_); (try (refine gate_guard (by rfl) ?_; dsimp only)); at_builtin; refine Kd.R_append k25 (w0 := w) w.heap.size rfl (.tmp 105) (.tmp 107) 22 25 (.agg #[(.int .i64 0), (.int .i64 0), (.string ⟨#[]⟩)]) 32 rfl Try.underlying22 info25 rfl (by decide) (by omega) u6 x6_2 (⟨Int.tmod (wrap64 (ji21)) 4, 0, (⟨#[]⟩ : ByteArray)⟩ : S25) [.int .i64 (Int.tmod (wrap64 (ji21)) 4), .int .i64 0, .string (⟨#[]⟩ : ByteArray)] (fun k_ => k_ ≠ gb261) (fun _ => False) rfl rfl ?aP (fun _ hk => hk.elim) ?aF ?aO ?aB ?aS ?aL ?_; (case aP => exact k25_mkM _ _ _ (⟨Int.tmod (wrap64 (ji21)) 4, 0, (⟨#[]⟩ : ByteArray)⟩ : S25)); (case aB => exact (by repeat (first | (with_reducible first | exact HB.out | apply below_alloc | apply pw_below_drewN | apply below_drew1 | refine below_set ?_ GE261.out) | exact HB.out))); (case aF => exact (fun k_ hk => Kd.freshB (g := gb261) (o := .cells #[.int .i64 (Int.tmod (wrap64 (ji21)) 4), .int .i64 0, .string (⟨#[]⟩ : ByteArray)] 25 (0, 0)) (by (with_reducible repeat (first | refine blk_drewN ?_ _ | refine blk_drew ?_ | refine blk_alloc ?_ _)); exact BK261.out) k_ hk)); (case aO => exact (by (with_reducible repeat (first | apply Kd.R_alloc | apply Kd.R_drewN | apply Kd.R_drew)); exact HO_6.out)); (case aS => exact (below_size (by repeat (first | (with_reducible first | exact HB.out | apply below_alloc | apply pw_below_drewN | apply below_drew1 | refine below_set ?_ GE261.out) | exact HB.out)))); (case aL => have := LMc44.out; omega); intro v271 w49 ho hb hg hat; rw [← Ny270.out] at ho; have n0_ := Aside0.mk (blk_grown (g := gb261) (o := .cells #[.int .i64 (Int.tmod (wrap64 (ji21)) 4), .int .i64 0, .string (⟨#[]⟩ : ByteArray)] 25 (0, 0)) (by (with_reducible repeat (first | refine blk_drewN ?_ _ | refine blk_drew ?_ | refine blk_alloc ?_ _)); exact BK261.out) hg (Kd.R_away HO_6.out (fun _ hk => hk))); have n1_ := Aside0.mk (hb); have n2_ := Aside0.mk (ho); clear BK261; clear HB; clear HO_6; have BK261 := n0_; have HB := n1_; have HO272 := n2_; clear n0_ n1_ n2_; clear ho hb hg hat))
                  go_roundg k2
                  case measure => have := HJ1.out; have := HK2.out; omega
                  case rel => exact ⟨(x5_2.extract 0 x5_2.size), (y270), (wrap64 (x7_2 + 1)), (by first | rfl | (simp; done) | (simp [*]; done)), (by first | rfl | (simp; done) | (simp [*]; done)), H', ⟨by have := HJ1.out; have := HK2.out; omega⟩, ⟨by (with_reducible repeat (first | apply Kd.R_alloc | apply Kd.R_drewN | apply Kd.R_drew)); exact Kd.R_mono HO272.out (fun _ hk => trivial)⟩, ⟨by repeat (first | (with_reducible first | exact HB.out | apply below_alloc | apply pw_below_drewN | apply below_drew1 | refine below_set ?_ GE261.out) | exact HB.out)⟩⟩
                 ·
                  rw [if_neg c44] at H
                  exact absurd H (by simp)
                ·
                 rw [if_neg c43] at H
                 exact absurd H (by simp)
              ·
               rw [if_neg c32] at H
               have c32b0 : ((Int.tmod (wrap64 (ji21)) 4) == 2) = false := beq_eq_false_iff_ne.mpr c32
               have c32b1 : ((Int.tmod (wrap64 (ji21)) 4) != 2) = true := bne_iff_ne.mpr c32
               by_cases c50 : (Int.tmod (wrap64 (ji21)) 4) = 3
               ·
                rw [if_pos c50] at H
                have c50b0 : ((Int.tmod (wrap64 (ji21)) 4) == 3) = true := beq_iff_eq.mpr c50
                have c50b1 : ((Int.tmod (wrap64 (ji21)) 4) != 3) = false := bne_eq_false_iff_eq.mpr c50
                clear c50
                have HC51 := Aside0.mk H
                clear H
                have p18 : 0 ≤ ((ji15) : Int) := of_decide_eq_true (by first | (with_reducible assumption) | assumption)
                have q18 : (ji15) < (a0.size : Int) := of_decide_eq_true (by first | (with_reducible assumption) | assumption)
                have hx18 := bt_at a0 (ji15)
                replace p18 := eq_true p18
                replace q18 := eq_true q18
                go_upto_if 85 with (first | ((with_reducible refine gate_dst (N := 8) rfl ?_); (try (refine gate_guard (by rfl) ?_; dsimp only)); refine box_event ?hg (N := 8) ?hd (cs := #[.int .i64 0, .int .i64 0, .string (⟨#[]⟩ : ByteArray)]) (t := 25) ?hr ?_; (case hd => rfl); (case hg => rfl); (case hr => first | (go_simp; done) | (go_simp; rfl)); intro gb261 hg w52 hbox hb; have n0_ := Aside0.mk (Kd.R_below (Kd.R_elderB (by (with_reducible repeat (first | apply Kd.R_alloc | apply Kd.R_drewN | apply Kd.R_drew)); exact HO_6.out) gb261 (Nat.le_of_eq hg.symm)) hb); have n1_ := Aside0.mk (below_step (by repeat (first | (with_reducible first | exact HB.out | apply below_alloc | apply pw_below_drewN | apply below_drew1) | exact HB.out)) hb); have n2_ := Aside0.mk (hbox); have n3_ := Aside0.mk ((by rw [hg]; exact (below_size (by repeat (first | (with_reducible first | exact HB.out | apply below_alloc | apply pw_below_drewN | apply below_drew1) | exact HB.out))) : w.heap.size ≤ gb261)); have n4_ := Aside0.mk ((by rw [hg]; exact (below_size (by repeat (first | (with_reducible first | exact HB.out | apply below_alloc | apply pw_below_drewN | apply below_drew1) | exact HB.out))) : w.heap.size ≤ gb261)); clear HO_6; clear HB; have HO_6 := n0_; have HB := n1_; have BK261 := n2_; have GW261 := n3_; have GE261 := n4_; clear n0_ n1_ n2_ n3_ n4_; clear hb hbox hg; have hcz53_0 : w52.cell? ⟨gb261, 0, none⟩ = some (.int .i64 0) := (blk_cell BK261.out 0).trans rfl; have hcz53_1 : w52.cell? ⟨gb261, 1, none⟩ = some (.int .i64 0) := (blk_cell BK261.out 1).trans rfl; have hcz53_2 : w52.cell? ⟨gb261, 2, none⟩ = some (.string (⟨#[]⟩ : ByteArray)) := (blk_cell BK261.out 2).trans rfl; have hfz53_0 := blk_frozen BK261.out 0; have hfz53_1 := blk_frozen BK261.out 1; have hfz53_2 := blk_frozen BK261.out 2) | ((with_reducible refine gate_store (t := 25) (p := 8) rfl ?_); refine store_event (t := 25) (p := 8) (v := ?vo_w54) (w1 := (((w52.setCell ⟨gb261, 0, none⟩ (.int .i64 (Int.tmod (wrap64 (ji21)) 4))).setCell ⟨gb261, 1, none⟩ (.int .i64 0)).setCell ⟨gb261, 2, none⟩ (.string (⟨#[]⟩ : ByteArray)))) ?hg ?ho ?hn ?hr ?_; (case ho => rfl); (case hg => rfl); (case hn => rfl); (case hr => first | (go_simp; done) | (go_simp; rfl)); intro w54 hw; have n0_ : Aside0 (Kd.R k25 25 w54 w.heap.size (fun k_ => k_ ≠ gb261) u6 x6_2) := ⟨(by rw [hw]; exact (by (with_reducible repeat (first | apply Kd.R_alloc | apply Kd.R_drewN | apply Kd.R_drew)); exact Kd.R_mono (Kd.R_far (p := ⟨gb261, 2, none⟩) (Kd.R_far (p := ⟨gb261, 1, none⟩) (Kd.R_far (p := ⟨gb261, 0, none⟩) (Kd.R_mono HO_6.out (fun k_ hk => (⟨hk, hk.2⟩ : _ ∧ k_ ≠ gb261))) (fun _ hk => hk.2) (.int .i64 (Int.tmod (wrap64 (ji21)) 4))) (fun _ hk => hk.2) (.int .i64 0)) (fun _ hk => hk.2) (.string (⟨#[]⟩ : ByteArray))) (fun _ hk => hk.1.2)))⟩; have n1_ : Aside0 (w54.heap[gb261]? = some (.cells #[.int .i64 (Int.tmod (wrap64 (ji21)) 4), .int .i64 0, .string (⟨#[]⟩ : ByteArray)] 25 (0, 0))) := ⟨(by rw [hw]; exact (by (with_reducible repeat (first | refine blk_drewN ?_ _ | refine blk_drew ?_ | refine blk_alloc ?_ _)); refine blk_put (cs := #[.int .i64 (Int.tmod (wrap64 (ji21)) 4), .int .i64 0, .string (⟨#[]⟩ : ByteArray)]) ?_ 2 _ rfl; (with_reducible repeat (first | refine blk_drewN ?_ _ | refine blk_drew ?_ | refine blk_alloc ?_ _)); refine blk_put (cs := #[.int .i64 (Int.tmod (wrap64 (ji21)) 4), .int .i64 0, .string (⟨#[]⟩ : ByteArray)]) ?_ 1 _ rfl; (with_reducible repeat (first | refine blk_drewN ?_ _ | refine blk_drew ?_ | refine blk_alloc ?_ _)); refine blk_put (cs := #[.int .i64 0, .int .i64 0, .string (⟨#[]⟩ : ByteArray)]) ?_ 0 _ rfl; (with_reducible repeat (first | refine blk_drewN ?_ _ | refine blk_drew ?_ | refine blk_alloc ?_ _)); exact BK261.out))⟩; have n2_ : Aside0 (Below w.heap.size w w54) := ⟨(by rw [hw]; exact (by repeat (first | (with_reducible first | exact HB.out | apply below_alloc | apply pw_below_drewN | apply below_drew1 | refine below_set ?_ GE261.out) | exact HB.out)))⟩; clear hw; clear HO_6; clear BK261; clear HB; have HO_6 := n0_; have BK261 := n1_; have HB := n2_; clear n0_ n1_ n2_; have hcz55_0 : w54.cell? ⟨gb261, 0, none⟩ = some (.int .i64 (Int.tmod (wrap64 (ji21)) 4)) := (blk_cell BK261.out 0).trans rfl; have hcz55_1 : w54.cell? ⟨gb261, 1, none⟩ = some (.int .i64 0) := (blk_cell BK261.out 1).trans rfl; have hcz55_2 : w54.cell? ⟨gb261, 2, none⟩ = some (.string (⟨#[]⟩ : ByteArray)) := (blk_cell BK261.out 2).trans rfl; have hfz55_0 := blk_frozen BK261.out 0; have hfz55_1 := blk_frozen BK261.out 1; have hfz55_2 := blk_frozen BK261.out 2))
                (try simp only [Act.put, List.setIfInBounds_toArray, List.set_cons_zero, List.set_cons_succ])
                go_cut [9] (fun v9 wc => ∃ (kq : Nat) (x9_50 : Int), v9 = .int .i64 x9_50 ∧ Aside0 (unisonref03_Decode.j2 kq a0 (wrap64 (bt a0 0)) x5_2 x6_2 x7_2 x9_50 (Int.tmod (wrap64 (ji21)) 4) 0 (⟨#[]⟩ : ByteArray) = some (r1, r2)) ∧ Aside0 (kq ≤ k2) ∧ Aside0 (Kd.R k25 25 wc w.heap.size (fun k_ => k_ ≠ gb261) u6 x6_2) ∧ Aside0 (wc.heap[gb261]? = some (.cells #[.int .i64 (Int.tmod (wrap64 (ji21)) 4), .int .i64 0, .string (⟨#[]⟩ : ByteArray)] 25 (0, 0))) ∧ Aside0 (Below w.heap.size w wc))
                case first =>
                 have H := HC51.out
                 clear HC51
                 by_cases c56 : (x5_2.size : Int) > 0
                 ·
                  rw [if_pos c56] at H
                  have c56b0 : decide (0 < (x5_2.size : Int)) = true := decide_eq_true c56
                  have c56b1 : decide (0 < x5_2.size) = true := decide_eq_true (by omega)
                  clear c56
                  (first | rw [c56b0] | (simp only [i64_w, i32_w, u8_w, u32_w]; rw [c56b0]) | rw [c56b1] | skip)
                  by_cases c57 : 0 < (x5_2.size : Int)
                  ·
                   rw [if_pos c57] at H
                   have c57b0 : decide (0 < (x5_2.size : Int)) = true := decide_eq_true c57
                   have c57b1 : decide (0 < x5_2.size) = true := decide_eq_true (by omega)
                   clear c57
                   have H' := Aside0.mk H
                   clear H
                   have p58 : 0 ≤ (0 : Int) := (by omega)
                   have q58 : 0 < x5_2.size := (by have : (0 : Int) < (x5_2.size : Int) := of_decide_eq_true (by first | (with_reducible assumption) | assumption); omega)
                   have hx58 : ∀ h : 0 < x5_2.size, ((x5_2[0]'h).toNat : Int) = bt x5_2 0 := bt_at x5_2 0
                   clear p58
                   have qi58 : (0 < (x5_2.size : Int)) = True := eq_true (of_decide_eq_true (by first | (with_reducible assumption) | assumption))
                   replace q58 := eq_true q58
                   go_wp2
                   go_meet
                   case rel => exact ⟨_, (wrap64 (1 + (wrap64 (bt x5_2 0)))), (by first | rfl | (simp; done) | (simp [*]; done)), H', ⟨by have := HJ1.out; have := HK2.out; first | omega | exact Nat.le_refl _⟩, ⟨by (with_reducible repeat (first | apply Kd.R_alloc | apply Kd.R_drewN | apply Kd.R_drew)); exact HO_6.out⟩, ⟨by (with_reducible repeat (first | refine blk_drewN ?_ _ | refine blk_drew ?_ | refine blk_alloc ?_ _)); exact BK261.out⟩, ⟨by repeat (first | (with_reducible first | exact HB.out | apply below_alloc | apply pw_below_drewN | apply below_drew1 | refine below_set ?_ GE261.out) | exact HB.out)⟩⟩
                  ·
                   rw [if_neg c57] at H
                   exact absurd H (by simp)
                 ·
                  rw [if_neg c56] at H
                  have c56b0 : decide (0 < (x5_2.size : Int)) = false := decide_eq_false c56
                  have c56b1 : decide (0 < x5_2.size) = false := decide_eq_false (by omega)
                  clear c56
                  (first | rw [c56b0] | (simp only [i64_w, i32_w, u8_w, u32_w]; rw [c56b0]) | rw [c56b1] | skip)
                  have H' := Aside0.mk H
                  clear H
                  go_wp2
                  go_meet
                  case rel => exact ⟨_, (0), (by first | rfl | (simp; done) | (simp [*]; done)), H', ⟨by have := HJ1.out; have := HK2.out; first | omega | exact Nat.le_refl _⟩, ⟨by (with_reducible repeat (first | apply Kd.R_alloc | apply Kd.R_drewN | apply Kd.R_drew)); exact HO_6.out⟩, ⟨by (with_reducible repeat (first | refine blk_drewN ?_ _ | refine blk_drew ?_ | refine blk_alloc ?_ _)); exact BK261.out⟩, ⟨by repeat (first | (with_reducible first | exact HB.out | apply below_alloc | apply pw_below_drewN | apply below_drew1 | refine below_set ?_ GE261.out) | exact HB.out)⟩⟩
                case rest =>
                 clear HC51
                 try clear c1
                 try clear p1
                 try clear q1
                 try clear hx1
                 try clear qi1
                 try clear c2
                 try clear p2
                 try clear c3
                 try clear c3b0
                 try clear c3b1
                 try clear p3
                 try clear q3
                 try clear hx3
                 try clear qi3
                 try clear c4
                 try clear c4b0
                 try clear c4b1
                 try clear c5
                 try clear p5
                 try clear q5
                 try clear hx5
                 try clear qi5
                 try clear c6
                 try clear c6b0
                 try clear p6
                 try clear p7
                 try clear q7
                 try clear hx7
                 try clear qi7
                 try clear c8
                 try clear c9
                 try clear c9b0
                 try clear c9b1
                 try clear p10
                 try clear q10
                 try clear hx10
                 try clear qi10
                 try clear c12
                 try clear c12b0
                 try clear c12b1
                 try clear c13
                 try clear c13b0
                 try clear c13b1
                 try clear c14
                 try clear c14b0
                 try clear c16
                 try clear c16b0
                 try clear c17
                 try clear c17b0
                 try clear p18
                 try clear q18
                 try clear hx18
                 try clear c20
                 try clear c20b0
                 try clear c20b1
                 try clear c22
                 try clear c22b0
                 try clear c22b1
                 try clear c24
                 try clear c24b0
                 try clear c24b1
                 try clear c25
                 try clear c25b0
                 try clear c25b1
                 try clear c26
                 try clear c32
                 try clear c32b0
                 try clear c32b1
                 try clear c33
                 try clear c33b0
                 try clear c33b1
                 try clear c34
                 try clear c34b0
                 try clear c34b1
                 try clear p35
                 try clear q35
                 try clear hx35
                 try clear qi35
                 try clear c36
                 try clear c36b0
                 try clear c36b1
                 try clear c37
                 try clear c43
                 try clear c43b0
                 try clear c43b1
                 try clear c44
                 try clear c50
                 try clear c50b0
                 try clear c50b1
                 try clear c56
                 try clear c56b0
                 try clear c56b1
                 try clear c57
                 try clear c57b0
                 try clear c57b1
                 try clear p58
                 try clear q58
                 try clear hx58
                 try clear qi58
                 try clear hcz28_0
                 try clear hcz28_1
                 try clear hcz28_2
                 try clear hcz30_0
                 try clear hcz30_1
                 try clear hcz30_2
                 try clear hcz39_0
                 try clear hcz39_1
                 try clear hcz39_2
                 try clear hcz41_0
                 try clear hcz41_1
                 try clear hcz41_2
                 try clear hcz46_0
                 try clear hcz46_1
                 try clear hcz46_2
                 try clear hcz48_0
                 try clear hcz48_1
                 try clear hcz48_2
                 try clear hcz53_0
                 try clear hcz53_1
                 try clear hcz53_2
                 try clear hcz55_0
                 try clear hcz55_1
                 try clear hcz55_2
                 try clear hfz28_0
                 try clear hfz28_1
                 try clear hfz28_2
                 try clear hfz30_0
                 try clear hfz30_1
                 try clear hfz30_2
                 try clear hfz39_0
                 try clear hfz39_1
                 try clear hfz39_2
                 try clear hfz41_0
                 try clear hfz41_1
                 try clear hfz41_2
                 try clear hfz46_0
                 try clear hfz46_1
                 try clear hfz46_2
                 try clear hfz48_0
                 try clear hfz48_1
                 try clear hfz48_2
                 try clear hfz53_0
                 try clear hfz53_1
                 try clear hfz53_2
                 try clear hfz55_0
                 try clear hfz55_1
                 try clear hfz55_2
                 try clear p1
                 try clear p10
                 try clear p18
                 try clear p2
                 try clear p35
                 try clear p5
                 try clear p58
                 try clear p6
                 try clear p7
                 try clear q1
                 try clear q10
                 try clear q18
                 try clear q35
                 try clear q5
                 try clear q58
                 try clear q7
                 obtain ⟨kq, x9_50, rfl, HA, HJ50, HO_6, BK261, HB⟩ := hcut
                 cases kq with
                 | zero => exact absurd HA.out (by simp [unisonref03_Decode.j2])
                 | succ kj50 =>
                  have H := HA.out
                  clear HA
                  simp only [unisonref03_Decode.j2] at H
                  by_cases c59 : x9_50 > (x5_2.size : Int)
                  ·
                   rw [if_pos c59] at H
                   have c59b0 : decide ((x5_2.size : Int) < x9_50) = true := decide_eq_true c59
                   clear c59
                   by_cases c60 : (x5_2.size : Int) > 0
                   ·
                    rw [if_pos c60] at H
                    have c60b0 : decide (0 < (x5_2.size : Int)) = true := decide_eq_true c60
                    have c60b1 : decide (0 < x5_2.size) = true := decide_eq_true (by omega)
                    clear c60
                    by_cases c61 : 1 ≤ (x5_2.size : Int)
                    ·
                     rw [if_pos c61] at H
                     have c61b0 := eq_true c61
                     have c61b1 : decide (1 ≤ (x5_2.size : Int)) = true := decide_eq_true c61
                     clear c61
                     by_cases c62 : (x5_2.size : Int) ≤ (x5_2.size : Int)
                     ·
                      rw [if_pos c62] at H
                      have c62b0 := eq_true c62
                      have c62b1 : decide ((x5_2.size : Int) ≤ (x5_2.size : Int)) = true := decide_eq_true c62
                      clear c62
                      by_cases c63 : 0 ≤ (x5_2.size : Int)
                      ·
                       rw [if_pos c63] at H
                       have c63b0 := eq_true c63
                       have c63b1 : decide (0 ≤ (x5_2.size : Int)) = true := decide_eq_true c63
                       clear c63
                       have c64b0 := eq_true (of_decide_eq_true (by first | (with_reducible assumption) | assumption) : (x5_2.size : Int) ≤ (x5_2.size : Int))
                       by_cases c65 : x6_2.length < 4398046511104
                       ·
                        rw [if_pos c65] at H
                        have LMc65 := Aside0.mk c65
                        clear c65
                        obtain ⟨y273, hy273⟩ : ∃ y_ : List (S25), y_ = (x6_2 ++ [(⟨(Int.tmod (wrap64 (ji21)) 4), 0, x5_2.extract 1 ((x5_2.size : Int) : Int).toNat⟩ : S25)]) := ⟨_, rfl⟩
                        replace H : (unisonref03_Decode.l0 kj50 a0 (wrap64 (bt a0 0)) (x5_2.extract ((x5_2.size : Int) : Int).toNat x5_2.size) y273 (wrap64 (x7_2 + 1))) = some (r1, r2) := by first | (rw [hy273]; with_reducible exact H) | (have H2_ := (Option.bind_some _ _).symm.trans H; rw [hy273]; with_reducible exact H2_) | (have H2_ := (Option.bind_some _ _).symm.trans H; with_reducible exact H2_) | with_reducible exact H | (rw [hy273]; exact H) | exact H
                        have Ny273 := Aside0.mk hy273
                        clear hy273
                        have H' := Aside0.mk H
                        clear H
                        have hcz66_0 : wc.cell? ⟨gb261, 0, none⟩ = some (.int .i64 (Int.tmod (wrap64 (ji21)) 4)) := (blk_cell BK261.out 0).trans rfl
                        have hcz66_1 : wc.cell? ⟨gb261, 1, none⟩ = some (.int .i64 0) := (blk_cell BK261.out 1).trans rfl
                        have hcz66_2 : wc.cell? ⟨gb261, 2, none⟩ = some (.string (⟨#[]⟩ : ByteArray)) := (blk_cell BK261.out 2).trans rfl
                        have hfz66_0 := blk_frozen BK261.out 0
                        have hfz66_1 := blk_frozen BK261.out 1
                        have hfz66_2 := blk_frozen BK261.out 2
                        go_wp2_with (first | ((with_reducible refine gate_builtin (b := .append) (xs := #[.tmp 105, .tmp 107]) rfl ?_); (try (refine gate_guard (by rfl) ?_; dsimp only)); at_builtin; refine Kd.R_append k25 (w0 := w) w.heap.size rfl (.tmp 105) (.tmp 107) 22 25 (.agg #[(.int .i64 0), (.int .i64 0), (.string ⟨#[]⟩)]) 32 rfl Try.underlying22 info25 rfl (by decide) (by omega) u6 x6_2 (⟨(Int.tmod (wrap64 (ji21)) 4), 0, x5_2.extract 1 ((x5_2.size : Int) : Int).toNat⟩ : S25) [.int .i64 (Int.tmod (wrap64 (ji21)) 4), .int .i64 0, .string (x5_2.extract 1 ((x5_2.size : Int) : Int).toNat)] (fun k_ => k_ ≠ gb261) (fun _ => False) rfl (by first | (go_simp; done) | (go_simp; rfl)) ?aP (fun _ hk => hk.elim) ?aF ?aO ?aB ?aS ?aL ?_; (case aP => exact k25_mkM _ _ _ (⟨(Int.tmod (wrap64 (ji21)) 4), 0, x5_2.extract 1 ((x5_2.size : Int) : Int).toNat⟩ : S25)); (case aB => exact (by repeat (first | (with_reducible first | exact HB.out | apply below_alloc | apply pw_below_drewN | apply below_drew1 | refine below_set ?_ GE261.out) | exact HB.out))); (case aF => exact (fun k_ hk => Kd.freshB (g := gb261) (o := .cells #[.int .i64 (Int.tmod (wrap64 (ji21)) 4), .int .i64 0, .string (x5_2.extract 1 ((x5_2.size : Int) : Int).toNat)] 25 (0, 0)) (by (with_reducible repeat (first | refine blk_drewN ?_ _ | refine blk_drew ?_ | refine blk_alloc ?_ _)); refine blk_put (cs := #[.int .i64 (Int.tmod (wrap64 (ji21)) 4), .int .i64 0, .string (⟨#[]⟩ : ByteArray)]) ?_ 2 _ rfl; (with_reducible repeat (first | refine blk_drewN ?_ _ | refine blk_drew ?_ | refine blk_alloc ?_ _)); exact BK261.out) k_ hk)); (case aO => exact (by (with_reducible repeat (first | apply Kd.R_alloc | apply Kd.R_drewN | apply Kd.R_drew)); exact Kd.R_mono (Kd.R_far (p := ⟨gb261, 2, none⟩) (Kd.R_mono HO_6.out (fun k_ hk => (⟨hk, hk⟩ : _ ∧ k_ ≠ gb261))) (fun _ hk => hk.2) (.string (x5_2.extract 1 ((x5_2.size : Int) : Int).toNat))) (fun _ hk => hk.1))); (case aS => exact (below_size (by repeat (first | (with_reducible first | exact HB.out | apply below_alloc | apply pw_below_drewN | apply below_drew1 | refine below_set ?_ GE261.out) | exact HB.out)))); (case aL => have := LMc65.out; omega); intro v274 w67 ho hb hg hat; rw [← Ny273.out] at ho; have n0_ := Aside0.mk (blk_grown (g := gb261) (o := .cells #[.int .i64 (Int.tmod (wrap64 (ji21)) 4), .int .i64 0, .string (x5_2.extract 1 ((x5_2.size : Int) : Int).toNat)] 25 (0, 0)) (by (with_reducible repeat (first | refine blk_drewN ?_ _ | refine blk_drew ?_ | refine blk_alloc ?_ _)); refine blk_put (cs := #[.int .i64 (Int.tmod (wrap64 (ji21)) 4), .int .i64 0, .string (⟨#[]⟩ : ByteArray)]) ?_ 2 _ rfl; (with_reducible repeat (first | refine blk_drewN ?_ _ | refine blk_drew ?_ | refine blk_alloc ?_ _)); exact BK261.out) hg (Kd.R_away HO_6.out (fun _ hk => hk))); have n1_ := Aside0.mk (hb); have n2_ := Aside0.mk (ho); clear BK261; clear HB; clear HO_6; have BK261 := n0_; have HB := n1_; have HO275 := n2_; clear n0_ n1_ n2_; clear ho hb hg hat))
                        go_roundg kj50
                        case measure => have := HJ1.out; have := HK2.out; have := HJ50.out; omega
                        case rel => exact ⟨(x5_2.extract ((x5_2.size : Int) : Int).toNat x5_2.size), (y273), (wrap64 (x7_2 + 1)), (by first | rfl | (simp; done) | (simp [*]; done)), (by first | rfl | (simp; done) | (simp [*]; done)), H', ⟨by have := HJ1.out; have := HK2.out; have := HJ50.out; omega⟩, ⟨by (with_reducible repeat (first | apply Kd.R_alloc | apply Kd.R_drewN | apply Kd.R_drew)); exact Kd.R_mono HO275.out (fun _ hk => trivial)⟩, ⟨by repeat (first | (with_reducible first | exact HB.out | apply below_alloc | apply pw_below_drewN | apply below_drew1 | refine below_set ?_ GE261.out) | exact HB.out)⟩⟩
                       ·
                        rw [if_neg c65] at H
                        exact absurd H (by simp)
                      ·
                       rw [if_neg c63] at H
                       exact absurd H (by simp)
                     ·
                      rw [if_neg c62] at H
                      exact absurd H (by simp)
                    ·
                     rw [if_neg c61] at H
                     exact absurd H (by simp)
                   ·
                    rw [if_neg c60] at H
                    have c60b0 : decide (0 < (x5_2.size : Int)) = false := decide_eq_false c60
                    have c60b1 : decide (0 < x5_2.size) = false := decide_eq_false (by omega)
                    clear c60
                    by_cases c68 : 0 ≤ (x5_2.size : Int)
                    ·
                     rw [if_pos c68] at H
                     have c68b0 := eq_true c68
                     have c68b1 : decide (0 ≤ (x5_2.size : Int)) = true := decide_eq_true c68
                     clear c68
                     by_cases c69 : (x5_2.size : Int) ≤ (x5_2.size : Int)
                     ·
                      rw [if_pos c69] at H
                      have c69b0 := eq_true c69
                      have c69b1 : decide ((x5_2.size : Int) ≤ (x5_2.size : Int)) = true := decide_eq_true c69
                      clear c69
                      by_cases c70 : x6_2.length < 4398046511104
                      ·
                       rw [if_pos c70] at H
                       have LMc70 := Aside0.mk c70
                       clear c70
                       obtain ⟨y276, hy276⟩ : ∃ y_ : List (S25), y_ = (x6_2 ++ [(⟨(Int.tmod (wrap64 (ji21)) 4), 0, (⟨#[]⟩ : ByteArray)⟩ : S25)]) := ⟨_, rfl⟩
                       replace H : (unisonref03_Decode.l0 kj50 a0 (wrap64 (bt a0 0)) (x5_2.extract ((x5_2.size : Int) : Int).toNat x5_2.size) y276 (wrap64 (x7_2 + 1))) = some (r1, r2) := by first | (rw [hy276]; with_reducible exact H) | (have H2_ := (Option.bind_some _ _).symm.trans H; rw [hy276]; with_reducible exact H2_) | (have H2_ := (Option.bind_some _ _).symm.trans H; with_reducible exact H2_) | with_reducible exact H | (rw [hy276]; exact H) | exact H
                       have Ny276 := Aside0.mk hy276
                       clear hy276
                       have H' := Aside0.mk H
                       clear H
                       have hcz71_0 : wc.cell? ⟨gb261, 0, none⟩ = some (.int .i64 (Int.tmod (wrap64 (ji21)) 4)) := (blk_cell BK261.out 0).trans rfl
                       have hcz71_1 : wc.cell? ⟨gb261, 1, none⟩ = some (.int .i64 0) := (blk_cell BK261.out 1).trans rfl
                       have hcz71_2 : wc.cell? ⟨gb261, 2, none⟩ = some (.string (⟨#[]⟩ : ByteArray)) := (blk_cell BK261.out 2).trans rfl
                       have hfz71_0 := blk_frozen BK261.out 0
                       have hfz71_1 := blk_frozen BK261.out 1
                       have hfz71_2 := blk_frozen BK261.out 2
                       go_wp2_with (first | ((with_reducible refine gate_builtin (b := .append) (xs := #[.tmp 105, .tmp 107]) rfl ?_); (try (refine gate_guard (by rfl) ?_; dsimp only)); at_builtin; refine Kd.R_append k25 (w0 := w) w.heap.size rfl (.tmp 105) (.tmp 107) 22 25 (.agg #[(.int .i64 0), (.int .i64 0), (.string ⟨#[]⟩)]) 32 rfl Try.underlying22 info25 rfl (by decide) (by omega) u6 x6_2 (⟨(Int.tmod (wrap64 (ji21)) 4), 0, (⟨#[]⟩ : ByteArray)⟩ : S25) [.int .i64 (Int.tmod (wrap64 (ji21)) 4), .int .i64 0, .string (⟨#[]⟩ : ByteArray)] (fun k_ => k_ ≠ gb261) (fun _ => False) rfl rfl ?aP (fun _ hk => hk.elim) ?aF ?aO ?aB ?aS ?aL ?_; (case aP => exact k25_mkM _ _ _ (⟨(Int.tmod (wrap64 (ji21)) 4), 0, (⟨#[]⟩ : ByteArray)⟩ : S25)); (case aB => exact (by repeat (first | (with_reducible first | exact HB.out | apply below_alloc | apply pw_below_drewN | apply below_drew1 | refine below_set ?_ GE261.out) | exact HB.out))); (case aF => exact (fun k_ hk => Kd.freshB (g := gb261) (o := .cells #[.int .i64 (Int.tmod (wrap64 (ji21)) 4), .int .i64 0, .string (⟨#[]⟩ : ByteArray)] 25 (0, 0)) (by (with_reducible repeat (first | refine blk_drewN ?_ _ | refine blk_drew ?_ | refine blk_alloc ?_ _)); exact BK261.out) k_ hk)); (case aO => exact (by (with_reducible repeat (first | apply Kd.R_alloc | apply Kd.R_drewN | apply Kd.R_drew)); exact HO_6.out)); (case aS => exact (below_size (by repeat (first | (with_reducible first | exact HB.out | apply below_alloc | apply pw_below_drewN | apply below_drew1 | refine below_set ?_ GE261.out) | exact HB.out)))); (case aL => have := LMc70.out; omega); intro v277 w72 ho hb hg hat; rw [← Ny276.out] at ho; have n0_ := Aside0.mk (blk_grown (g := gb261) (o := .cells #[.int .i64 (Int.tmod (wrap64 (ji21)) 4), .int .i64 0, .string (⟨#[]⟩ : ByteArray)] 25 (0, 0)) (by (with_reducible repeat (first | refine blk_drewN ?_ _ | refine blk_drew ?_ | refine blk_alloc ?_ _)); exact BK261.out) hg (Kd.R_away HO_6.out (fun _ hk => hk))); have n1_ := Aside0.mk (hb); have n2_ := Aside0.mk (ho); clear BK261; clear HB; clear HO_6; have BK261 := n0_; have HB := n1_; have HO278 := n2_; clear n0_ n1_ n2_; clear ho hb hg hat))
                       go_roundg kj50
                       case measure => have := HJ1.out; have := HK2.out; have := HJ50.out; omega
                       case rel => exact ⟨(x5_2.extract ((x5_2.size : Int) : Int).toNat x5_2.size), (y276), (wrap64 (x7_2 + 1)), (by first | rfl | (simp; done) | (simp [*]; done)), (by first | rfl | (simp; done) | (simp [*]; done)), H', ⟨by have := HJ1.out; have := HK2.out; have := HJ50.out; omega⟩, ⟨by (with_reducible repeat (first | apply Kd.R_alloc | apply Kd.R_drewN | apply Kd.R_drew)); exact Kd.R_mono HO278.out (fun _ hk => trivial)⟩, ⟨by repeat (first | (with_reducible first | exact HB.out | apply below_alloc | apply pw_below_drewN | apply below_drew1 | refine below_set ?_ GE261.out) | exact HB.out)⟩⟩
                      ·
                       rw [if_neg c70] at H
                       exact absurd H (by simp)
                     ·
                      rw [if_neg c69] at H
                      exact absurd H (by simp)
                    ·
                     rw [if_neg c68] at H
                     exact absurd H (by simp)
                  ·
                   rw [if_neg c59] at H
                   have c59b0 : decide ((x5_2.size : Int) < x9_50) = false := decide_eq_false c59
                   clear c59
                   by_cases c73 : x9_50 > 0
                   ·
                    rw [if_pos c73] at H
                    have c73b0 : decide (0 < x9_50) = true := decide_eq_true c73
                    clear c73
                    by_cases c74 : 1 ≤ x9_50
                    ·
                     rw [if_pos c74] at H
                     have c74b0 := eq_true c74
                     have c74b1 : decide (1 ≤ x9_50) = true := decide_eq_true c74
                     clear c74
                     by_cases c75 : x9_50 ≤ (x5_2.size : Int)
                     ·
                      rw [if_pos c75] at H
                      have c75b0 := eq_true c75
                      have c75b1 : decide (x9_50 ≤ (x5_2.size : Int)) = true := decide_eq_true c75
                      clear c75
                      by_cases c76 : 0 ≤ x9_50
                      ·
                       rw [if_pos c76] at H
                       have c76b0 := eq_true c76
                       have c76b1 : decide (0 ≤ x9_50) = true := decide_eq_true c76
                       clear c76
                       have c77b0 := eq_true (of_decide_eq_true (by first | (with_reducible assumption) | assumption) : x9_50 ≤ (x5_2.size : Int))
                       by_cases c78 : x6_2.length < 4398046511104
                       ·
                        rw [if_pos c78] at H
                        have LMc78 := Aside0.mk c78
                        clear c78
                        obtain ⟨y279, hy279⟩ : ∃ y_ : List (S25), y_ = (x6_2 ++ [(⟨(Int.tmod (wrap64 (ji21)) 4), 0, x5_2.extract 1 (x9_50 : Int).toNat⟩ : S25)]) := ⟨_, rfl⟩
                        replace H : (unisonref03_Decode.l0 kj50 a0 (wrap64 (bt a0 0)) (x5_2.extract (x9_50 : Int).toNat x5_2.size) y279 (wrap64 (x7_2 + 1))) = some (r1, r2) := by first | (rw [hy279]; with_reducible exact H) | (have H2_ := (Option.bind_some _ _).symm.trans H; rw [hy279]; with_reducible exact H2_) | (have H2_ := (Option.bind_some _ _).symm.trans H; with_reducible exact H2_) | with_reducible exact H | (rw [hy279]; exact H) | exact H
                        have Ny279 := Aside0.mk hy279
                        clear hy279
                        have H' := Aside0.mk H
                        clear H
                        have hcz79_0 : wc.cell? ⟨gb261, 0, none⟩ = some (.int .i64 (Int.tmod (wrap64 (ji21)) 4)) := (blk_cell BK261.out 0).trans rfl
                        have hcz79_1 : wc.cell? ⟨gb261, 1, none⟩ = some (.int .i64 0) := (blk_cell BK261.out 1).trans rfl
                        have hcz79_2 : wc.cell? ⟨gb261, 2, none⟩ = some (.string (⟨#[]⟩ : ByteArray)) := (blk_cell BK261.out 2).trans rfl
                        have hfz79_0 := blk_frozen BK261.out 0
                        have hfz79_1 := blk_frozen BK261.out 1
                        have hfz79_2 := blk_frozen BK261.out 2
                        go_wp2_with (first | ((with_reducible refine gate_builtin (b := .append) (xs := #[.tmp 105, .tmp 107]) rfl ?_); (try (refine gate_guard (by rfl) ?_; dsimp only)); at_builtin; refine Kd.R_append k25 (w0 := w) w.heap.size rfl (.tmp 105) (.tmp 107) 22 25 (.agg #[(.int .i64 0), (.int .i64 0), (.string ⟨#[]⟩)]) 32 rfl Try.underlying22 info25 rfl (by decide) (by omega) u6 x6_2 (⟨(Int.tmod (wrap64 (ji21)) 4), 0, x5_2.extract 1 (x9_50 : Int).toNat⟩ : S25) [.int .i64 (Int.tmod (wrap64 (ji21)) 4), .int .i64 0, .string (x5_2.extract 1 (x9_50 : Int).toNat)] (fun k_ => k_ ≠ gb261) (fun _ => False) rfl (by first | (go_simp; done) | (go_simp; rfl)) ?aP (fun _ hk => hk.elim) ?aF ?aO ?aB ?aS ?aL ?_; (case aP => exact k25_mkM _ _ _ (⟨(Int.tmod (wrap64 (ji21)) 4), 0, x5_2.extract 1 (x9_50 : Int).toNat⟩ : S25)); (case aB => exact (by repeat (first | (with_reducible first | exact HB.out | apply below_alloc | apply pw_below_drewN | apply below_drew1 | refine below_set ?_ GE261.out) | exact HB.out))); (case aF => exact (fun k_ hk => Kd.freshB (g := gb261) (o := .cells #[.int .i64 (Int.tmod (wrap64 (ji21)) 4), .int .i64 0, .string (x5_2.extract 1 (x9_50 : Int).toNat)] 25 (0, 0)) (by (with_reducible repeat (first | refine blk_drewN ?_ _ | refine blk_drew ?_ | refine blk_alloc ?_ _)); refine blk_put (cs := #[.int .i64 (Int.tmod (wrap64 (ji21)) 4), .int .i64 0, .string (⟨#[]⟩ : ByteArray)]) ?_ 2 _ rfl; (with_reducible repeat (first | refine blk_drewN ?_ _ | refine blk_drew ?_ | refine blk_alloc ?_ _)); exact BK261.out) k_ hk)); (case aO => exact (by (with_reducible repeat (first | apply Kd.R_alloc | apply Kd.R_drewN | apply Kd.R_drew)); exact Kd.R_mono (Kd.R_far (p := ⟨gb261, 2, none⟩) (Kd.R_mono HO_6.out (fun k_ hk => (⟨hk, hk⟩ : _ ∧ k_ ≠ gb261))) (fun _ hk => hk.2) (.string (x5_2.extract 1 (x9_50 : Int).toNat))) (fun _ hk => hk.1))); (case aS => exact (below_size (by repeat (first | (with_reducible first | exact HB.out | apply below_alloc | apply pw_below_drewN | apply below_drew1 | refine below_set ?_ GE261.out) | exact HB.out)))); (case aL => have := LMc78.out; omega); intro v280 w80 ho hb hg hat; rw [← Ny279.out] at ho; have n0_ := Aside0.mk (blk_grown (g := gb261) (o := .cells #[.int .i64 (Int.tmod (wrap64 (ji21)) 4), .int .i64 0, .string (x5_2.extract 1 (x9_50 : Int).toNat)] 25 (0, 0)) (by (with_reducible repeat (first | refine blk_drewN ?_ _ | refine blk_drew ?_ | refine blk_alloc ?_ _)); refine blk_put (cs := #[.int .i64 (Int.tmod (wrap64 (ji21)) 4), .int .i64 0, .string (⟨#[]⟩ : ByteArray)]) ?_ 2 _ rfl; (with_reducible repeat (first | refine blk_drewN ?_ _ | refine blk_drew ?_ | refine blk_alloc ?_ _)); exact BK261.out) hg (Kd.R_away HO_6.out (fun _ hk => hk))); have n1_ := Aside0.mk (hb); have n2_ := Aside0.mk (ho); clear BK261; clear HB; clear HO_6; have BK261 := n0_; have HB := n1_; have HO281 := n2_; clear n0_ n1_ n2_; clear ho hb hg hat))
                        go_roundg kj50
                        case measure => have := HJ1.out; have := HK2.out; have := HJ50.out; omega
                        case rel => exact ⟨(x5_2.extract (x9_50 : Int).toNat x5_2.size), (y279), (wrap64 (x7_2 + 1)), (by first | rfl | (simp; done) | (simp [*]; done)), (by first | rfl | (simp; done) | (simp [*]; done)), H', ⟨by have := HJ1.out; have := HK2.out; have := HJ50.out; omega⟩, ⟨by (with_reducible repeat (first | apply Kd.R_alloc | apply Kd.R_drewN | apply Kd.R_drew)); exact Kd.R_mono HO281.out (fun _ hk => trivial)⟩, ⟨by repeat (first | (with_reducible first | exact HB.out | apply below_alloc | apply pw_below_drewN | apply below_drew1 | refine below_set ?_ GE261.out) | exact HB.out)⟩⟩
                       ·
                        rw [if_neg c78] at H
                        exact absurd H (by simp)
                      ·
                       rw [if_neg c76] at H
                       exact absurd H (by simp)
                     ·
                      rw [if_neg c75] at H
                      exact absurd H (by simp)
                    ·
                     rw [if_neg c74] at H
                     exact absurd H (by simp)
                   ·
                    rw [if_neg c73] at H
                    have c73b0 : decide (0 < x9_50) = false := decide_eq_false c73
                    clear c73
                    by_cases c81 : 0 ≤ x9_50
                    ·
                     rw [if_pos c81] at H
                     have c81b0 := eq_true c81
                     have c81b1 : decide (0 ≤ x9_50) = true := decide_eq_true c81
                     clear c81
                     by_cases c82 : x9_50 ≤ (x5_2.size : Int)
                     ·
                      rw [if_pos c82] at H
                      have c82b0 := eq_true c82
                      have c82b1 : decide (x9_50 ≤ (x5_2.size : Int)) = true := decide_eq_true c82
                      clear c82
                      by_cases c83 : x6_2.length < 4398046511104
                      ·
                       rw [if_pos c83] at H
                       have LMc83 := Aside0.mk c83
                       clear c83
                       obtain ⟨y282, hy282⟩ : ∃ y_ : List (S25), y_ = (x6_2 ++ [(⟨(Int.tmod (wrap64 (ji21)) 4), 0, (⟨#[]⟩ : ByteArray)⟩ : S25)]) := ⟨_, rfl⟩
                       replace H : (unisonref03_Decode.l0 kj50 a0 (wrap64 (bt a0 0)) (x5_2.extract (x9_50 : Int).toNat x5_2.size) y282 (wrap64 (x7_2 + 1))) = some (r1, r2) := by first | (rw [hy282]; with_reducible exact H) | (have H2_ := (Option.bind_some _ _).symm.trans H; rw [hy282]; with_reducible exact H2_) | (have H2_ := (Option.bind_some _ _).symm.trans H; with_reducible exact H2_) | with_reducible exact H | (rw [hy282]; exact H) | exact H
                       have Ny282 := Aside0.mk hy282
                       clear hy282
                       have H' := Aside0.mk H
                       clear H
                       have hcz84_0 : wc.cell? ⟨gb261, 0, none⟩ = some (.int .i64 (Int.tmod (wrap64 (ji21)) 4)) := (blk_cell BK261.out 0).trans rfl
                       have hcz84_1 : wc.cell? ⟨gb261, 1, none⟩ = some (.int .i64 0) := (blk_cell BK261.out 1).trans rfl
                       have hcz84_2 : wc.cell? ⟨gb261, 2, none⟩ = some (.string (⟨#[]⟩ : ByteArray)) := (blk_cell BK261.out 2).trans rfl
                       have hfz84_0 := blk_frozen BK261.out 0
                       have hfz84_1 := blk_frozen BK261.out 1
                       have hfz84_2 := blk_frozen BK261.out 2
                       go_wp2_with (first | ((with_reducible refine gate_builtin (b := .append) (xs := #[.tmp 105, .tmp 107]) rfl ?_); (try (refine gate_guard (by rfl) ?_; dsimp only)); at_builtin; refine Kd.R_append k25 (w0 := w) w.heap.size rfl (.tmp 105) (.tmp 107) 22 25 (.agg #[(.int .i64 0), (.int .i64 0), (.string ⟨#[]⟩)]) 32 rfl Try.underlying22 info25 rfl (by decide) (by omega) u6 x6_2 (⟨(Int.tmod (wrap64 (ji21)) 4), 0, (⟨#[]⟩ : ByteArray)⟩ : S25) [.int .i64 (Int.tmod (wrap64 (ji21)) 4), .int .i64 0, .string (⟨#[]⟩ : ByteArray)] (fun k_ => k_ ≠ gb261) (fun _ => False) rfl rfl ?aP (fun _ hk => hk.elim) ?aF ?aO ?aB ?aS ?aL ?_; (case aP => exact k25_mkM _ _ _ (⟨(Int.tmod (wrap64 (ji21)) 4), 0, (⟨#[]⟩ : ByteArray)⟩ : S25)); (case aB => exact (by repeat (first | (with_reducible first | exact HB.out | apply below_alloc | apply pw_below_drewN | apply below_drew1 | refine below_set ?_ GE261.out) | exact HB.out))); (case aF => exact (fun k_ hk => Kd.freshB (g := gb261) (o := .cells #[.int .i64 (Int.tmod (wrap64 (ji21)) 4), .int .i64 0, .string (⟨#[]⟩ : ByteArray)] 25 (0, 0)) (by (with_reducible repeat (first | refine blk_drewN ?_ _ | refine blk_drew ?_ | refine blk_alloc ?_ _)); exact BK261.out) k_ hk)); (case aO => exact (by (with_reducible repeat (first | apply Kd.R_alloc | apply Kd.R_drewN | apply Kd.R_drew)); exact HO_6.out)); (case aS => exact (below_size (by repeat (first | (with_reducible first | exact HB.out | apply below_alloc | apply pw_below_drewN | apply below_drew1 | refine below_set ?_ GE261.out) | exact HB.out)))); (case aL => have := LMc83.out; omega); intro v283 w85 ho hb hg hat; rw [← Ny282.out] at ho; have n0_ := Aside0.mk (blk_grown (g := gb261) (o := .cells #[.int .i64 (Int.tmod (wrap64 (ji21)) 4), .int .i64 0, .string (⟨#[]⟩ : ByteArray)] 25 (0, 0)) (by (with_reducible repeat (first | refine blk_drewN ?_ _ | refine blk_drew ?_ | refine blk_alloc ?_ _)); exact BK261.out) hg (Kd.R_away HO_6.out (fun _ hk => hk))); have n1_ := Aside0.mk (hb); have n2_ := Aside0.mk (ho); clear BK261; clear HB; clear HO_6; have BK261 := n0_; have HB := n1_; have HO284 := n2_; clear n0_ n1_ n2_; clear ho hb hg hat))
                       go_roundg kj50
                       case measure => have := HJ1.out; have := HK2.out; have := HJ50.out; omega
                       case rel => exact ⟨(x5_2.extract (x9_50 : Int).toNat x5_2.size), (y282), (wrap64 (x7_2 + 1)), (by first | rfl | (simp; done) | (simp [*]; done)), (by first | rfl | (simp; done) | (simp [*]; done)), H', ⟨by have := HJ1.out; have := HK2.out; have := HJ50.out; omega⟩, ⟨by (with_reducible repeat (first | apply Kd.R_alloc | apply Kd.R_drewN | apply Kd.R_drew)); exact Kd.R_mono HO284.out (fun _ hk => trivial)⟩, ⟨by repeat (first | (with_reducible first | exact HB.out | apply below_alloc | apply pw_below_drewN | apply below_drew1 | refine below_set ?_ GE261.out) | exact HB.out)⟩⟩
                      ·
                       rw [if_neg c83] at H
                       exact absurd H (by simp)
                     ·
                      rw [if_neg c82] at H
                      exact absurd H (by simp)
                    ·
                     rw [if_neg c81] at H
                     exact absurd H (by simp)
               ·
                rw [if_neg c50] at H
                have c50b0 : ((Int.tmod (wrap64 (ji21)) 4) == 3) = false := beq_eq_false_iff_ne.mpr c50
                have c50b1 : ((Int.tmod (wrap64 (ji21)) 4) != 3) = true := bne_iff_ne.mpr c50
                by_cases c86 : 0 ≤ (x5_2.size : Int)
                ·
                 rw [if_pos c86] at H
                 have c86b0 := eq_true c86
                 have c86b1 : decide (0 ≤ (x5_2.size : Int)) = true := decide_eq_true c86
                 clear c86
                 by_cases c87 : x6_2.length < 4398046511104
                 ·
                  rw [if_pos c87] at H
                  have LMc87 := Aside0.mk c87
                  clear c87
                  obtain ⟨y285, hy285⟩ : ∃ y_ : List (S25), y_ = (x6_2 ++ [(⟨Int.tmod (wrap64 (ji21)) 4, 0, (⟨#[]⟩ : ByteArray)⟩ : S25)]) := ⟨_, rfl⟩
                  replace H : (unisonref03_Decode.l0 k2 a0 (wrap64 (bt a0 0)) (x5_2.extract 0 x5_2.size) y285 (wrap64 (x7_2 + 1))) = some (r1, r2) := by first | (rw [hy285]; with_reducible exact H) | (have H2_ := (Option.bind_some _ _).symm.trans H; rw [hy285]; with_reducible exact H2_) | (have H2_ := (Option.bind_some _ _).symm.trans H; with_reducible exact H2_) | with_reducible exact H | (rw [hy285]; exact H) | exact H
                  have Ny285 := Aside0.mk hy285
                  clear hy285
                  have H' := Aside0.mk H
                  clear H
                  have p18 : 0 ≤ ((ji15) : Int) := of_decide_eq_true (by first | (with_reducible assumption) | assumption)
                  have q18 : (ji15) < (a0.size : Int) := of_decide_eq_true (by first | (with_reducible assumption) | assumption)
                  have hx18 := bt_at a0 (ji15)
                  replace p18 := eq_true p18
                  replace q18 := eq_true q18
                  go_wp2_with (first | ((with_reducible refine gate_dst (N := 8) rfl ?_); (try (refine gate_guard (by rfl) ?_; dsimp only)); refine box_event ?hg (N := 8) ?hd (cs := #[.int .i64 0, .int .i64 0, .string (⟨#[]⟩ : ByteArray)]) (t := 25) ?hr ?_; (case hd => rfl); (case hg => rfl); (case hr => first | (go_simp; done) | (go_simp; rfl)); intro gb261 hg w88 hbox hb; have n0_ := Aside0.mk (Kd.R_below (Kd.R_elderB (by (with_reducible repeat (first | apply Kd.R_alloc | apply Kd.R_drewN | apply Kd.R_drew)); exact HO_6.out) gb261 (Nat.le_of_eq hg.symm)) hb); have n1_ := Aside0.mk (below_step (by repeat (first | (with_reducible first | exact HB.out | apply below_alloc | apply pw_below_drewN | apply below_drew1) | exact HB.out)) hb); have n2_ := Aside0.mk (hbox); have n3_ := Aside0.mk ((by rw [hg]; exact (below_size (by repeat (first | (with_reducible first | exact HB.out | apply below_alloc | apply pw_below_drewN | apply below_drew1) | exact HB.out))) : w.heap.size ≤ gb261)); have n4_ := Aside0.mk ((by rw [hg]; exact (below_size (by repeat (first | (with_reducible first | exact HB.out | apply below_alloc | apply pw_below_drewN | apply below_drew1) | exact HB.out))) : w.heap.size ≤ gb261)); clear HO_6; clear HB; have HO_6 := n0_; have HB := n1_; have BK261 := n2_; have GW261 := n3_; have GE261 := n4_; clear n0_ n1_ n2_ n3_ n4_; clear hb hbox hg; have hcz89_0 : w88.cell? ⟨gb261, 0, none⟩ = some (.int .i64 0) := (blk_cell BK261.out 0).trans rfl; have hcz89_1 : w88.cell? ⟨gb261, 1, none⟩ = some (.int .i64 0) := (blk_cell BK261.out 1).trans rfl; have hcz89_2 : w88.cell? ⟨gb261, 2, none⟩ = some (.string (⟨#[]⟩ : ByteArray)) := (blk_cell BK261.out 2).trans rfl; have hfz89_0 := blk_frozen BK261.out 0; have hfz89_1 := blk_frozen BK261.out 1; have hfz89_2 := blk_frozen BK261.out 2) | ((with_reducible refine gate_store (t := 25) (p := 8) rfl ?_); refine store_event (t := 25) (p := 8) (v := ?vo_w90) (w1 := (((w88.setCell ⟨gb261, 0, none⟩ (.int .i64 (Int.tmod (wrap64 (ji21)) 4))).setCell ⟨gb261, 1, none⟩ (.int .i64 0)).setCell ⟨gb261, 2, none⟩ (.string (⟨#[]⟩ : ByteArray)))) ?hg ?ho ?hn ?hr ?_; (case ho => rfl); (case hg => rfl); (case hn => rfl); (case hr => first | (go_simp; done) | (go_simp; rfl)); intro w90 hw; have n0_ : Aside0 (Kd.R k25 25 w90 w.heap.size (fun k_ => k_ ≠ gb261) u6 x6_2) := ⟨(by rw [hw]; exact (by (with_reducible repeat (first | apply Kd.R_alloc | apply Kd.R_drewN | apply Kd.R_drew)); exact Kd.R_mono (Kd.R_far (p := ⟨gb261, 2, none⟩) (Kd.R_far (p := ⟨gb261, 1, none⟩) (Kd.R_far (p := ⟨gb261, 0, none⟩) (Kd.R_mono HO_6.out (fun k_ hk => (⟨hk, hk.2⟩ : _ ∧ k_ ≠ gb261))) (fun _ hk => hk.2) (.int .i64 (Int.tmod (wrap64 (ji21)) 4))) (fun _ hk => hk.2) (.int .i64 0)) (fun _ hk => hk.2) (.string (⟨#[]⟩ : ByteArray))) (fun _ hk => hk.1.2)))⟩; have n1_ : Aside0 (w90.heap[gb261]? = some (.cells #[.int .i64 (Int.tmod (wrap64 (ji21)) 4), .int .i64 0, .string (⟨#[]⟩ : ByteArray)] 25 (0, 0))) := ⟨(by rw [hw]; exact (by (with_reducible repeat (first | refine blk_drewN ?_ _ | refine blk_drew ?_ | refine blk_alloc ?_ _)); refine blk_put (cs := #[.int .i64 (Int.tmod (wrap64 (ji21)) 4), .int .i64 0, .string (⟨#[]⟩ : ByteArray)]) ?_ 2 _ rfl; (with_reducible repeat (first | refine blk_drewN ?_ _ | refine blk_drew ?_ | refine blk_alloc ?_ _)); refine blk_put (cs := #[.int .i64 (Int.tmod (wrap64 (ji21)) 4), .int .i64 0, .string (⟨#[]⟩ : ByteArray)]) ?_ 1 _ rfl; (with_reducible repeat (first | refine blk_drewN ?_ _ | refine blk_drew ?_ | refine blk_alloc ?_ _)); refine blk_put (cs := #[.int .i64 0, .int .i64 0, .string (⟨#[]⟩ : ByteArray)]) ?_ 0 _ rfl; (with_reducible repeat (first | refine blk_drewN ?_ _ | refine blk_drew ?_ | refine blk_alloc ?_ _)); exact BK261.out))⟩; have n2_ : Aside0 (Below w.heap.size w w90) := ⟨(by rw [hw]; exact (by repeat (first | (with_reducible first | exact HB.out | apply below_alloc | apply pw_below_drewN | apply below_drew1 | refine below_set ?_ GE261.out) | exact HB.out)))⟩; clear hw; clear HO_6; clear BK261; clear HB; have HO_6 := n0_; have BK261 := n1_; have HB := n2_; clear n0_ n1_ n2_; have hcz91_0 : w90.cell? ⟨gb261, 0, none⟩ = some (.int .i64 (Int.tmod (wrap64 (ji21)) 4)) := (blk_cell BK261.out 0).trans rfl; have hcz91_1 : w90.cell? ⟨gb261, 1, none⟩ = some (.int .i64 0) := (blk_cell BK261.out 1).trans rfl; have hcz91_2 : w90.cell? ⟨gb261, 2, none⟩ = some (.string (⟨#[]⟩ : ByteArray)) := (blk_cell BK261.out 2).trans rfl; have hfz91_0 := blk_frozen BK261.out 0; have hfz91_1 := blk_frozen BK261.out 1; have hfz91_2 := blk_frozen BK261.out 2) | ((with_reducible refine gate_builtin (b := .append) (xs := #[.tmp 105, .tmp 107]) rfl ?_); (try (refine gate_guard (by rfl) ?_; dsimp only)); at_builtin; refine Kd.R_append k25 (w0 := w) w.heap.size rfl (.tmp 105) (.tmp 107) 22 25 (.agg #[(.int .i64 0), (.int .i64 0), (.string ⟨#[]⟩)]) 32 rfl Try.underlying22 info25 rfl (by decide) (by omega) u6 x6_2 (⟨Int.tmod (wrap64 (ji21)) 4, 0, (⟨#[]⟩ : ByteArray)⟩ : S25) [.int .i64 (Int.tmod (wrap64 (ji21)) 4), .int .i64 0, .string (⟨#[]⟩ : ByteArray)] (fun k_ => k_ ≠ gb261) (fun _ => False) rfl rfl ?aP (fun _ hk => hk.elim) ?aF ?aO ?aB ?aS ?aL ?_; (case aP => exact k25_mkM _ _ _ (⟨Int.tmod (wrap64 (ji21)) 4, 0, (⟨#[]⟩ : ByteArray)⟩ : S25)); (case aB => exact (by repeat (first | (with_reducible first | exact HB.out | apply below_alloc | apply pw_below_drewN | apply below_drew1 | refine below_set ?_ GE261.out) | exact HB.out))); (case aF => exact (fun k_ hk => Kd.freshB (g := gb261) (o := .cells #[.int .i64 (Int.tmod (wrap64 (ji21)) 4), .int .i64 0, .string (⟨#[]⟩ : ByteArray)] 25 (0, 0)) (by (with_reducible repeat (first | refine blk_drewN ?_ _ | refine blk_drew ?_ | refine blk_alloc ?_ _)); exact BK261.out) k_ hk)); (case aO => exact (by (with_reducible repeat (first | apply Kd.R_alloc | apply Kd.R_drewN | apply Kd.R_drew)); exact HO_6.out)); (case aS => exact (below_size (by repeat (first | (with_reducible first | exact HB.out | apply below_alloc | apply pw_below_drewN | apply below_drew1 | refine below_set ?_ GE261.out) | exact HB.out)))); (case aL => have := LMc87.out; omega); intro v286 w92 ho hb hg hat; rw [← Ny285.out] at ho; have n0_ := Aside0.mk (blk_grown (g := gb261) (o := .cells #[.int .i64 (Int.tmod (wrap64 (ji21)) 4), .int .i64 0, .string (⟨#[]⟩ : ByteArray)] 25 (0, 0)) (by (with_reducible repeat (first | refine blk_drewN ?_ _ | refine blk_drew ?_ | refine blk_alloc ?_ _)); exact BK261.out) hg (Kd.R_away HO_6.out (fun _ hk => hk))); have n1_ := Aside0.mk (hb); have n2_ := Aside0.mk (ho); clear BK261; clear HB; clear HO_6; have BK261 := n0_; have HB := n1_; have HO287 := n2_; clear n0_ n1_ n2_; clear ho hb hg hat))
                  go_roundg k2
                  case measure => have := HJ1.out; have := HK2.out; omega
                  case rel => exact ⟨(x5_2.extract 0 x5_2.size), (y285), (wrap64 (x7_2 + 1)), (by first | rfl | (simp; done) | (simp [*]; done)), (by first | rfl | (simp; done) | (simp [*]; done)), H', ⟨by have := HJ1.out; have := HK2.out; omega⟩, ⟨by (with_reducible repeat (first | apply Kd.R_alloc | apply Kd.R_drewN | apply Kd.R_drew)); exact Kd.R_mono HO287.out (fun _ hk => trivial)⟩, ⟨by repeat (first | (with_reducible first | exact HB.out | apply below_alloc | apply pw_below_drewN | apply below_drew1 | refine below_set ?_ GE261.out) | exact HB.out)⟩⟩
                 ·
                  rw [if_neg c87] at H
                  exact absurd H (by simp)
                ·
                 rw [if_neg c86] at H
                 exact absurd H (by simp)
            ·
             rw [if_neg c20] at H
             exact absurd H (by simp)
           ·
            rw [if_neg c17] at H
            exact absurd H (by simp)
          ·
           rw [if_neg c16] at H
           exact absurd H (by simp)
         ·
          rw [if_neg c14] at H
          have c14b0 : decide (x7_2 < (wrap64 (bt a0 0))) = false := decide_eq_false c14
          clear c14
          replace H := Option.bind_eq_some_iff.mp H
          obtain ⟨⟨t259, t260⟩, A930, H⟩ := H
          replace H : (if t260 = 0 then (if t259.toList = a0.toList then (some (x6_2, 0)) else (some (([] : List (S25)), 30))) else (some (([] : List (S25)), 30))) = some (r1, r2) := H
          have A93 := Aside0.mk A930
          clear A930
          by_cases c94 : t260 = 0
          ·
           rw [if_pos c94] at H
           have c94b0 : (t260 == 0) = true := beq_iff_eq.mpr c94
           have c94b1 : (t260 != 0) = false := bne_eq_false_iff_eq.mpr c94
           clear c94
           by_cases c95 : t259.toList = a0.toList
           ·
            rw [if_pos c95] at H
            have c95b0 : (t259.toList == a0.toList) = true := beq_iff_eq.mpr c95
            have c95b1 : (t259.toList != a0.toList) = false := bne_eq_false_iff_eq.mpr c95
            clear c95
            simp only [Option.some.injEq, Prod.mk.injEq] at H
            obtain ⟨rfl, rfl⟩ := H
            obtain ⟨Ao96, co96, eo96⟩ := Kd.R_slice HO_6.out
            subst eo96
            go_wp2_with (first | ((with_reducible refine gate_callee (f := 9) rfl ?_); refine goesL_ (some 111) rfl rfl Try.func9 (by kernel_rfl) rfl #[.slice Ao96 x6_2.length co96] rfl (by (try simp only [List.map_toArray, List.map_cons, List.map_nil]); first | done | rfl | (simp only [List.length_drop, List.length_take]; rfl)) ?_; (with_reducible refine (unisonref03_Encode.calls k2 _ _ x6_2 t259 t260 _ ?side1 ?side2 A93.out).mono ?_); (case side1 => repeat (first | exact (Kd.R_reads' HO_6.out).2.2 | (with_reducible refine Kd.C_alloc ?_ _) | (with_reducible refine Kd.C_drewN ?_ _) | (with_reducible refine Kd.C_drew ?_))); (case side2 => exact (Kd.R_reads' HO_6.out).2.1); rintro e w97 ⟨rfl, hb⟩; refine ⟨_, rfl, ?_⟩; have n0_ := Aside0.mk (Kd.R_below (by (with_reducible repeat (first | apply Kd.R_alloc | apply Kd.R_drewN | apply Kd.R_drew)); exact HO_6.out) hb); have n1_ := Aside0.mk (below_step (by repeat (first | (with_reducible first | exact HB.out | apply below_alloc | apply pw_below_drewN | apply below_drew1) | exact HB.out)) hb); clear HO_6; clear HB; have HO_6 := n0_; have HB := n1_; clear n0_ n1_; (try clear hb); (try clear hb2); (try clear hk); (try clear hi)))
            go_ret2
            exact ⟨_, by first | rfl | (simp [errW_none, errW_some] <;> rfl) | (simp only [← hji11]; first | rfl | (simp [errW_none, errW_some] <;> rfl)) | (simp [*, errW_none, errW_some] <;> rfl), by (with_reducible repeat (first | apply Kd.R_alloc | apply Kd.R_drewN | apply Kd.R_drew)); exact HO_6.out, by repeat (first | (with_reducible first | exact HB.out | apply below_alloc | apply pw_below_drewN | apply below_drew1) | exact HB.out)⟩
           ·
            rw [if_neg c95] at H
            have c95b0 : (t259.toList == a0.toList) = false := beq_eq_false_iff_ne.mpr c95
            have c95b1 : (t259.toList != a0.toList) = true := bne_iff_ne.mpr c95
            simp only [Option.some.injEq, Prod.mk.injEq] at H
            obtain ⟨rfl, rfl⟩ := H
            obtain ⟨Ao98, co98, eo98⟩ := Kd.R_slice HO_6.out
            subst eo98
            go_wp2_with (first | ((with_reducible refine gate_callee (f := 9) rfl ?_); refine goesL_ (some 111) rfl rfl Try.func9 (by kernel_rfl) rfl #[.slice Ao98 x6_2.length co98] rfl (by (try simp only [List.map_toArray, List.map_cons, List.map_nil]); first | done | rfl | (simp only [List.length_drop, List.length_take]; rfl)) ?_; (with_reducible refine (unisonref03_Encode.calls k2 _ _ x6_2 t259 t260 _ ?side1 ?side2 A93.out).mono ?_); (case side1 => repeat (first | exact (Kd.R_reads' HO_6.out).2.2 | (with_reducible refine Kd.C_alloc ?_ _) | (with_reducible refine Kd.C_drewN ?_ _) | (with_reducible refine Kd.C_drew ?_))); (case side2 => exact (Kd.R_reads' HO_6.out).2.1); rintro e w99 ⟨rfl, hb⟩; refine ⟨_, rfl, ?_⟩; have n0_ := Aside0.mk (Kd.R_below (by (with_reducible repeat (first | apply Kd.R_alloc | apply Kd.R_drewN | apply Kd.R_drew)); exact HO_6.out) hb); have n1_ := Aside0.mk (below_step (by repeat (first | (with_reducible first | exact HB.out | apply below_alloc | apply pw_below_drewN | apply below_drew1) | exact HB.out)) hb); clear HO_6; clear HB; have HO_6 := n0_; have HB := n1_; clear n0_ n1_; (try clear hb); (try clear hb2); (try clear hk); (try clear hi)))
            go_ret2
            exact ⟨_, by first | rfl | (simp [errW_none, errW_some] <;> rfl) | (simp only [← hji11]; first | rfl | (simp [errW_none, errW_some] <;> rfl)) | (simp [*, errW_none, errW_some] <;> rfl), by first | exact Kd.R_nil _ _ _ _ _ | exact Kd.N_nil _ _ _ _ _ | exact Kd.V_nil _ _ _ _ _ | exact Kd.Q_nil _ _ _ _ _ | exact Kd.S_nil _ _ _ _ _, by repeat (first | (with_reducible first | exact HB.out | apply below_alloc | apply pw_below_drewN | apply below_drew1) | exact HB.out)⟩
          ·
           rw [if_neg c94] at H
           have c94b0 : (t260 == 0) = false := beq_eq_false_iff_ne.mpr c94
           have c94b1 : (t260 != 0) = true := bne_iff_ne.mpr c94
           simp only [Option.some.injEq, Prod.mk.injEq] at H
           obtain ⟨rfl, rfl⟩ := H
           obtain ⟨Ao100, co100, eo100⟩ := Kd.R_slice HO_6.out
           subst eo100
           go_wp2_with (first | ((with_reducible refine gate_callee (f := 9) rfl ?_); refine goesL_ (some 111) rfl rfl Try.func9 (by kernel_rfl) rfl #[.slice Ao100 x6_2.length co100] rfl (by (try simp only [List.map_toArray, List.map_cons, List.map_nil]); first | done | rfl | (simp only [List.length_drop, List.length_take]; rfl)) ?_; (with_reducible refine (unisonref03_Encode.calls k2 _ _ x6_2 t259 t260 _ ?side1 ?side2 A93.out).mono ?_); (case side1 => repeat (first | exact (Kd.R_reads' HO_6.out).2.2 | (with_reducible refine Kd.C_alloc ?_ _) | (with_reducible refine Kd.C_drewN ?_ _) | (with_reducible refine Kd.C_drew ?_))); (case side2 => exact (Kd.R_reads' HO_6.out).2.1); rintro e w101 ⟨rfl, hb⟩; refine ⟨_, rfl, ?_⟩; have n0_ := Aside0.mk (Kd.R_below (by (with_reducible repeat (first | apply Kd.R_alloc | apply Kd.R_drewN | apply Kd.R_drew)); exact HO_6.out) hb); have n1_ := Aside0.mk (below_step (by repeat (first | (with_reducible first | exact HB.out | apply below_alloc | apply pw_below_drewN | apply below_drew1) | exact HB.out)) hb); clear HO_6; clear HB; have HO_6 := n0_; have HB := n1_; clear n0_ n1_; (try clear hb); (try clear hb2); (try clear hk); (try clear hi)))
           go_ret2
           exact ⟨_, by first | rfl | (simp [errW_none, errW_some] <;> rfl) | (simp only [← hji11]; first | rfl | (simp [errW_none, errW_some] <;> rfl)) | (simp [*, errW_none, errW_some] <;> rfl), by first | exact Kd.R_nil _ _ _ _ _ | exact Kd.N_nil _ _ _ _ _ | exact Kd.V_nil _ _ _ _ _ | exact Kd.Q_nil _ _ _ _ _ | exact Kd.S_nil _ _ _ _ _, by repeat (first | (with_reducible first | exact HB.out | apply below_alloc | apply pw_below_drewN | apply below_drew1) | exact HB.out)⟩
      ·
       rw [if_neg c13] at H
       exact absurd H (by simp)
     ·
      rw [if_neg c12] at H
      exact absurd H (by simp)
    ·
     rw [if_neg c9] at H
     exact absurd H (by simp)

end Go.Proofs.Ytlgobbofiingnaa.PA
