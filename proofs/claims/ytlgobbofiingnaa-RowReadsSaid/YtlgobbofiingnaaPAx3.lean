-- Laid by a program of ours (wip/gen/xprint.py). Not trusted: Lean checks it.
import Derived.Test.YtlgobbofiingnaaPAx0
import Derived.Test.YtlgobbofiingnaaPAx2
namespace Go.Proofs.Ytlgobbofiingnaa.PA
open Go.RowKit Go.Proofs.YtlgobbofiingnaaW.PrintWords Go.Proofs.YtlgobbofiingnaaW.PrintLast Go.Proofs.YtlgobbofiingnaaW.PrintMore Go.Proofs.YtlgobbofiingnaaX
attribute [local go_sem] max2_int min2_int max_two min_two max_three min_three max_four min_four   -- for this text's walks alone
set_option linter.unusedVariables false
set_option linter.unusedSimpArgs false

/-! ### row_Encode: function 8 -/
def row_Encode.l0 : Nat → List Int → List (S25) → Int → Int → Option (ByteArray × Int)
 | 0, _, _, _, _ => none
 | k + 1, x4, x21, x22, x23 => if x23 < x22 then (if 0 ≤ x23 then (if x23 < (x21.length : Int) then ((value_Right.f ((rd_T25 x21 x23).f0) ((rd_T25 x21 x23).f1) ((rd_T25 x21 x23).f2)).bind fun t115 => (if t115 = true then (if 0 ≤ (wrap64 (1 + (wrap64 (Int.tdiv x23 4)))) then (if (wrap64 (1 + (wrap64 (Int.tdiv x23 4)))) < (x4.length : Int) then (if 0 ≤ (wrap64 ((Int.tmod x23 4) * 2)) then ((some (x4.set ((wrap64 (1 + (wrap64 (Int.tdiv x23 4)))) : Int).toNat (Go.bits .or .u8 (rd x4 (wrap64 (1 + (wrap64 (Int.tdiv x23 4))))) (shl .u8 (((rd_T25 x21 x23).f0) % 256) (wrap64 ((Int.tmod x23 4) * 2)))) : List Int)).bind fun y117 => (if ((rd_T25 x21 x23).f0) = 1 then ((row_number.f k y117 ((rd_T25 x21 x23).f1)).bind fun t118 => (row_Encode.l0 k t118 x21 x22 (wrap64 (x23 + 1)))) else (if ((rd_T25 x21 x23).f0) = 2 then (if y117.length < 140737488355328 then (row_Encode.l0 k (y117 ++ [((rd_T25 x21 x23).f1) % 256]) x21 x22 (wrap64 (x23 + 1))) else (none)) else (if ((rd_T25 x21 x23).f0) = 3 then (if y117.length < 140737488355328 then ((some (y117 ++ [((((rd_T25 x21 x23).f2).size : Int)) % 256] : List Int)).bind fun y124 => (if y124.length + ((rd_T25 x21 x23).f2).size < 140737488355328 then (row_Encode.l0 k (y124 ++ bytesOf ((rd_T25 x21 x23).f2)) x21 x22 (wrap64 (x23 + 1))) else (none))) else (none)) else (row_Encode.l0 k y117 x21 x22 (wrap64 (x23 + 1))))))) else (none)) else (none)) else (none)) else (some ((⟨#[]⟩ : ByteArray), 10)))) else (none)) else (none)) else (some (strOfNums x4, 0))
def row_Encode.f (k : Nat) (l0 : List (S25)) : Option (ByteArray × Int) := if (l0.length : Int) > 16 then (some ((⟨#[]⟩ : ByteArray), 2)) else (if 0 ≤ (wrap64 (1 + (wrap64 (Int.tdiv (wrap64 ((l0.length : Int) + 3)) 4)))) then (if (wrap64 (1 + (wrap64 (Int.tdiv (wrap64 ((l0.length : Int) + 3)) 4))) : Int).toNat ≤ 281474976710656 then ((some (List.replicate (wrap64 (1 + (wrap64 (Int.tdiv (wrap64 ((l0.length : Int) + 3)) 4))) : Int).toNat 0 : List Int)).bind fun y109 => (if 0 < (y109.length : Int) then (row_Encode.l0 k (y109.set (0 : Int).toNat (((l0.length : Int)) % 256)) l0 (l0.length : Int) 0) else (none))) else (none)) else (none))
theorem row_Encode.mono_l : ∀ k, (∀ y0 y1 y2 y3, LeO (row_Encode.l0 k y0 y1 y2 y3) (row_Encode.l0 (k + 1) y0 y1 y2 y3))
 | 0 => fun _ _ _ _ r h => by simp [row_Encode.l0] at h
 | k + 1 => by
  have ih0 := row_Encode.mono_l k
  ·
   intro y0 y1 y2 y3
   unfold row_Encode.l0
   repeat' first
   | (with_reducible exact ih0 _ _ _ _)
   | (with_reducible exact row_number.mono _ _ _)
   | (with_reducible exact LeO.refl _)
   | (with_reducible exact LeO.none _)
   | (with_reducible refine LeO.ite ?_ ?_)
   | (with_reducible refine LeO.bind ?_ (fun _ => ?_))
   | exact ih0 _ _ _ _
   | exact row_number.mono _ _ _
   | exact LeO.none _
   | refine LeO.ite ?_ ?_
   | refine LeO.bind ?_ (fun _ => ?_)
theorem row_Encode.mono : ∀ a0 k, LeO (row_Encode.f k a0) (row_Encode.f (k + 1) a0) := by
 intro a0 k
 have ih0 := row_Encode.mono_l k
 unfold row_Encode.f
 repeat' first
   | (with_reducible exact ih0 _ _ _ _)
   | (with_reducible exact row_number.mono _ _ _)
   | (with_reducible exact LeO.refl _)
   | (with_reducible exact LeO.none _)
   | (with_reducible refine LeO.ite ?_ ?_)
   | (with_reducible refine LeO.bind ?_ (fun _ => ?_))
   | exact ih0 _ _ _ _
   | exact row_number.mono _ _ _
   | exact LeO.none _
   | refine LeO.ite ?_ ?_
   | refine LeO.bind ?_ (fun _ => ?_)
def row_Encode.T10 : Bool × List (List Nat × List Nat) := (true, [([], []), ([], []), ([1], [1]), ([2], [2]), ([0, 3], [0, 3]), ([4], [4]), ([], []), ([6], [6]), ([7], [7]), ([], []), ([9], [9]), ([10], [10]), ([8, 11], [8, 11]), ([5, 12], [5, 12]), ([0, 3, 0, 1, 2, 3, 4, 5, 6, 7, 8, 9, 10, 11, 12, 13], [0, 3]), ([14, 13, 0, 1, 2, 3, 4, 5, 6, 7, 8, 9, 10, 11, 12, 13], [13, 14])])
def row_Encode.B10 : List Nat := [0, 0, 2, 6, 15, 31, 0, 64, 192, 0, 512, 1536, 4032, 8191, 16383, 32767]
theorem row_Encode.tab10 : rtab .any (opsOf Try.f8 10) = row_Encode.T10 := by kernel_rfl
theorem row_Encode.bits10 : waitsOk row_Encode.T10.2 row_Encode.B10 = true := by kernel_rfl
def row_Encode.T17 : Bool × List (List Nat × List Nat) := (true, [([], []), ([], []), ([1], [1]), ([2], [2]), ([3], [3]), ([4], [4]), ([0, 5], [0, 5]), ([], []), ([7], [7]), ([6, 8, 6], [6, 8]), ([9, 9, 0, 1, 2, 3, 4, 5, 6, 7, 8, 9], [0, 9])])
def row_Encode.B17 : List Nat := [0, 0, 2, 6, 14, 30, 63, 0, 128, 511, 1023]
theorem row_Encode.tab17 : rtab .any (opsOf Try.f8 17) = row_Encode.T17 := by kernel_rfl
theorem row_Encode.bits17 : waitsOk row_Encode.T17.2 row_Encode.B17 = true := by kernel_rfl
set_option maxHeartbeats 8000000 in
set_option maxRecDepth 100000 in
theorem row_Encode.calls (k : Nat) (A0 : Option Addr) (c0 : Nat) (l0 : List (S25)) (r1 : ByteArray) (r2 : Int) (w : World) (hr0 : Kd.C k25 w A0 l0.length l0) (hc0 : l0.length ≤ c0) (h : row_Encode.f k l0 = some (r1, r2)) :
  Calls Try.prog 8 #[.slice A0 l0.length c0] w fun e w' => e = .returned (.tuple #[.string r1, .int .i64 r2]) ∧ Below w.heap.size w w' := by
 have hu25 := Try.underlying25
 have HR0 := Aside0.mk hr0
 have HC0 := Aside0.mk hc0
 clear hr0 hc0
 have HB := Aside0.mk (Below.refl w.heap.size w)
 have H : (if (l0.length : Int) > 16 then (some ((⟨#[]⟩ : ByteArray), 2)) else (if 0 ≤ (wrap64 (1 + (wrap64 (Int.tdiv (wrap64 ((l0.length : Int) + 3)) 4)))) then (if (wrap64 (1 + (wrap64 (Int.tdiv (wrap64 ((l0.length : Int) + 3)) 4))) : Int).toNat ≤ 281474976710656 then ((some (List.replicate (wrap64 (1 + (wrap64 (Int.tdiv (wrap64 ((l0.length : Int) + 3)) 4))) : Int).toNat 0 : List Int)).bind fun y109 => (if 0 < (y109.length : Int) then (row_Encode.l0 k (y109.set (0 : Int).toNat (((l0.length : Int)) % 256)) l0 (l0.length : Int) 0) else (none))) else (none)) else (none))) = some (r1, r2) := h
 clear h
 by_cases c2 : (l0.length : Int) > 16
 ·
  rw [if_pos c2] at H
  have c2b0 : decide (16 < (l0.length : Int)) = true := decide_eq_true c2
  have c2b1 : decide (16 < l0.length) = true := decide_eq_true (by omega)
  clear c2
  simp only [Option.some.injEq, Prod.mk.injEq] at H
  obtain ⟨rfl, rfl⟩ := H
  go_enter Try.func8, Try.ntmps8
  go_wp2
  go_ret2
  exact ⟨by first | rfl | (simp [errW_none, errW_some] <;> rfl) | (simp [*, errW_none, errW_some] <;> rfl), by repeat (first | (with_reducible first | exact HB.out | apply below_alloc | apply pw_below_drewN | apply below_drew1) | exact HB.out)⟩
 ·
  rw [if_neg c2] at H
  have c2b0 : decide (16 < (l0.length : Int)) = false := decide_eq_false c2
  have c2b1 : decide (16 < l0.length) = false := decide_eq_false (by omega)
  clear c2
  obtain ⟨ji3, hji3⟩ : ∃ j_ : Int, (wrap64 (1 + (wrap64 (Int.tdiv (wrap64 ((l0.length : Int) + 3)) 4)))) = j_ := ⟨_, rfl⟩
  replace H : (if 0 ≤ (ji3) then (if (ji3 : Int).toNat ≤ 281474976710656 then ((some (List.replicate (ji3 : Int).toNat 0 : List Int)).bind fun y109 => (if 0 < (y109.length : Int) then (row_Encode.l0 k (y109.set (0 : Int).toNat (((l0.length : Int)) % 256)) l0 (l0.length : Int) 0) else (none))) else (none)) else (none)) = some (r1, r2) := by first | (rw [hji3] at H; exact H) | (simp only [hji3] at H ⊢; exact H)
  have hji3w : (IntKind.i64.wrap (1 + (wrap64 (Int.tdiv (wrap64 ((l0.length : Int) + 3)) 4)))) = ji3 := (i64_w _).trans hji3
  by_cases c4 : 0 ≤ (ji3)
  ·
   rw [if_pos c4] at H
   have c4b0 := eq_true c4
   have c4b1 : decide (0 ≤ (ji3)) = true := decide_eq_true c4
   clear c4
   by_cases c5 : (ji3 : Int).toNat ≤ 281474976710656
   ·
    rw [if_pos c5] at H
    have c5b0 := eq_true c5
    have c5b1 : decide ((ji3 : Int).toNat ≤ 281474976710656) = true := decide_eq_true c5
    clear c5
    obtain ⟨y109, hy109⟩ : ∃ y_ : List Int, y_ = (List.replicate (ji3 : Int).toNat 0) := ⟨_, rfl⟩
    replace H : (if 0 < (y109.length : Int) then (row_Encode.l0 k (y109.set (0 : Int).toNat (((l0.length : Int)) % 256)) l0 (l0.length : Int) 0) else (none)) = some (r1, r2) := by first | (rw [hy109]; with_reducible exact H) | (have H2_ := (Option.bind_some _ _).symm.trans H; rw [hy109]; with_reducible exact H2_) | (have H2_ := (Option.bind_some _ _).symm.trans H; with_reducible exact H2_) | with_reducible exact H | (rw [hy109]; exact H) | exact H
    have Ny109 := Aside0.mk hy109
    clear hy109
    by_cases c6 : 0 < (y109.length : Int)
    ·
     rw [if_pos c6] at H
     have c6b0 : decide (0 < (y109.length : Int)) = true := decide_eq_true c6
     have c6b1 : decide (0 < y109.length) = true := decide_eq_true (by omega)
     clear c6
     obtain ⟨y112, hy112⟩ : ∃ y_ : List Int, y_ = (y109.set (0 : Int).toNat (((l0.length : Int)) % 256)) := ⟨_, rfl⟩
     replace H : (row_Encode.l0 k y112 l0 (l0.length : Int) 0) = some (r1, r2) := by first | (rw [hy112]; with_reducible exact H) | (have H2_ := (Option.bind_some _ _).symm.trans H; rw [hy112]; with_reducible exact H2_) | (have H2_ := (Option.bind_some _ _).symm.trans H; with_reducible exact H2_) | with_reducible exact H | (rw [hy112]; exact H) | exact H
     have Ny112 := Aside0.mk hy112
     clear hy112
     have H' := Aside0.mk H
     clear H
     go_enter Try.func8, Try.ntmps8
     go_wp2_with (first | ((with_reducible refine gate_dst (N := 15) rfl ?_); refine Kd.R_make (Kd.int .u8) _ 5 rfl (N := 15) rfl 39 _ _ rfl ji3 rfl rfl Try.underlying39 (.int .u8 0) 1 info5 rfl (by decide) (by omega) 0 (ok := fun _ => True) (okp := fun _ => True) rfl (fun _ hk => hk) trivial (of_decide_eq_true (by first | (with_reducible assumption) | assumption)) (Nat.le_trans (Nat.mul_le_mul_right _ (of_decide_eq_true (by first | (with_reducible assumption) | assumption) : ji3.toNat ≤ 281474976710656)) (by omega)) (Below.refl _ _) (Nat.le_refl _) ?_; intro v110 w8 ho9 hb hg_ hnew_; clear hg_ hnew_; (first | rw [← Ny109.out] at ho9 | (simp only [Int.reduceToNat] at ho9; rw [← Ny109.out] at ho9)); have n0_ := Aside0.mk (Kd.R_lower ho9 (below_size (by repeat (first | (with_reducible first | exact HB.out | apply below_alloc | apply pw_below_drewN | apply below_drew1) | exact HB.out)))); have n1_ := Aside0.mk (below_step (by repeat (first | (with_reducible first | exact HB.out | apply below_alloc | apply pw_below_drewN | apply below_drew1) | exact HB.out)) hb); clear HB; have HO111 := n0_; have HB := n1_; clear n0_ n1_; clear hb ho9; have p7 : 0 ≤ (0 : Int) := (by omega); have q7 : (0 : Int) < ((y109.length : Int) : Int) := of_decide_eq_true (by first | (with_reducible assumption) | assumption); have qi7 : (0 < y109.length) = True := eq_true (by omega); obtain ⟨go7, co7, eo7, gb7, gl7, cl7, HG7⟩ := Kd.R_form HO111.out (by omega); (first | cases eo7 | (injection eo7 with ea_ en_ ec_; (first | subst ea_ | (injection ea_ with ea_; subst ea_)); subst ec_; clear en_)); have GB7 := Aside0.mk gb7; have GG7 := Aside0.mk HG7; clear gb7 gl7 HG7; obtain ⟨hx7_0, hf7_0⟩ := Kd.R_celln 0 HO111.out (0 : Int) p7 q7; (try rw [show ((0 : Int)).toNat = 0 from rfl] at hx7_0); (try simp only [Nat.reduceMul, Nat.zero_mul, Nat.zero_add, Nat.reduceAdd] at hx7_0); (try rw [show ((0 : Int)).toNat = 0 from rfl] at hf7_0); (try simp only [Nat.reduceMul, Nat.zero_mul, Nat.zero_add, Nat.reduceAdd] at hf7_0); replace p7 := eq_true p7; replace q7 := eq_true q7; obtain ⟨hy10_, hz10_⟩ := Kd.R_celln 0 HO111.out (0 : Int) (by omega) (of_decide_eq_true (by first | (with_reducible assumption) | assumption)); (try simp only [Int.reduceToNat, Int.toNat_zero, Int.toNat_ofNat, Nat.reduceMul, Nat.zero_mul, Nat.zero_add] at hy10_ hz10_); (try rw [show ((0 : Int)).toNat = 0 from rfl] at hy10_); (try rw [show ((0 : Int)).toNat = 0 from rfl] at hz10_); have HP10 := Kd.R_putg HO111.out (0 : Int) (((l0.length : Int)) % 256)) | ((with_reducible refine gate_store (t := 5) (p := 20) rfl ?_); refine store_event (t := 5) (p := 20) (v := ?vo_w11) (w1 := (w8.setCell ⟨go7, (0 : Int).toNat, none⟩ (.int .u8 (((l0.length : Int)) % 256)))) ?hg ?ho ?hn ?hr ?_; (case ho => rfl); (case hg => rfl); (case hn => rfl); (case hr => first | (go_simp; done) | (go_simp; rfl)); intro w11 hw; have hg : w8.grownBy w11 (some go7) := (by rw [hw]; exact HP10.2); have hp_ : Kd.R (Kd.int .u8) 5 w11 w.heap.size (fun _ => True) (.slice (some ⟨go7, 0, none⟩) y109.length co7) y112 := (by rw [hw, Ny112.out]; exact HP10.1); clear HP10; have n0_ := Aside0.mk (hp_); have n1_ := Aside0.mk ((by rw [hw]; exact below_set (HB.out) GB7.out : Below w.heap.size w w11)); clear HO111; clear HB; have HO111 := n0_; have HB := n1_; clear n0_ n1_; clear hg hw hp_))
     go_loopg [4, 23] k (fun kq v4 v23 w' => ∃ (x4_1 : List Int) (x23_1 : Int), v23 = .int .i64 x23_1 ∧ Aside0 (row_Encode.l0 kq x4_1 l0 (l0.length : Int) x23_1 = some (r1, r2)) ∧ Aside0 (kq ≤ k) ∧ Aside0 (Kd.R (Kd.int .u8) 5 w' w.heap.size (fun _ => True) v4 x4_1) ∧ Aside0 (Below w.heap.size w w'))
     case atStart => exact ⟨(y112), (0), (by first | rfl | (simp; done) | (simp [*]; done)), H', ⟨Nat.le_refl _⟩, ⟨by (with_reducible repeat (first | apply Kd.R_alloc | apply Kd.R_drewN | apply Kd.R_drew)); exact HO111.out⟩, ⟨by repeat (first | (with_reducible first | exact HB.out | apply below_alloc | apply pw_below_drewN | apply below_drew1) | exact HB.out)⟩⟩
     case round =>
      clear H'
      try clear c2
      try clear c2b0
      try clear c2b1
      try clear p2
      try clear c4
      try clear c4b0
      try clear c4b1
      try clear c5
      try clear c5b0
      try clear c5b1
      try clear c6
      try clear c6b0
      try clear c6b1
      try clear p6
      try clear p7
      try clear q7
      try clear hx7
      try clear qi7
      try clear hf7
      try clear c8
      try clear hx7_0
      try clear p7
      try clear q7
      obtain ⟨x4_1, x23_1, rfl, HA, HK1, HO_4, HB⟩ := hrel
      cases gk with
      | zero => exact absurd HA.out (by simp [row_Encode.l0])
      | succ k1 =>
       have H := HA.out
       clear HA
       simp only [row_Encode.l0] at H
       by_cases c12 : x23_1 < (l0.length : Int)
       ·
        rw [if_pos c12] at H
        have c12b0 : decide (x23_1 < (l0.length : Int)) = true := decide_eq_true c12
        clear c12
        by_cases c13 : 0 ≤ x23_1
        ·
         rw [if_pos c13] at H
         have c13b0 : decide (0 ≤ x23_1) = true := decide_eq_true c13
         clear c13
         by_cases c14 : x23_1 < (l0.length : Int)
         ·
          rw [if_pos c14] at H
          have c14b0 : decide (x23_1 < (l0.length : Int)) = true := decide_eq_true c14
          clear c14
          replace H := Option.bind_eq_some_iff.mp H
          obtain ⟨t115, A150, H⟩ := H
          replace H : (if t115 = true then (if 0 ≤ (wrap64 (1 + (wrap64 (Int.tdiv x23_1 4)))) then (if (wrap64 (1 + (wrap64 (Int.tdiv x23_1 4)))) < (x4_1.length : Int) then (if 0 ≤ (wrap64 ((Int.tmod x23_1 4) * 2)) then ((some (x4_1.set ((wrap64 (1 + (wrap64 (Int.tdiv x23_1 4)))) : Int).toNat (Go.bits .or .u8 (rd x4_1 (wrap64 (1 + (wrap64 (Int.tdiv x23_1 4))))) (shl .u8 (((rd_T25 l0 x23_1).f0) % 256) (wrap64 ((Int.tmod x23_1 4) * 2)))) : List Int)).bind fun y117 => (if ((rd_T25 l0 x23_1).f0) = 1 then ((row_number.f k1 y117 ((rd_T25 l0 x23_1).f1)).bind fun t118 => (row_Encode.l0 k1 t118 l0 (l0.length : Int) (wrap64 (x23_1 + 1)))) else (if ((rd_T25 l0 x23_1).f0) = 2 then (if y117.length < 140737488355328 then (row_Encode.l0 k1 (y117 ++ [((rd_T25 l0 x23_1).f1) % 256]) l0 (l0.length : Int) (wrap64 (x23_1 + 1))) else (none)) else (if ((rd_T25 l0 x23_1).f0) = 3 then (if y117.length < 140737488355328 then ((some (y117 ++ [((((rd_T25 l0 x23_1).f2).size : Int)) % 256] : List Int)).bind fun y124 => (if y124.length + ((rd_T25 l0 x23_1).f2).size < 140737488355328 then (row_Encode.l0 k1 (y124 ++ bytesOf ((rd_T25 l0 x23_1).f2)) l0 (l0.length : Int) (wrap64 (x23_1 + 1))) else (none))) else (none)) else (row_Encode.l0 k1 y117 l0 (l0.length : Int) (wrap64 (x23_1 + 1))))))) else (none)) else (none)) else (none)) else (some ((⟨#[]⟩ : ByteArray), 10))) = some (r1, r2) := H
          have A15 := Aside0.mk A150
          clear A150
          by_cases c16 : t115 = true
          ·
           subst c16
           have H1 : (if 0 ≤ (wrap64 (1 + (wrap64 (Int.tdiv x23_1 4)))) then (if (wrap64 (1 + (wrap64 (Int.tdiv x23_1 4)))) < (x4_1.length : Int) then (if 0 ≤ (wrap64 ((Int.tmod x23_1 4) * 2)) then ((some (x4_1.set ((wrap64 (1 + (wrap64 (Int.tdiv x23_1 4)))) : Int).toNat (Go.bits .or .u8 (rd x4_1 (wrap64 (1 + (wrap64 (Int.tdiv x23_1 4))))) (shl .u8 (((rd_T25 l0 x23_1).f0) % 256) (wrap64 ((Int.tmod x23_1 4) * 2)))) : List Int)).bind fun y117 => (if ((rd_T25 l0 x23_1).f0) = 1 then ((row_number.f k1 y117 ((rd_T25 l0 x23_1).f1)).bind fun t118 => (row_Encode.l0 k1 t118 l0 (l0.length : Int) (wrap64 (x23_1 + 1)))) else (if ((rd_T25 l0 x23_1).f0) = 2 then (if y117.length < 140737488355328 then (row_Encode.l0 k1 (y117 ++ [((rd_T25 l0 x23_1).f1) % 256]) l0 (l0.length : Int) (wrap64 (x23_1 + 1))) else (none)) else (if ((rd_T25 l0 x23_1).f0) = 3 then (if y117.length < 140737488355328 then ((some (y117 ++ [((((rd_T25 l0 x23_1).f2).size : Int)) % 256] : List Int)).bind fun y124 => (if y124.length + ((rd_T25 l0 x23_1).f2).size < 140737488355328 then (row_Encode.l0 k1 (y124 ++ bytesOf ((rd_T25 l0 x23_1).f2)) l0 (l0.length : Int) (wrap64 (x23_1 + 1))) else (none))) else (none)) else (row_Encode.l0 k1 y117 l0 (l0.length : Int) (wrap64 (x23_1 + 1))))))) else (none)) else (none)) else (none)) = some (r1, r2) := by rw [if_pos rfl] at H; exact H
           clear H
           have H := H1
           clear H1
           obtain ⟨ji17, hji17⟩ : ∃ j_ : Int, (wrap64 (1 + (wrap64 (Int.tdiv x23_1 4)))) = j_ := ⟨_, rfl⟩
           replace H : (if 0 ≤ (ji17) then (if (ji17) < (x4_1.length : Int) then (if 0 ≤ (wrap64 ((Int.tmod x23_1 4) * 2)) then ((some (x4_1.set ((ji17) : Int).toNat (Go.bits .or .u8 (rd x4_1 (ji17)) (shl .u8 (((rd_T25 l0 x23_1).f0) % 256) (wrap64 ((Int.tmod x23_1 4) * 2)))) : List Int)).bind fun y117 => (if ((rd_T25 l0 x23_1).f0) = 1 then ((row_number.f k1 y117 ((rd_T25 l0 x23_1).f1)).bind fun t118 => (row_Encode.l0 k1 t118 l0 (l0.length : Int) (wrap64 (x23_1 + 1)))) else (if ((rd_T25 l0 x23_1).f0) = 2 then (if y117.length < 140737488355328 then (row_Encode.l0 k1 (y117 ++ [((rd_T25 l0 x23_1).f1) % 256]) l0 (l0.length : Int) (wrap64 (x23_1 + 1))) else (none)) else (if ((rd_T25 l0 x23_1).f0) = 3 then (if y117.length < 140737488355328 then ((some (y117 ++ [((((rd_T25 l0 x23_1).f2).size : Int)) % 256] : List Int)).bind fun y124 => (if y124.length + ((rd_T25 l0 x23_1).f2).size < 140737488355328 then (row_Encode.l0 k1 (y124 ++ bytesOf ((rd_T25 l0 x23_1).f2)) l0 (l0.length : Int) (wrap64 (x23_1 + 1))) else (none))) else (none)) else (row_Encode.l0 k1 y117 l0 (l0.length : Int) (wrap64 (x23_1 + 1))))))) else (none)) else (none)) else (none)) = some (r1, r2) := by first | (rw [hji17] at H; exact H) | (simp only [hji17] at H ⊢; exact H)
           (try rw [hji17] at A15)
           have hji17w : (IntKind.i64.wrap (1 + (wrap64 (Int.tdiv x23_1 4)))) = ji17 := (i64_w _).trans hji17
           by_cases c18 : 0 ≤ (ji17)
           ·
            rw [if_pos c18] at H
            have c18b0 : decide (0 ≤ (ji17)) = true := decide_eq_true c18
            clear c18
            by_cases c19 : (ji17) < (x4_1.length : Int)
            ·
             rw [if_pos c19] at H
             have c19b0 : decide ((ji17) < (x4_1.length : Int)) = true := decide_eq_true c19
             clear c19
             obtain ⟨ji20, hji20⟩ : ∃ j_ : Int, (wrap64 ((Int.tmod x23_1 4) * 2)) = j_ := ⟨_, rfl⟩
             replace H : (if 0 ≤ (ji20) then ((some (x4_1.set ((ji17) : Int).toNat (Go.bits .or .u8 (rd x4_1 (ji17)) (shl .u8 (((rd_T25 l0 x23_1).f0) % 256) (ji20))) : List Int)).bind fun y117 => (if ((rd_T25 l0 x23_1).f0) = 1 then ((row_number.f k1 y117 ((rd_T25 l0 x23_1).f1)).bind fun t118 => (row_Encode.l0 k1 t118 l0 (l0.length : Int) (wrap64 (x23_1 + 1)))) else (if ((rd_T25 l0 x23_1).f0) = 2 then (if y117.length < 140737488355328 then (row_Encode.l0 k1 (y117 ++ [((rd_T25 l0 x23_1).f1) % 256]) l0 (l0.length : Int) (wrap64 (x23_1 + 1))) else (none)) else (if ((rd_T25 l0 x23_1).f0) = 3 then (if y117.length < 140737488355328 then ((some (y117 ++ [((((rd_T25 l0 x23_1).f2).size : Int)) % 256] : List Int)).bind fun y124 => (if y124.length + ((rd_T25 l0 x23_1).f2).size < 140737488355328 then (row_Encode.l0 k1 (y124 ++ bytesOf ((rd_T25 l0 x23_1).f2)) l0 (l0.length : Int) (wrap64 (x23_1 + 1))) else (none))) else (none)) else (row_Encode.l0 k1 y117 l0 (l0.length : Int) (wrap64 (x23_1 + 1))))))) else (none)) = some (r1, r2) := by first | (rw [hji20] at H; exact H) | (simp only [hji20] at H ⊢; exact H)
             (try rw [hji20] at A15)
             have hji20w : (IntKind.i64.wrap ((Int.tmod x23_1 4) * 2)) = ji20 := (i64_w _).trans hji20
             by_cases c21 : 0 ≤ (ji20)
             ·
              rw [if_pos c21] at H
              have c21b0 := eq_true c21
              have c21b1 : decide (0 ≤ (ji20)) = true := decide_eq_true c21
              clear c21
              obtain ⟨ji22, hji22⟩ : ∃ j_ : Int, (shl .u8 (((rd_T25 l0 x23_1).f0) % 256) (ji20)) = j_ := ⟨_, rfl⟩
              replace H : ((some (x4_1.set ((ji17) : Int).toNat (Go.bits .or .u8 (rd x4_1 (ji17)) (ji22)) : List Int)).bind fun y117 => (if ((rd_T25 l0 x23_1).f0) = 1 then ((row_number.f k1 y117 ((rd_T25 l0 x23_1).f1)).bind fun t118 => (row_Encode.l0 k1 t118 l0 (l0.length : Int) (wrap64 (x23_1 + 1)))) else (if ((rd_T25 l0 x23_1).f0) = 2 then (if y117.length < 140737488355328 then (row_Encode.l0 k1 (y117 ++ [((rd_T25 l0 x23_1).f1) % 256]) l0 (l0.length : Int) (wrap64 (x23_1 + 1))) else (none)) else (if ((rd_T25 l0 x23_1).f0) = 3 then (if y117.length < 140737488355328 then ((some (y117 ++ [((((rd_T25 l0 x23_1).f2).size : Int)) % 256] : List Int)).bind fun y124 => (if y124.length + ((rd_T25 l0 x23_1).f2).size < 140737488355328 then (row_Encode.l0 k1 (y124 ++ bytesOf ((rd_T25 l0 x23_1).f2)) l0 (l0.length : Int) (wrap64 (x23_1 + 1))) else (none))) else (none)) else (row_Encode.l0 k1 y117 l0 (l0.length : Int) (wrap64 (x23_1 + 1))))))) = some (r1, r2) := by first | (rw [hji22] at H; exact H) | (simp only [hji22] at H ⊢; exact H)
              (try rw [hji22] at A15)
              have hji22_ : (IntKind.u8.wrap ((((rd_T25 l0 x23_1).f0) % 256) * 2 ^ min (ji20).toNat 8)) = ji22 := hji22
              have hji22z : (ji20) ≤ 8 → (IntKind.u8.wrap ((((rd_T25 l0 x23_1).f0) % 256) * 2 ^ (ji20).toNat)) = ji22 := shl_small hji22
              (try have hji22y := hji22z (by (try simp only [decide_eq_true_eq, decide_eq_false_iff_not] at *); omega))
              obtain ⟨y117, hy117⟩ : ∃ y_ : List Int, y_ = (x4_1.set ((ji17) : Int).toNat (Go.bits .or .u8 (rd x4_1 (ji17)) (ji22))) := ⟨_, rfl⟩
              replace H : (if ((rd_T25 l0 x23_1).f0) = 1 then ((row_number.f k1 y117 ((rd_T25 l0 x23_1).f1)).bind fun t118 => (row_Encode.l0 k1 t118 l0 (l0.length : Int) (wrap64 (x23_1 + 1)))) else (if ((rd_T25 l0 x23_1).f0) = 2 then (if y117.length < 140737488355328 then (row_Encode.l0 k1 (y117 ++ [((rd_T25 l0 x23_1).f1) % 256]) l0 (l0.length : Int) (wrap64 (x23_1 + 1))) else (none)) else (if ((rd_T25 l0 x23_1).f0) = 3 then (if y117.length < 140737488355328 then ((some (y117 ++ [((((rd_T25 l0 x23_1).f2).size : Int)) % 256] : List Int)).bind fun y124 => (if y124.length + ((rd_T25 l0 x23_1).f2).size < 140737488355328 then (row_Encode.l0 k1 (y124 ++ bytesOf ((rd_T25 l0 x23_1).f2)) l0 (l0.length : Int) (wrap64 (x23_1 + 1))) else (none))) else (none)) else (row_Encode.l0 k1 y117 l0 (l0.length : Int) (wrap64 (x23_1 + 1)))))) = some (r1, r2) := by first | (rw [hy117]; with_reducible exact H) | (have H2_ := (Option.bind_some _ _).symm.trans H; rw [hy117]; with_reducible exact H2_) | (have H2_ := (Option.bind_some _ _).symm.trans H; with_reducible exact H2_) | with_reducible exact H | (rw [hy117]; exact H) | exact H
              have Ny117 := Aside0.mk hy117
              clear hy117
              by_cases c24 : ((rd_T25 l0 x23_1).f0) = 1
              ·
               rw [if_pos c24] at H
               have c24b0 : (((rd_T25 l0 x23_1).f0) == 1) = true := beq_iff_eq.mpr c24
               have c24b1 : (((rd_T25 l0 x23_1).f0) != 1) = false := bne_eq_false_iff_eq.mpr c24
               clear c24
               replace H := Option.bind_eq_some_iff.mp H
               obtain ⟨t118, A250, H⟩ := H
               replace H : (row_Encode.l0 k1 t118 l0 (l0.length : Int) (wrap64 (x23_1 + 1))) = some (r1, r2) := H
               have A25 := Aside0.mk A250
               clear A250
               have H' := Aside0.mk H
               clear H
               have p113 : 0 ≤ (x23_1 : Int) := of_decide_eq_true (by first | (with_reducible assumption) | assumption)
               have q113 : x23_1 < (l0.length : Int) := of_decide_eq_true (by first | (with_reducible assumption) | assumption)
               obtain ⟨ad113, e113, hx113_0, hx113_1, hx113_2⟩ := at_T25 HR0.out x23_1 p113 q113
               cases e113
               replace hx113_0 := (HB.out.cell (World.block_lt_of_cell? w _ hx113_0)).trans hx113_0
               replace hx113_1 := (HB.out.cell (World.block_lt_of_cell? w _ hx113_1)).trans hx113_1
               replace hx113_2 := (HB.out.cell (World.block_lt_of_cell? w _ hx113_2)).trans hx113_2
               replace p113 := eq_true p113
               replace q113 := eq_true q113
               try go_wp2_with (first | ((with_reducible refine gate_dst (N := 6) rfl ?_); refine box_event ?hg (N := 6) ?hd (cs := #[.int .i64 0, .int .i64 0, .string (⟨#[]⟩ : ByteArray)]) (t := 25) ?hr ?_; (case hd => rfl); (case hg => rfl); (case hr => first | (go_simp; done) | (go_simp; rfl)); intro gb114 hg w26 hbox hb; have n0_ := Aside0.mk (Kd.R_below (by (with_reducible repeat (first | apply Kd.R_alloc | apply Kd.R_drewN | apply Kd.R_drew)); exact HO_4.out) hb); have n1_ := Aside0.mk (below_step (by repeat (first | (with_reducible first | exact HB.out | apply below_alloc | apply pw_below_drewN | apply below_drew1) | exact HB.out)) hb); have n2_ := Aside0.mk (hbox); have n3_ := Aside0.mk ((by rw [hg]; exact (below_size (by repeat (first | (with_reducible first | exact HB.out | apply below_alloc | apply pw_below_drewN | apply below_drew1) | exact HB.out))) : w.heap.size ≤ gb114)); have n4_ := Aside0.mk ((by rw [hg]; exact (below_size (by repeat (first | (with_reducible first | exact HB.out | apply below_alloc | apply pw_below_drewN | apply below_drew1) | exact HB.out))) : w.heap.size ≤ gb114)); clear HO_4; clear HB; have HO_4 := n0_; have HB := n1_; have BK114 := n2_; have GW114 := n3_; have GE114 := n4_; clear n0_ n1_ n2_ n3_ n4_; clear hb hbox hg; have hcz27_0 : w26.cell? ⟨gb114, 0, none⟩ = some (.int .i64 0) := (blk_cell BK114.out 0).trans rfl; have hcz27_1 : w26.cell? ⟨gb114, 1, none⟩ = some (.int .i64 0) := (blk_cell BK114.out 1).trans rfl; have hcz27_2 : w26.cell? ⟨gb114, 2, none⟩ = some (.string (⟨#[]⟩ : ByteArray)) := (blk_cell BK114.out 2).trans rfl; have hfz27_0 := blk_frozen BK114.out 0; have hfz27_1 := blk_frozen BK114.out 1; have hfz27_2 := blk_frozen BK114.out 2) | ((with_reducible refine gate_store (t := 25) (p := 6) rfl ?_); refine store_event (t := 25) (p := 6) (v := ?vo_w28) (w1 := (((w26.setCell ⟨gb114, 0, none⟩ (.int .i64 ((rd_T25 l0 x23_1).f0))).setCell ⟨gb114, 1, none⟩ (.int .i64 ((rd_T25 l0 x23_1).f1))).setCell ⟨gb114, 2, none⟩ (.string ((rd_T25 l0 x23_1).f2)))) ?hg ?ho ?hn ?hr ?_; (case ho => rfl); (case hg => rfl); (case hn => rfl); (case hr => first | (go_simp; done) | (go_simp; rfl)); intro w28 hw; have n0_ : Aside0 (Kd.R (Kd.int .u8) 5 w28 w.heap.size (fun _ => True) u4 x4_1) := ⟨(by rw [hw]; exact (by (with_reducible repeat (first | apply Kd.R_alloc | apply Kd.R_drewN | apply Kd.R_drew)); exact Kd.R_mono (Kd.R_far (p := ⟨gb114, 2, none⟩) (Kd.R_far (p := ⟨gb114, 1, none⟩) (Kd.R_far (p := ⟨gb114, 0, none⟩) (Kd.R_types HO_4.out BK114.out (by decide)) (fun _ hk => hk.2) (.int .i64 ((rd_T25 l0 x23_1).f0))) (fun _ hk => hk.2) (.int .i64 ((rd_T25 l0 x23_1).f1))) (fun _ hk => hk.2) (.string ((rd_T25 l0 x23_1).f2))) (fun _ hk => trivial)))⟩; have n1_ : Aside0 (w28.heap[gb114]? = some (.cells #[.int .i64 ((rd_T25 l0 x23_1).f0), .int .i64 ((rd_T25 l0 x23_1).f1), .string ((rd_T25 l0 x23_1).f2)] 25 (0, 0))) := ⟨(by rw [hw]; exact (by (with_reducible repeat (first | refine blk_drewN ?_ _ | refine blk_drew ?_ | refine blk_alloc ?_ _)); refine blk_put (cs := #[.int .i64 ((rd_T25 l0 x23_1).f0), .int .i64 ((rd_T25 l0 x23_1).f1), .string (⟨#[]⟩ : ByteArray)]) ?_ 2 _ rfl; (with_reducible repeat (first | refine blk_drewN ?_ _ | refine blk_drew ?_ | refine blk_alloc ?_ _)); refine blk_put (cs := #[.int .i64 ((rd_T25 l0 x23_1).f0), .int .i64 0, .string (⟨#[]⟩ : ByteArray)]) ?_ 1 _ rfl; (with_reducible repeat (first | refine blk_drewN ?_ _ | refine blk_drew ?_ | refine blk_alloc ?_ _)); refine blk_put (cs := #[.int .i64 0, .int .i64 0, .string (⟨#[]⟩ : ByteArray)]) ?_ 0 _ rfl; (with_reducible repeat (first | refine blk_drewN ?_ _ | refine blk_drew ?_ | refine blk_alloc ?_ _)); exact BK114.out))⟩; have n2_ : Aside0 (Below w.heap.size w w28) := ⟨(by rw [hw]; exact (by repeat (first | (with_reducible first | exact HB.out | apply below_alloc | apply pw_below_drewN | apply below_drew1 | refine below_set ?_ GE114.out) | exact HB.out)))⟩; clear hw; clear HO_4; clear BK114; clear HB; have HO_4 := n0_; have BK114 := n1_; have HB := n2_; clear n0_ n1_ n2_; have hcz29_0 : w28.cell? ⟨gb114, 0, none⟩ = some (.int .i64 ((rd_T25 l0 x23_1).f0)) := (blk_cell BK114.out 0).trans rfl; have hcz29_1 : w28.cell? ⟨gb114, 1, none⟩ = some (.int .i64 ((rd_T25 l0 x23_1).f1)) := (blk_cell BK114.out 1).trans rfl; have hcz29_2 : w28.cell? ⟨gb114, 2, none⟩ = some (.string ((rd_T25 l0 x23_1).f2)) := (blk_cell BK114.out 2).trans rfl; have hfz29_0 := blk_frozen BK114.out 0; have hfz29_1 := blk_frozen BK114.out 1; have hfz29_2 := blk_frozen BK114.out 2) | ((with_reducible refine gate_callee (f := 15) rfl ?_); refine goesL_ (some 29) rfl rfl Try.func15 (by kernel_rfl) rfl #[.agg #[.int .i64 ((rd_T25 l0 x23_1).f0), .int .i64 ((rd_T25 l0 x23_1).f1), .string ((rd_T25 l0 x23_1).f2)]] rfl (by (try simp only [List.map_toArray, List.map_cons, List.map_nil]); first | done | rfl | (simp only [List.length_drop, List.length_take]; rfl)) ?_; (with_reducible refine (value_Right.calls ((rd_T25 l0 x23_1).f0) ((rd_T25 l0 x23_1).f1) ((rd_T25 l0 x23_1).f2) true _ A15.out).mono ?_); rintro e w30 ⟨rfl, hb⟩; refine ⟨_, rfl, ?_⟩; have n0_ := Aside0.mk (Kd.R_below (by (with_reducible repeat (first | apply Kd.R_alloc | apply Kd.R_drewN | apply Kd.R_drew)); exact HO_4.out) hb); have n1_ := Aside0.mk (blk_below (g := gb114) (o := .cells #[.int .i64 ((rd_T25 l0 x23_1).f0), .int .i64 ((rd_T25 l0 x23_1).f1), .string ((rd_T25 l0 x23_1).f2)] 25 (0, 0)) (by (with_reducible repeat (first | refine blk_drewN ?_ _ | refine blk_drew ?_ | refine blk_alloc ?_ _)); exact BK114.out) hb); have n2_ := Aside0.mk (below_step (by repeat (first | (with_reducible first | exact HB.out | apply below_alloc | apply pw_below_drewN | apply below_drew1 | refine below_set ?_ GE114.out) | exact HB.out)) hb); clear HO_4; clear BK114; clear HB; have HO_4 := n0_; have BK114 := n1_; have HB := n2_; clear n0_ n1_ n2_; (try clear hb); (try clear hb2); (try clear hk); (try clear hi)))
               have n0_ := Aside0.mk (Kd.R_drew HO_4.out)
               have n1_ := Aside0.mk (blk_drew BK114.out)
               have n2_ := Aside0.mk (below_drew1 HB.out)
               clear HO_4
               clear BK114
               clear HB
               have HO_4 := n0_
               have BK114 := n1_
               have HB := n2_
               clear n0_ n1_ n2_
               obtain ⟨Ao32, co32, eo32⟩ := Kd.R_slice HO_4.out
               (first | subst eo32 | (injection eo32 with f1_ f2_ f3_; have f4_ := f1_.symm; have f5_ := f3_.symm; clear f1_ f2_ f3_; subst f4_; subst f5_))
               have p116 : 0 ≤ ((ji17) : Int) := of_decide_eq_true (by first | (with_reducible assumption) | assumption)
               have q116 : (ji17) < (x4_1.length : Int) := of_decide_eq_true (by first | (with_reducible assumption) | assumption)
               obtain ⟨ad116, e116, hx116_0⟩ := Kd.at_int (Kd.R_reads' HO_4.out).2.2 (ji17) p116 q116
               cases e116
               replace p116 := eq_true p116
               replace q116 := eq_true q116
               have p23 : 0 ≤ ((ji17) : Int) := of_decide_eq_true (by first | (with_reducible assumption) | assumption)
               have q23 : ((ji17) : Int) < ((x4_1.length : Int) : Int) := of_decide_eq_true (by first | (with_reducible assumption) | assumption)
               obtain ⟨go23, co23, eo23, gb23, gl23, cl23, HG23⟩ := Kd.R_form HO_4.out (by omega)
               (first | cases eo23 | (injection eo23 with ea_ en_ ec_; (first | subst ea_ | (injection ea_ with ea_; subst ea_)); subst ec_; clear en_))
               have GB23 := Aside0.mk gb23
               have GG23 := Aside0.mk HG23
               clear gb23 gl23 HG23
               (first | simp only [add_plain] at hx116_0 | skip)
               obtain ⟨hx23_0, hf23_0⟩ := Kd.R_celln 0 HO_4.out ((ji17) : Int) p23 q23
               replace p23 := eq_true p23
               replace q23 := eq_true q23
               have HP33 := Kd.R_putn HO_4.out ((ji17) : Int) (Go.bits .or .u8 (rd x4_1 (ji17)) (ji22))
               rw [← Ny117.out] at HP33
               have HQ33 := Aside0.mk HP33
               clear HP33
               refine start_ (n := 16) (S := fun w' => w'.cell? ⟨gb114, 0, none⟩ = some (.int .i64 ((rd_T25 l0 x23_1).f0)) ∧ w'.cell? ⟨gb114, 1, none⟩ = some (.int .i64 ((rd_T25 l0 x23_1).f1)) ∧ w'.cell? ⟨gb114, 2, none⟩ = some (.string ((rd_T25 l0 x23_1).f2)) ∧ w'.cell? ⟨go23, ((ji17)).toNat, none⟩ = some (.int .u8 (rd x4_1 (ji17)))) (ds := [15]) #[false, false, false, false, false, false, false, false, false, false, false, false, false, false, false, false] (by kernel_rfl) rfl rfl ⟨(blk_cell BK114.out 0).trans rfl, (blk_cell BK114.out 1).trans rfl, (blk_cell BK114.out 2).trans rfl, hx116_0⟩ (fun hHeld => ?_); refine with_tabW row_Encode.tab10 row_Encode.bits10 (fun HT_ HW_ => ?_)
               generalize w30.drew = w31 at HO_4 BK114 HB GG23 HQ33 hf23_0 hx116_0 hx23_0 hHeld ⊢
               refine pure_ (i := 0) (N := some 31) (v := ?_) (a' := ?_) #[true, false, false, false, false, false, false, false, false, false, false, false, false, false, false, false] rfl rfl (any_of HT_.out (by kernel_rfl)) (fun _ _ _ h => h) (Or.inl ⟨by rfl, ?_⟩) ?_ ?_
               rotate_left; focus (intro w'; go_simp; with_reducible rfl; done)
               rotate_left; focus (simp only [Act.put, List.setIfInBounds_toArray, List.set_cons_zero, List.set_cons_succ, i64_w, i32_w, u8_w, u32_w]; rfl; done)
               refine pure_ (i := 1) (N := some 32) (v := ?_) (a' := ?_) #[true, true, false, false, false, false, false, false, false, false, false, false, false, false, false, false] rfl rfl (any_of HT_.out (by kernel_rfl)) (fun _ _ _ h => h) (Or.inl ⟨by rfl, ?_⟩) ?_ ?_
               rotate_left; focus (intro w'; go_simp; with_reducible rfl; done)
               rotate_left; focus (simp only [Act.put, List.setIfInBounds_toArray, List.set_cons_zero, List.set_cons_succ, i64_w, i32_w, u8_w, u32_w]; rfl; done)
               refine pure_ (i := 2) (N := some 33) (v := ?_) (a' := ?_) #[true, true, true, false, false, false, false, false, false, false, false, false, false, false, false, false] rfl rfl (any_of HT_.out (by kernel_rfl)) (fun _ _ _ h => h) (Or.inl ⟨by rfl, ?_⟩) ?_ ?_
               rotate_left; focus (intro w'; go_simp; with_reducible rfl; done)
               rotate_left; focus (simp only [Act.put, List.setIfInBounds_toArray, List.set_cons_zero, List.set_cons_succ, i64_w, i32_w, u8_w, u32_w]; rfl; done)
               refine pure_ (i := 3) (N := some 34) (v := ?_) (a' := ?_) #[true, true, true, true, false, false, false, false, false, false, false, false, false, false, false, false] rfl rfl (any_of HT_.out (by kernel_rfl)) (fun _ _ _ h => h) (Or.inl ⟨by rfl, ?_⟩) ?_ ?_
               rotate_left; focus (intro w'; go_simp; with_reducible rfl; done)
               rotate_left; focus (simp only [Act.put, List.setIfInBounds_toArray, List.set_cons_zero, List.set_cons_succ, i64_w, i32_w, u8_w, u32_w]; rfl; done)
               refine pure_ (i := 4) (N := some 35) (v := ?_) (a' := ?_) #[true, true, true, true, true, false, false, false, false, false, false, false, false, false, false, false] rfl rfl (any_of HT_.out (by kernel_rfl)) (fun _ _ _ h => h) (Or.inl ⟨by rfl, ?_⟩) ?_ ?_
               rotate_left; focus (intro w'; go_simp; with_reducible rfl; done)
               rotate_left; focus (simp only [Act.put, List.setIfInBounds_toArray, List.set_cons_zero, List.set_cons_succ, i64_w, i32_w, u8_w, u32_w]; rfl; done)
               refine pure_ (i := 6) (N := some 37) (v := ?_) (a' := ?_) #[true, true, true, true, true, false, true, false, false, false, false, false, false, false, false, false] rfl rfl (any_of HT_.out (by kernel_rfl)) (fun _ _ _ h => h) (Or.inl ⟨by rfl, ?_⟩) ?_ ?_
               rotate_left; focus (intro w'; go_simp; with_reducible rfl; done)
               rotate_left; focus (simp only [Act.put, List.setIfInBounds_toArray, List.set_cons_zero, List.set_cons_succ, i64_w, i32_w, u8_w, u32_w]; rfl; done)
               refine pure_ (i := 9) (N := some 40) (v := ?_) (a' := ?_) #[true, true, true, true, true, false, true, false, false, true, false, false, false, false, false, false] rfl rfl (any_of HT_.out (by kernel_rfl)) (fun _ _ _ h => h) (Or.inl ⟨by rfl, ?_⟩) ?_ ?_
               rotate_left; focus (intro w'; go_simp; with_reducible rfl; done)
               rotate_left; focus (simp only [Act.put, List.setIfInBounds_toArray, List.set_cons_zero, List.set_cons_succ, i64_w, i32_w, u8_w, u32_w]; rfl; done)
               refine pure_ (i := 10) (N := some 41) (v := ?_) (a' := ?_) #[true, true, true, true, true, false, true, false, false, true, true, false, false, false, false, false] rfl rfl (any_of HT_.out (by kernel_rfl)) (fun _ _ _ h => h) (Or.inl ⟨by rfl, ?_⟩) ?_ ?_
               rotate_left; focus (intro w'; go_simp; with_reducible rfl; done)
               rotate_left; focus (simp only [Act.put, List.setIfInBounds_toArray, List.set_cons_zero, List.set_cons_succ, i64_w, i32_w, u8_w, u32_w]; rfl; done)
               refine pure_ (i := 11) (N := some 42) (v := ?_) (a' := ?_) #[true, true, true, true, true, false, true, false, false, true, true, true, false, false, false, false] rfl rfl (any_of HT_.out (by kernel_rfl)) (fun _ _ _ h => h) (Or.inl ⟨by rfl, ?_⟩) ?_ ?_
               rotate_left; focus (intro w'; go_simp; with_reducible rfl; done)
               rotate_left; focus (simp only [Act.put, List.setIfInBounds_toArray, List.set_cons_zero, List.set_cons_succ, i64_w, i32_w, u8_w, u32_w]; rfl; done)
               refine take_ (i := 5) (N := some 36) (v := ?_) (a' := ?_) #[true, true, true, true, true, true, true, false, false, true, true, true, false, false, false, false] rfl rfl (take_ofW HT_.out HW_.out (by kernel_rfl)) (fun _ _ _ h => h) (Or.inl ⟨by rfl, ?_⟩) hHeld ?_ ?_
               rotate_left; focus (rintro w' ⟨s0, s1, s2, s3⟩; go_simp; with_reducible rfl; done)
               rotate_left; focus (simp only [Act.put, List.setIfInBounds_toArray, List.set_cons_zero, List.set_cons_succ, i64_w, i32_w, u8_w, u32_w]; rfl; done)
               refine take_ (i := 7) (N := some 38) (v := ?_) (a' := ?_) #[true, true, true, true, true, true, true, true, false, true, true, true, false, false, false, false] rfl rfl (take_ofW HT_.out HW_.out (by kernel_rfl)) (fun _ _ _ h => h) (Or.inl ⟨by rfl, ?_⟩) hHeld ?_ ?_
               rotate_left; focus (rintro w' ⟨s0, s1, s2, s3⟩; go_simp; with_reducible rfl; done)
               rotate_left; focus (simp only [Act.put, List.setIfInBounds_toArray, List.set_cons_zero, List.set_cons_succ, i64_w, i32_w, u8_w, u32_w]; rfl; done)
               refine pure_ (i := 8) (N := some 39) (v := ?_) (a' := ?_) #[true, true, true, true, true, true, true, true, true, true, true, true, false, false, false, false] rfl rfl (any_of HT_.out (by kernel_rfl)) (fun _ _ _ h => h) (Or.inl ⟨by rfl, ?_⟩) ?_ ?_
               rotate_left; focus (intro w'; go_simp; with_reducible rfl; done)
               rotate_left; focus (simp only [Act.put, List.setIfInBounds_toArray, List.set_cons_zero, List.set_cons_succ, i64_w, i32_w, u8_w, u32_w]; rfl; done)
               refine pure_ (i := 12) (N := some 43) (v := ?_) (a' := ?_) #[true, true, true, true, true, true, true, true, true, true, true, true, true, false, false, false] rfl rfl (any_of HT_.out (by kernel_rfl)) (fun _ _ _ h => h) (Or.inl ⟨by rfl, ?_⟩) ?_ ?_
               rotate_left; focus (intro w'; go_simp; with_reducible rfl; done)
               rotate_left; focus (simp only [Act.put, List.setIfInBounds_toArray, List.set_cons_zero, List.set_cons_succ, i64_w, i32_w, u8_w, u32_w]; rfl; done)
               refine pure_ (i := 13) (N := some 44) (v := ?_) (a' := ?_) #[true, true, true, true, true, true, true, true, true, true, true, true, true, true, false, false] rfl rfl (any_of HT_.out (by kernel_rfl)) (fun _ _ _ h => h) (Or.inl ⟨by rfl, ?_⟩) ?_ ?_
               rotate_left; focus (intro w'; go_simp; with_reducible rfl; done)
               rotate_left; focus (simp only [Act.put, List.setIfInBounds_toArray, List.set_cons_zero, List.set_cons_succ, i64_w, i32_w, u8_w, u32_w]; rfl; done)
               refine pure_ (i := 14) (N := some 45) (v := ?_) (a' := ?_) #[true, true, true, true, true, true, true, true, true, true, true, true, true, true, true, false] rfl rfl (any_of HT_.out (by kernel_rfl)) (fun _ _ _ h => h) (Or.inl ⟨by rfl, ?_⟩) ?_ ?_
               rotate_left; focus (intro w'; go_simp; with_reducible rfl; done)
               rotate_left; focus (simp only [Act.put, List.setIfInBounds_toArray, List.set_cons_zero, List.set_cons_succ, i64_w, i32_w, u8_w, u32_w]; rfl; done)
               refine last_ (i := 15) (N := none) #[true, true, true, true, true, true, true, true, true, true, true, true, true, true, true, true] rfl rfl (one_of HT_.out (by kernel_rfl)) (by decide) (fun K hK => ?_)
               refine skip_ (w1 := ?_) (by rfl) rfl ?_ ?_
               rotate_left; focus (go_simp; rfl; done)
               refine hK.out _ _ ?_
               clear hK K
               refine done_ (done_of HT_.out (by kernel_rfl)) ?_
               have n0_ : Aside0 (Kd.R (Kd.int .u8) 5 (w31.setCell ⟨go23, ((ji17) : Int).toNat, none⟩ (.int .u8 (Go.bits .or .u8 (rd x4_1 (ji17)) (ji22)))) w.heap.size (fun _ => True) (.slice (some ⟨go23, 0, none⟩) x4_1.length co32) y117) := ⟨by (with_reducible repeat (first | apply Kd.R_alloc | apply Kd.R_drewN | apply Kd.R_drew)); exact HQ33.out⟩
               have n1_ : Aside0 ((w31.setCell ⟨go23, ((ji17) : Int).toNat, none⟩ (.int .u8 (Go.bits .or .u8 (rd x4_1 (ji17)) (ji22)))).heap[gb114]? = some (.cells #[.int .i64 ((rd_T25 l0 x23_1).f0), .int .i64 ((rd_T25 l0 x23_1).f1), .string ((rd_T25 l0 x23_1).f2)] 25 (0, 0))) := ⟨by (with_reducible repeat (first | refine blk_drewN ?_ _ | refine blk_drew ?_ | refine blk_alloc ?_ _)); refine blk_far ?_ (by have h_ := Kd.R_ne HO_4.out BK114.out (by decide); intro e_; exact h_ (by rw [e_]; rfl)) _; (with_reducible repeat (first | refine blk_drewN ?_ _ | refine blk_drew ?_ | refine blk_alloc ?_ _)); exact BK114.out⟩
               have n2_ : Aside0 (Below w.heap.size w (w31.setCell ⟨go23, ((ji17) : Int).toNat, none⟩ (.int .u8 (Go.bits .or .u8 (rd x4_1 (ji17)) (ji22))))) := ⟨by repeat (first | (with_reducible first | exact HB.out | apply below_alloc | apply pw_below_drewN | apply below_drew1 | refine below_set ?_ GB23.out | refine below_set ?_ GE114.out) | exact HB.out)⟩
               (try clear HO_4)
               (try clear BK114)
               (try clear HB)
               generalize (w31.setCell ⟨go23, ((ji17) : Int).toNat, none⟩ (.int .u8 (Go.bits .or .u8 (rd x4_1 (ji17)) (ji22)))) = w34 at n0_ n1_ n2_ ⊢
               have HO_4 := n0_
               have BK114 := n1_
               have HB := n2_
               clear n0_ n1_ n2_
               have hcz35_0 : w34.cell? ⟨gb114, 0, none⟩ = some (.int .i64 ((rd_T25 l0 x23_1).f0)) := (blk_cell BK114.out 0).trans rfl
               have hcz35_1 : w34.cell? ⟨gb114, 1, none⟩ = some (.int .i64 ((rd_T25 l0 x23_1).f1)) := (blk_cell BK114.out 1).trans rfl
               have hcz35_2 : w34.cell? ⟨gb114, 2, none⟩ = some (.string ((rd_T25 l0 x23_1).f2)) := (blk_cell BK114.out 2).trans rfl
               have hfz35_0 := blk_frozen BK114.out 0
               have hfz35_1 := blk_frozen BK114.out 1
               have hfz35_2 := blk_frozen BK114.out 2
               try go_wp2_with (first | ((with_reducible refine gate_callee (f := 16) rfl ?_); refine goesL_ (some 53) rfl rfl Try.func16 (by kernel_rfl) rfl #[.slice (some ⟨go23, 0, none⟩) x4_1.length co32, .int .i64 ((rd_T25 l0 x23_1).f1)] rfl (by (try simp only [List.map_toArray, List.map_cons, List.map_nil]); first | done | rfl | (simp only [List.length_drop, List.length_take]; rfl)) ?_; (with_reducible refine (row_number.calls k1 (fun k_ => some k_ = (.slice (some ⟨go23, 0, none⟩) x4_1.length co32 : Value).ownBlock) (.slice (some ⟨go23, 0, none⟩) x4_1.length co32) y117 ((rd_T25 l0 x23_1).f1) t118 w _ ?side1 ?side2 A25.out).mono ?_); (case side1 => repeat (first | (with_reducible first | exact HB.out | apply below_alloc | apply pw_below_drewN | apply below_drew1 | refine below_set ?_ GE114.out) | exact HB.out)); (case side2 => exact Kd.R_tight rfl HO_4.out); rintro e w36 ⟨v119, rfl, ho0, hb, hkp⟩; refine ⟨_, rfl, ?_⟩; have n0_ := Aside0.mk (blk_kept (by (with_reducible repeat (first | refine blk_drewN ?_ _ | refine blk_drew ?_ | refine blk_alloc ?_ _)); exact BK114.out) hkp (fun hs_ => (fun e_ => (Kd.R_ne HO_4.out BK114.out (by decide)) e_) hs_)); have n1_ := Aside0.mk (Kd.R_mono (ok' := fun k_ => True) ho0 (fun k_ hk_ => trivial)); have n2_ := Aside0.mk (hb); clear BK114; clear HB; clear HO_4; have BK114 := n0_; have HO120 := n1_; have HB := n2_; clear n0_ n1_ n2_; (try clear hb); (try clear hkp); (try clear ho0)))
               go_roundg k1
               case measure => have := HK1.out; omega
               case rel => exact ⟨(t118), (wrap64 (x23_1 + 1)), (by first | rfl | (simp; done) | (simp [*]; done)), H', ⟨by have := HK1.out; omega⟩, ⟨by (with_reducible repeat (first | apply Kd.R_alloc | apply Kd.R_drewN | apply Kd.R_drew)); exact HO120.out⟩, ⟨by repeat (first | (with_reducible first | exact HB.out | apply below_alloc | apply pw_below_drewN | apply below_drew1 | refine below_set ?_ GE114.out) | exact HB.out)⟩⟩
              ·
               rw [if_neg c24] at H
               have c24b0 : (((rd_T25 l0 x23_1).f0) == 1) = false := beq_eq_false_iff_ne.mpr c24
               have c24b1 : (((rd_T25 l0 x23_1).f0) != 1) = true := bne_iff_ne.mpr c24
               by_cases c37 : ((rd_T25 l0 x23_1).f0) = 2
               ·
                rw [if_pos c37] at H
                have c37b0 : (((rd_T25 l0 x23_1).f0) == 2) = true := beq_iff_eq.mpr c37
                have c37b1 : (((rd_T25 l0 x23_1).f0) != 2) = false := bne_eq_false_iff_eq.mpr c37
                clear c37
                by_cases c38 : y117.length < 140737488355328
                ·
                 rw [if_pos c38] at H
                 have LMc38 := Aside0.mk c38
                 clear c38
                 obtain ⟨y121, hy121⟩ : ∃ y_ : List Int, y_ = (y117 ++ [((rd_T25 l0 x23_1).f1) % 256]) := ⟨_, rfl⟩
                 replace H : (row_Encode.l0 k1 y121 l0 (l0.length : Int) (wrap64 (x23_1 + 1))) = some (r1, r2) := by first | (rw [hy121]; with_reducible exact H) | (have H2_ := (Option.bind_some _ _).symm.trans H; rw [hy121]; with_reducible exact H2_) | (have H2_ := (Option.bind_some _ _).symm.trans H; with_reducible exact H2_) | with_reducible exact H | (rw [hy121]; exact H) | exact H
                 have Ny121 := Aside0.mk hy121
                 clear hy121
                 have H' := Aside0.mk H
                 clear H
                 have p113 : 0 ≤ (x23_1 : Int) := of_decide_eq_true (by first | (with_reducible assumption) | assumption)
                 have q113 : x23_1 < (l0.length : Int) := of_decide_eq_true (by first | (with_reducible assumption) | assumption)
                 obtain ⟨ad113, e113, hx113_0, hx113_1, hx113_2⟩ := at_T25 HR0.out x23_1 p113 q113
                 cases e113
                 replace hx113_0 := (HB.out.cell (World.block_lt_of_cell? w _ hx113_0)).trans hx113_0
                 replace hx113_1 := (HB.out.cell (World.block_lt_of_cell? w _ hx113_1)).trans hx113_1
                 replace hx113_2 := (HB.out.cell (World.block_lt_of_cell? w _ hx113_2)).trans hx113_2
                 replace p113 := eq_true p113
                 replace q113 := eq_true q113
                 try go_wp2_with (first | ((with_reducible refine gate_dst (N := 6) rfl ?_); refine box_event ?hg (N := 6) ?hd (cs := #[.int .i64 0, .int .i64 0, .string (⟨#[]⟩ : ByteArray)]) (t := 25) ?hr ?_; (case hd => rfl); (case hg => rfl); (case hr => first | (go_simp; done) | (go_simp; rfl)); intro gb114 hg w39 hbox hb; have n0_ := Aside0.mk (Kd.R_below (by (with_reducible repeat (first | apply Kd.R_alloc | apply Kd.R_drewN | apply Kd.R_drew)); exact HO_4.out) hb); have n1_ := Aside0.mk (below_step (by repeat (first | (with_reducible first | exact HB.out | apply below_alloc | apply pw_below_drewN | apply below_drew1) | exact HB.out)) hb); have n2_ := Aside0.mk (hbox); have n3_ := Aside0.mk ((by rw [hg]; exact (below_size (by repeat (first | (with_reducible first | exact HB.out | apply below_alloc | apply pw_below_drewN | apply below_drew1) | exact HB.out))) : w.heap.size ≤ gb114)); have n4_ := Aside0.mk ((by rw [hg]; exact (below_size (by repeat (first | (with_reducible first | exact HB.out | apply below_alloc | apply pw_below_drewN | apply below_drew1) | exact HB.out))) : w.heap.size ≤ gb114)); clear HO_4; clear HB; have HO_4 := n0_; have HB := n1_; have BK114 := n2_; have GW114 := n3_; have GE114 := n4_; clear n0_ n1_ n2_ n3_ n4_; clear hb hbox hg; have hcz40_0 : w39.cell? ⟨gb114, 0, none⟩ = some (.int .i64 0) := (blk_cell BK114.out 0).trans rfl; have hcz40_1 : w39.cell? ⟨gb114, 1, none⟩ = some (.int .i64 0) := (blk_cell BK114.out 1).trans rfl; have hcz40_2 : w39.cell? ⟨gb114, 2, none⟩ = some (.string (⟨#[]⟩ : ByteArray)) := (blk_cell BK114.out 2).trans rfl; have hfz40_0 := blk_frozen BK114.out 0; have hfz40_1 := blk_frozen BK114.out 1; have hfz40_2 := blk_frozen BK114.out 2) | ((with_reducible refine gate_store (t := 25) (p := 6) rfl ?_); refine store_event (t := 25) (p := 6) (v := ?vo_w41) (w1 := (((w39.setCell ⟨gb114, 0, none⟩ (.int .i64 ((rd_T25 l0 x23_1).f0))).setCell ⟨gb114, 1, none⟩ (.int .i64 ((rd_T25 l0 x23_1).f1))).setCell ⟨gb114, 2, none⟩ (.string ((rd_T25 l0 x23_1).f2)))) ?hg ?ho ?hn ?hr ?_; (case ho => rfl); (case hg => rfl); (case hn => rfl); (case hr => first | (go_simp; done) | (go_simp; rfl)); intro w41 hw; have n0_ : Aside0 (Kd.R (Kd.int .u8) 5 w41 w.heap.size (fun _ => True) u4 x4_1) := ⟨(by rw [hw]; exact (by (with_reducible repeat (first | apply Kd.R_alloc | apply Kd.R_drewN | apply Kd.R_drew)); exact Kd.R_mono (Kd.R_far (p := ⟨gb114, 2, none⟩) (Kd.R_far (p := ⟨gb114, 1, none⟩) (Kd.R_far (p := ⟨gb114, 0, none⟩) (Kd.R_types HO_4.out BK114.out (by decide)) (fun _ hk => hk.2) (.int .i64 ((rd_T25 l0 x23_1).f0))) (fun _ hk => hk.2) (.int .i64 ((rd_T25 l0 x23_1).f1))) (fun _ hk => hk.2) (.string ((rd_T25 l0 x23_1).f2))) (fun _ hk => trivial)))⟩; have n1_ : Aside0 (w41.heap[gb114]? = some (.cells #[.int .i64 ((rd_T25 l0 x23_1).f0), .int .i64 ((rd_T25 l0 x23_1).f1), .string ((rd_T25 l0 x23_1).f2)] 25 (0, 0))) := ⟨(by rw [hw]; exact (by (with_reducible repeat (first | refine blk_drewN ?_ _ | refine blk_drew ?_ | refine blk_alloc ?_ _)); refine blk_put (cs := #[.int .i64 ((rd_T25 l0 x23_1).f0), .int .i64 ((rd_T25 l0 x23_1).f1), .string (⟨#[]⟩ : ByteArray)]) ?_ 2 _ rfl; (with_reducible repeat (first | refine blk_drewN ?_ _ | refine blk_drew ?_ | refine blk_alloc ?_ _)); refine blk_put (cs := #[.int .i64 ((rd_T25 l0 x23_1).f0), .int .i64 0, .string (⟨#[]⟩ : ByteArray)]) ?_ 1 _ rfl; (with_reducible repeat (first | refine blk_drewN ?_ _ | refine blk_drew ?_ | refine blk_alloc ?_ _)); refine blk_put (cs := #[.int .i64 0, .int .i64 0, .string (⟨#[]⟩ : ByteArray)]) ?_ 0 _ rfl; (with_reducible repeat (first | refine blk_drewN ?_ _ | refine blk_drew ?_ | refine blk_alloc ?_ _)); exact BK114.out))⟩; have n2_ : Aside0 (Below w.heap.size w w41) := ⟨(by rw [hw]; exact (by repeat (first | (with_reducible first | exact HB.out | apply below_alloc | apply pw_below_drewN | apply below_drew1 | refine below_set ?_ GE114.out) | exact HB.out)))⟩; clear hw; clear HO_4; clear BK114; clear HB; have HO_4 := n0_; have BK114 := n1_; have HB := n2_; clear n0_ n1_ n2_; have hcz42_0 : w41.cell? ⟨gb114, 0, none⟩ = some (.int .i64 ((rd_T25 l0 x23_1).f0)) := (blk_cell BK114.out 0).trans rfl; have hcz42_1 : w41.cell? ⟨gb114, 1, none⟩ = some (.int .i64 ((rd_T25 l0 x23_1).f1)) := (blk_cell BK114.out 1).trans rfl; have hcz42_2 : w41.cell? ⟨gb114, 2, none⟩ = some (.string ((rd_T25 l0 x23_1).f2)) := (blk_cell BK114.out 2).trans rfl; have hfz42_0 := blk_frozen BK114.out 0; have hfz42_1 := blk_frozen BK114.out 1; have hfz42_2 := blk_frozen BK114.out 2) | ((with_reducible refine gate_callee (f := 15) rfl ?_); refine goesL_ (some 29) rfl rfl Try.func15 (by kernel_rfl) rfl #[.agg #[.int .i64 ((rd_T25 l0 x23_1).f0), .int .i64 ((rd_T25 l0 x23_1).f1), .string ((rd_T25 l0 x23_1).f2)]] rfl (by (try simp only [List.map_toArray, List.map_cons, List.map_nil]); first | done | rfl | (simp only [List.length_drop, List.length_take]; rfl)) ?_; (with_reducible refine (value_Right.calls ((rd_T25 l0 x23_1).f0) ((rd_T25 l0 x23_1).f1) ((rd_T25 l0 x23_1).f2) true _ A15.out).mono ?_); rintro e w43 ⟨rfl, hb⟩; refine ⟨_, rfl, ?_⟩; have n0_ := Aside0.mk (Kd.R_below (by (with_reducible repeat (first | apply Kd.R_alloc | apply Kd.R_drewN | apply Kd.R_drew)); exact HO_4.out) hb); have n1_ := Aside0.mk (blk_below (g := gb114) (o := .cells #[.int .i64 ((rd_T25 l0 x23_1).f0), .int .i64 ((rd_T25 l0 x23_1).f1), .string ((rd_T25 l0 x23_1).f2)] 25 (0, 0)) (by (with_reducible repeat (first | refine blk_drewN ?_ _ | refine blk_drew ?_ | refine blk_alloc ?_ _)); exact BK114.out) hb); have n2_ := Aside0.mk (below_step (by repeat (first | (with_reducible first | exact HB.out | apply below_alloc | apply pw_below_drewN | apply below_drew1 | refine below_set ?_ GE114.out) | exact HB.out)) hb); clear HO_4; clear BK114; clear HB; have HO_4 := n0_; have BK114 := n1_; have HB := n2_; clear n0_ n1_ n2_; (try clear hb); (try clear hb2); (try clear hk); (try clear hi)))
                 have n0_ := Aside0.mk (Kd.R_drew HO_4.out)
                 have n1_ := Aside0.mk (blk_drew BK114.out)
                 have n2_ := Aside0.mk (below_drew1 HB.out)
                 clear HO_4
                 clear BK114
                 clear HB
                 have HO_4 := n0_
                 have BK114 := n1_
                 have HB := n2_
                 clear n0_ n1_ n2_
                 obtain ⟨Ao45, co45, eo45⟩ := Kd.R_slice HO_4.out
                 (first | subst eo45 | (injection eo45 with f1_ f2_ f3_; have f4_ := f1_.symm; have f5_ := f3_.symm; clear f1_ f2_ f3_; subst f4_; subst f5_))
                 have p116 : 0 ≤ ((ji17) : Int) := of_decide_eq_true (by first | (with_reducible assumption) | assumption)
                 have q116 : (ji17) < (x4_1.length : Int) := of_decide_eq_true (by first | (with_reducible assumption) | assumption)
                 obtain ⟨ad116, e116, hx116_0⟩ := Kd.at_int (Kd.R_reads' HO_4.out).2.2 (ji17) p116 q116
                 cases e116
                 replace p116 := eq_true p116
                 replace q116 := eq_true q116
                 have p23 : 0 ≤ ((ji17) : Int) := of_decide_eq_true (by first | (with_reducible assumption) | assumption)
                 have q23 : ((ji17) : Int) < ((x4_1.length : Int) : Int) := of_decide_eq_true (by first | (with_reducible assumption) | assumption)
                 obtain ⟨go23, co23, eo23, gb23, gl23, cl23, HG23⟩ := Kd.R_form HO_4.out (by omega)
                 (first | cases eo23 | (injection eo23 with ea_ en_ ec_; (first | subst ea_ | (injection ea_ with ea_; subst ea_)); subst ec_; clear en_))
                 have GB23 := Aside0.mk gb23
                 have GG23 := Aside0.mk HG23
                 clear gb23 gl23 HG23
                 (first | simp only [add_plain] at hx116_0 | skip)
                 obtain ⟨hx23_0, hf23_0⟩ := Kd.R_celln 0 HO_4.out ((ji17) : Int) p23 q23
                 replace p23 := eq_true p23
                 replace q23 := eq_true q23
                 have HP46 := Kd.R_putn HO_4.out ((ji17) : Int) (Go.bits .or .u8 (rd x4_1 (ji17)) (ji22))
                 rw [← Ny117.out] at HP46
                 have HQ46 := Aside0.mk HP46
                 clear HP46
                 refine start_ (n := 16) (S := fun w' => w'.cell? ⟨gb114, 0, none⟩ = some (.int .i64 ((rd_T25 l0 x23_1).f0)) ∧ w'.cell? ⟨gb114, 1, none⟩ = some (.int .i64 ((rd_T25 l0 x23_1).f1)) ∧ w'.cell? ⟨gb114, 2, none⟩ = some (.string ((rd_T25 l0 x23_1).f2)) ∧ w'.cell? ⟨go23, ((ji17)).toNat, none⟩ = some (.int .u8 (rd x4_1 (ji17)))) (ds := [15]) #[false, false, false, false, false, false, false, false, false, false, false, false, false, false, false, false] (by kernel_rfl) rfl rfl ⟨(blk_cell BK114.out 0).trans rfl, (blk_cell BK114.out 1).trans rfl, (blk_cell BK114.out 2).trans rfl, hx116_0⟩ (fun hHeld => ?_); refine with_tabW row_Encode.tab10 row_Encode.bits10 (fun HT_ HW_ => ?_)
                 generalize w43.drew = w44 at HO_4 BK114 HB GG23 HQ46 hf23_0 hx116_0 hx23_0 hHeld ⊢
                 refine pure_ (i := 0) (N := some 31) (v := ?_) (a' := ?_) #[true, false, false, false, false, false, false, false, false, false, false, false, false, false, false, false] rfl rfl (any_of HT_.out (by kernel_rfl)) (fun _ _ _ h => h) (Or.inl ⟨by rfl, ?_⟩) ?_ ?_
                 rotate_left; focus (intro w'; go_simp; with_reducible rfl; done)
                 rotate_left; focus (simp only [Act.put, List.setIfInBounds_toArray, List.set_cons_zero, List.set_cons_succ, i64_w, i32_w, u8_w, u32_w]; rfl; done)
                 refine pure_ (i := 1) (N := some 32) (v := ?_) (a' := ?_) #[true, true, false, false, false, false, false, false, false, false, false, false, false, false, false, false] rfl rfl (any_of HT_.out (by kernel_rfl)) (fun _ _ _ h => h) (Or.inl ⟨by rfl, ?_⟩) ?_ ?_
                 rotate_left; focus (intro w'; go_simp; with_reducible rfl; done)
                 rotate_left; focus (simp only [Act.put, List.setIfInBounds_toArray, List.set_cons_zero, List.set_cons_succ, i64_w, i32_w, u8_w, u32_w]; rfl; done)
                 refine pure_ (i := 2) (N := some 33) (v := ?_) (a' := ?_) #[true, true, true, false, false, false, false, false, false, false, false, false, false, false, false, false] rfl rfl (any_of HT_.out (by kernel_rfl)) (fun _ _ _ h => h) (Or.inl ⟨by rfl, ?_⟩) ?_ ?_
                 rotate_left; focus (intro w'; go_simp; with_reducible rfl; done)
                 rotate_left; focus (simp only [Act.put, List.setIfInBounds_toArray, List.set_cons_zero, List.set_cons_succ, i64_w, i32_w, u8_w, u32_w]; rfl; done)
                 refine pure_ (i := 3) (N := some 34) (v := ?_) (a' := ?_) #[true, true, true, true, false, false, false, false, false, false, false, false, false, false, false, false] rfl rfl (any_of HT_.out (by kernel_rfl)) (fun _ _ _ h => h) (Or.inl ⟨by rfl, ?_⟩) ?_ ?_
                 rotate_left; focus (intro w'; go_simp; with_reducible rfl; done)
                 rotate_left; focus (simp only [Act.put, List.setIfInBounds_toArray, List.set_cons_zero, List.set_cons_succ, i64_w, i32_w, u8_w, u32_w]; rfl; done)
                 refine pure_ (i := 4) (N := some 35) (v := ?_) (a' := ?_) #[true, true, true, true, true, false, false, false, false, false, false, false, false, false, false, false] rfl rfl (any_of HT_.out (by kernel_rfl)) (fun _ _ _ h => h) (Or.inl ⟨by rfl, ?_⟩) ?_ ?_
                 rotate_left; focus (intro w'; go_simp; with_reducible rfl; done)
                 rotate_left; focus (simp only [Act.put, List.setIfInBounds_toArray, List.set_cons_zero, List.set_cons_succ, i64_w, i32_w, u8_w, u32_w]; rfl; done)
                 refine pure_ (i := 6) (N := some 37) (v := ?_) (a' := ?_) #[true, true, true, true, true, false, true, false, false, false, false, false, false, false, false, false] rfl rfl (any_of HT_.out (by kernel_rfl)) (fun _ _ _ h => h) (Or.inl ⟨by rfl, ?_⟩) ?_ ?_
                 rotate_left; focus (intro w'; go_simp; with_reducible rfl; done)
                 rotate_left; focus (simp only [Act.put, List.setIfInBounds_toArray, List.set_cons_zero, List.set_cons_succ, i64_w, i32_w, u8_w, u32_w]; rfl; done)
                 refine pure_ (i := 9) (N := some 40) (v := ?_) (a' := ?_) #[true, true, true, true, true, false, true, false, false, true, false, false, false, false, false, false] rfl rfl (any_of HT_.out (by kernel_rfl)) (fun _ _ _ h => h) (Or.inl ⟨by rfl, ?_⟩) ?_ ?_
                 rotate_left; focus (intro w'; go_simp; with_reducible rfl; done)
                 rotate_left; focus (simp only [Act.put, List.setIfInBounds_toArray, List.set_cons_zero, List.set_cons_succ, i64_w, i32_w, u8_w, u32_w]; rfl; done)
                 refine pure_ (i := 10) (N := some 41) (v := ?_) (a' := ?_) #[true, true, true, true, true, false, true, false, false, true, true, false, false, false, false, false] rfl rfl (any_of HT_.out (by kernel_rfl)) (fun _ _ _ h => h) (Or.inl ⟨by rfl, ?_⟩) ?_ ?_
                 rotate_left; focus (intro w'; go_simp; with_reducible rfl; done)
                 rotate_left; focus (simp only [Act.put, List.setIfInBounds_toArray, List.set_cons_zero, List.set_cons_succ, i64_w, i32_w, u8_w, u32_w]; rfl; done)
                 refine pure_ (i := 11) (N := some 42) (v := ?_) (a' := ?_) #[true, true, true, true, true, false, true, false, false, true, true, true, false, false, false, false] rfl rfl (any_of HT_.out (by kernel_rfl)) (fun _ _ _ h => h) (Or.inl ⟨by rfl, ?_⟩) ?_ ?_
                 rotate_left; focus (intro w'; go_simp; with_reducible rfl; done)
                 rotate_left; focus (simp only [Act.put, List.setIfInBounds_toArray, List.set_cons_zero, List.set_cons_succ, i64_w, i32_w, u8_w, u32_w]; rfl; done)
                 refine take_ (i := 5) (N := some 36) (v := ?_) (a' := ?_) #[true, true, true, true, true, true, true, false, false, true, true, true, false, false, false, false] rfl rfl (take_ofW HT_.out HW_.out (by kernel_rfl)) (fun _ _ _ h => h) (Or.inl ⟨by rfl, ?_⟩) hHeld ?_ ?_
                 rotate_left; focus (rintro w' ⟨s0, s1, s2, s3⟩; go_simp; with_reducible rfl; done)
                 rotate_left; focus (simp only [Act.put, List.setIfInBounds_toArray, List.set_cons_zero, List.set_cons_succ, i64_w, i32_w, u8_w, u32_w]; rfl; done)
                 refine take_ (i := 7) (N := some 38) (v := ?_) (a' := ?_) #[true, true, true, true, true, true, true, true, false, true, true, true, false, false, false, false] rfl rfl (take_ofW HT_.out HW_.out (by kernel_rfl)) (fun _ _ _ h => h) (Or.inl ⟨by rfl, ?_⟩) hHeld ?_ ?_
                 rotate_left; focus (rintro w' ⟨s0, s1, s2, s3⟩; go_simp; with_reducible rfl; done)
                 rotate_left; focus (simp only [Act.put, List.setIfInBounds_toArray, List.set_cons_zero, List.set_cons_succ, i64_w, i32_w, u8_w, u32_w]; rfl; done)
                 refine pure_ (i := 8) (N := some 39) (v := ?_) (a' := ?_) #[true, true, true, true, true, true, true, true, true, true, true, true, false, false, false, false] rfl rfl (any_of HT_.out (by kernel_rfl)) (fun _ _ _ h => h) (Or.inl ⟨by rfl, ?_⟩) ?_ ?_
                 rotate_left; focus (intro w'; go_simp; with_reducible rfl; done)
                 rotate_left; focus (simp only [Act.put, List.setIfInBounds_toArray, List.set_cons_zero, List.set_cons_succ, i64_w, i32_w, u8_w, u32_w]; rfl; done)
                 refine pure_ (i := 12) (N := some 43) (v := ?_) (a' := ?_) #[true, true, true, true, true, true, true, true, true, true, true, true, true, false, false, false] rfl rfl (any_of HT_.out (by kernel_rfl)) (fun _ _ _ h => h) (Or.inl ⟨by rfl, ?_⟩) ?_ ?_
                 rotate_left; focus (intro w'; go_simp; with_reducible rfl; done)
                 rotate_left; focus (simp only [Act.put, List.setIfInBounds_toArray, List.set_cons_zero, List.set_cons_succ, i64_w, i32_w, u8_w, u32_w]; rfl; done)
                 refine pure_ (i := 13) (N := some 44) (v := ?_) (a' := ?_) #[true, true, true, true, true, true, true, true, true, true, true, true, true, true, false, false] rfl rfl (any_of HT_.out (by kernel_rfl)) (fun _ _ _ h => h) (Or.inl ⟨by rfl, ?_⟩) ?_ ?_
                 rotate_left; focus (intro w'; go_simp; with_reducible rfl; done)
                 rotate_left; focus (simp only [Act.put, List.setIfInBounds_toArray, List.set_cons_zero, List.set_cons_succ, i64_w, i32_w, u8_w, u32_w]; rfl; done)
                 refine pure_ (i := 14) (N := some 45) (v := ?_) (a' := ?_) #[true, true, true, true, true, true, true, true, true, true, true, true, true, true, true, false] rfl rfl (any_of HT_.out (by kernel_rfl)) (fun _ _ _ h => h) (Or.inl ⟨by rfl, ?_⟩) ?_ ?_
                 rotate_left; focus (intro w'; go_simp; with_reducible rfl; done)
                 rotate_left; focus (simp only [Act.put, List.setIfInBounds_toArray, List.set_cons_zero, List.set_cons_succ, i64_w, i32_w, u8_w, u32_w]; rfl; done)
                 refine last_ (i := 15) (N := none) #[true, true, true, true, true, true, true, true, true, true, true, true, true, true, true, true] rfl rfl (one_of HT_.out (by kernel_rfl)) (by decide) (fun K hK => ?_)
                 refine skip_ (w1 := ?_) (by rfl) rfl ?_ ?_
                 rotate_left; focus (go_simp; rfl; done)
                 refine hK.out _ _ ?_
                 clear hK K
                 refine done_ (done_of HT_.out (by kernel_rfl)) ?_
                 have n0_ : Aside0 (Kd.R (Kd.int .u8) 5 (w44.setCell ⟨go23, ((ji17) : Int).toNat, none⟩ (.int .u8 (Go.bits .or .u8 (rd x4_1 (ji17)) (ji22)))) w.heap.size (fun _ => True) (.slice (some ⟨go23, 0, none⟩) x4_1.length co45) y117) := ⟨by (with_reducible repeat (first | apply Kd.R_alloc | apply Kd.R_drewN | apply Kd.R_drew)); exact HQ46.out⟩
                 have n1_ : Aside0 ((w44.setCell ⟨go23, ((ji17) : Int).toNat, none⟩ (.int .u8 (Go.bits .or .u8 (rd x4_1 (ji17)) (ji22)))).heap[gb114]? = some (.cells #[.int .i64 ((rd_T25 l0 x23_1).f0), .int .i64 ((rd_T25 l0 x23_1).f1), .string ((rd_T25 l0 x23_1).f2)] 25 (0, 0))) := ⟨by (with_reducible repeat (first | refine blk_drewN ?_ _ | refine blk_drew ?_ | refine blk_alloc ?_ _)); refine blk_far ?_ (by have h_ := Kd.R_ne HO_4.out BK114.out (by decide); intro e_; exact h_ (by rw [e_]; rfl)) _; (with_reducible repeat (first | refine blk_drewN ?_ _ | refine blk_drew ?_ | refine blk_alloc ?_ _)); exact BK114.out⟩
                 have n2_ : Aside0 (Below w.heap.size w (w44.setCell ⟨go23, ((ji17) : Int).toNat, none⟩ (.int .u8 (Go.bits .or .u8 (rd x4_1 (ji17)) (ji22))))) := ⟨by repeat (first | (with_reducible first | exact HB.out | apply below_alloc | apply pw_below_drewN | apply below_drew1 | refine below_set ?_ GB23.out | refine below_set ?_ GE114.out) | exact HB.out)⟩
                 (try clear HO_4)
                 (try clear BK114)
                 (try clear HB)
                 generalize (w44.setCell ⟨go23, ((ji17) : Int).toNat, none⟩ (.int .u8 (Go.bits .or .u8 (rd x4_1 (ji17)) (ji22)))) = w47 at n0_ n1_ n2_ ⊢
                 have HO_4 := n0_
                 have BK114 := n1_
                 have HB := n2_
                 clear n0_ n1_ n2_
                 have hcz48_0 : w47.cell? ⟨gb114, 0, none⟩ = some (.int .i64 ((rd_T25 l0 x23_1).f0)) := (blk_cell BK114.out 0).trans rfl
                 have hcz48_1 : w47.cell? ⟨gb114, 1, none⟩ = some (.int .i64 ((rd_T25 l0 x23_1).f1)) := (blk_cell BK114.out 1).trans rfl
                 have hcz48_2 : w47.cell? ⟨gb114, 2, none⟩ = some (.string ((rd_T25 l0 x23_1).f2)) := (blk_cell BK114.out 2).trans rfl
                 have hfz48_0 := blk_frozen BK114.out 0
                 have hfz48_1 := blk_frozen BK114.out 1
                 have hfz48_2 := blk_frozen BK114.out 2
                 try go_wp2_with (first | ((with_reducible refine gate_builtin (b := .append) (xs := #[.tmp 56, .tmp 60]) rfl ?_); at_builtin; refine Kd.R_append (Kd.int .u8) (w0 := w) w.heap.size rfl (.tmp 56) (.tmp 60) 39 5 (.int .u8 0) 1 rfl Try.underlying39 info5 rfl (by decide) (by omega) (.slice (some ⟨go23, 0, none⟩) x4_1.length co45) y117 (((rd_T25 l0 x23_1).f1) % 256) [.int .u8 (((rd_T25 l0 x23_1).f1) % 256)] (fun _ => True) (fun _ => False) rfl rfl ?aP (fun _ hk => hk.elim) ?aF ?aO ?aB ?aS ?aL ?_; (case aP => exact rfl); (case aB => exact (by repeat (first | (with_reducible first | exact HB.out | apply below_alloc | apply pw_below_drewN | apply below_drew1 | refine below_set ?_ GE114.out) | exact HB.out))); (case aF => exact (fun _ _ => trivial)); (case aO => exact (by (with_reducible repeat (first | apply Kd.R_alloc | apply Kd.R_drewN | apply Kd.R_drew)); exact HO_4.out)); (case aS => exact (below_size (by repeat (first | (with_reducible first | exact HB.out | apply below_alloc | apply pw_below_drewN | apply below_drew1 | refine below_set ?_ GE114.out) | exact HB.out)))); (case aL => have := LMc38.out; omega); intro v122 w49 ho hb hg hat; rw [← Ny121.out] at ho; have n0_ := Aside0.mk (blk_grown (g := gb114) (o := .cells #[.int .i64 ((rd_T25 l0 x23_1).f0), .int .i64 ((rd_T25 l0 x23_1).f1), .string ((rd_T25 l0 x23_1).f2)] 25 (0, 0)) (by (with_reducible repeat (first | refine blk_drewN ?_ _ | refine blk_drew ?_ | refine blk_alloc ?_ _)); exact BK114.out) hg (Kd.R_ne HO_4.out BK114.out (by decide))); have n1_ := Aside0.mk (hb); have n2_ := Aside0.mk (ho); clear BK114; clear HB; clear HO_4; have BK114 := n0_; have HB := n1_; have HO123 := n2_; clear n0_ n1_ n2_; clear ho hb hg hat))
                 go_roundg k1
                 case measure => have := HK1.out; omega
                 case rel => exact ⟨(y121), (wrap64 (x23_1 + 1)), (by first | rfl | (simp; done) | (simp [*]; done)), H', ⟨by have := HK1.out; omega⟩, ⟨by (with_reducible repeat (first | apply Kd.R_alloc | apply Kd.R_drewN | apply Kd.R_drew)); exact HO123.out⟩, ⟨by repeat (first | (with_reducible first | exact HB.out | apply below_alloc | apply pw_below_drewN | apply below_drew1 | refine below_set ?_ GE114.out) | exact HB.out)⟩⟩
                ·
                 rw [if_neg c38] at H
                 exact absurd H (by simp)
               ·
                rw [if_neg c37] at H
                have c37b0 : (((rd_T25 l0 x23_1).f0) == 2) = false := beq_eq_false_iff_ne.mpr c37
                have c37b1 : (((rd_T25 l0 x23_1).f0) != 2) = true := bne_iff_ne.mpr c37
                by_cases c50 : ((rd_T25 l0 x23_1).f0) = 3
                ·
                 rw [if_pos c50] at H
                 have c50b0 : (((rd_T25 l0 x23_1).f0) == 3) = true := beq_iff_eq.mpr c50
                 have c50b1 : (((rd_T25 l0 x23_1).f0) != 3) = false := bne_eq_false_iff_eq.mpr c50
                 clear c50
                 by_cases c51 : y117.length < 140737488355328
                 ·
                  rw [if_pos c51] at H
                  have LMc51 := Aside0.mk c51
                  clear c51
                  obtain ⟨y124, hy124⟩ : ∃ y_ : List Int, y_ = (y117 ++ [((((rd_T25 l0 x23_1).f2).size : Int)) % 256]) := ⟨_, rfl⟩
                  replace H : (if y124.length + ((rd_T25 l0 x23_1).f2).size < 140737488355328 then (row_Encode.l0 k1 (y124 ++ bytesOf ((rd_T25 l0 x23_1).f2)) l0 (l0.length : Int) (wrap64 (x23_1 + 1))) else (none)) = some (r1, r2) := by first | (rw [hy124]; with_reducible exact H) | (have H2_ := (Option.bind_some _ _).symm.trans H; rw [hy124]; with_reducible exact H2_) | (have H2_ := (Option.bind_some _ _).symm.trans H; with_reducible exact H2_) | with_reducible exact H | (rw [hy124]; exact H) | exact H
                  have Ny124 := Aside0.mk hy124
                  clear hy124
                  by_cases c52 : y124.length + ((rd_T25 l0 x23_1).f2).size < 140737488355328
                  ·
                   rw [if_pos c52] at H
                   have LMc52 := Aside0.mk c52
                   clear c52
                   obtain ⟨y127, hy127⟩ : ∃ y_ : List Int, y_ = (y124 ++ bytesOf ((rd_T25 l0 x23_1).f2)) := ⟨_, rfl⟩
                   replace H : (row_Encode.l0 k1 y127 l0 (l0.length : Int) (wrap64 (x23_1 + 1))) = some (r1, r2) := by first | (rw [hy127]; with_reducible exact H) | (have H2_ := (Option.bind_some _ _).symm.trans H; rw [hy127]; with_reducible exact H2_) | (have H2_ := (Option.bind_some _ _).symm.trans H; with_reducible exact H2_) | with_reducible exact H | (rw [hy127]; exact H) | exact H
                   have Ny127 := Aside0.mk hy127
                   clear hy127
                   have H' := Aside0.mk H
                   clear H
                   have p113 : 0 ≤ (x23_1 : Int) := of_decide_eq_true (by first | (with_reducible assumption) | assumption)
                   have q113 : x23_1 < (l0.length : Int) := of_decide_eq_true (by first | (with_reducible assumption) | assumption)
                   obtain ⟨ad113, e113, hx113_0, hx113_1, hx113_2⟩ := at_T25 HR0.out x23_1 p113 q113
                   cases e113
                   replace hx113_0 := (HB.out.cell (World.block_lt_of_cell? w _ hx113_0)).trans hx113_0
                   replace hx113_1 := (HB.out.cell (World.block_lt_of_cell? w _ hx113_1)).trans hx113_1
                   replace hx113_2 := (HB.out.cell (World.block_lt_of_cell? w _ hx113_2)).trans hx113_2
                   replace p113 := eq_true p113
                   replace q113 := eq_true q113
                   try go_wp2_with (first | ((with_reducible refine gate_dst (N := 6) rfl ?_); refine box_event ?hg (N := 6) ?hd (cs := #[.int .i64 0, .int .i64 0, .string (⟨#[]⟩ : ByteArray)]) (t := 25) ?hr ?_; (case hd => rfl); (case hg => rfl); (case hr => first | (go_simp; done) | (go_simp; rfl)); intro gb114 hg w53 hbox hb; have n0_ := Aside0.mk (Kd.R_below (by (with_reducible repeat (first | apply Kd.R_alloc | apply Kd.R_drewN | apply Kd.R_drew)); exact HO_4.out) hb); have n1_ := Aside0.mk (below_step (by repeat (first | (with_reducible first | exact HB.out | apply below_alloc | apply pw_below_drewN | apply below_drew1) | exact HB.out)) hb); have n2_ := Aside0.mk (hbox); have n3_ := Aside0.mk ((by rw [hg]; exact (below_size (by repeat (first | (with_reducible first | exact HB.out | apply below_alloc | apply pw_below_drewN | apply below_drew1) | exact HB.out))) : w.heap.size ≤ gb114)); have n4_ := Aside0.mk ((by rw [hg]; exact (below_size (by repeat (first | (with_reducible first | exact HB.out | apply below_alloc | apply pw_below_drewN | apply below_drew1) | exact HB.out))) : w.heap.size ≤ gb114)); clear HO_4; clear HB; have HO_4 := n0_; have HB := n1_; have BK114 := n2_; have GW114 := n3_; have GE114 := n4_; clear n0_ n1_ n2_ n3_ n4_; clear hb hbox hg; have hcz54_0 : w53.cell? ⟨gb114, 0, none⟩ = some (.int .i64 0) := (blk_cell BK114.out 0).trans rfl; have hcz54_1 : w53.cell? ⟨gb114, 1, none⟩ = some (.int .i64 0) := (blk_cell BK114.out 1).trans rfl; have hcz54_2 : w53.cell? ⟨gb114, 2, none⟩ = some (.string (⟨#[]⟩ : ByteArray)) := (blk_cell BK114.out 2).trans rfl; have hfz54_0 := blk_frozen BK114.out 0; have hfz54_1 := blk_frozen BK114.out 1; have hfz54_2 := blk_frozen BK114.out 2) | ((with_reducible refine gate_store (t := 25) (p := 6) rfl ?_); refine store_event (t := 25) (p := 6) (v := ?vo_w55) (w1 := (((w53.setCell ⟨gb114, 0, none⟩ (.int .i64 ((rd_T25 l0 x23_1).f0))).setCell ⟨gb114, 1, none⟩ (.int .i64 ((rd_T25 l0 x23_1).f1))).setCell ⟨gb114, 2, none⟩ (.string ((rd_T25 l0 x23_1).f2)))) ?hg ?ho ?hn ?hr ?_; (case ho => rfl); (case hg => rfl); (case hn => rfl); (case hr => first | (go_simp; done) | (go_simp; rfl)); intro w55 hw; have n0_ : Aside0 (Kd.R (Kd.int .u8) 5 w55 w.heap.size (fun _ => True) u4 x4_1) := ⟨(by rw [hw]; exact (by (with_reducible repeat (first | apply Kd.R_alloc | apply Kd.R_drewN | apply Kd.R_drew)); exact Kd.R_mono (Kd.R_far (p := ⟨gb114, 2, none⟩) (Kd.R_far (p := ⟨gb114, 1, none⟩) (Kd.R_far (p := ⟨gb114, 0, none⟩) (Kd.R_types HO_4.out BK114.out (by decide)) (fun _ hk => hk.2) (.int .i64 ((rd_T25 l0 x23_1).f0))) (fun _ hk => hk.2) (.int .i64 ((rd_T25 l0 x23_1).f1))) (fun _ hk => hk.2) (.string ((rd_T25 l0 x23_1).f2))) (fun _ hk => trivial)))⟩; have n1_ : Aside0 (w55.heap[gb114]? = some (.cells #[.int .i64 ((rd_T25 l0 x23_1).f0), .int .i64 ((rd_T25 l0 x23_1).f1), .string ((rd_T25 l0 x23_1).f2)] 25 (0, 0))) := ⟨(by rw [hw]; exact (by (with_reducible repeat (first | refine blk_drewN ?_ _ | refine blk_drew ?_ | refine blk_alloc ?_ _)); refine blk_put (cs := #[.int .i64 ((rd_T25 l0 x23_1).f0), .int .i64 ((rd_T25 l0 x23_1).f1), .string (⟨#[]⟩ : ByteArray)]) ?_ 2 _ rfl; (with_reducible repeat (first | refine blk_drewN ?_ _ | refine blk_drew ?_ | refine blk_alloc ?_ _)); refine blk_put (cs := #[.int .i64 ((rd_T25 l0 x23_1).f0), .int .i64 0, .string (⟨#[]⟩ : ByteArray)]) ?_ 1 _ rfl; (with_reducible repeat (first | refine blk_drewN ?_ _ | refine blk_drew ?_ | refine blk_alloc ?_ _)); refine blk_put (cs := #[.int .i64 0, .int .i64 0, .string (⟨#[]⟩ : ByteArray)]) ?_ 0 _ rfl; (with_reducible repeat (first | refine blk_drewN ?_ _ | refine blk_drew ?_ | refine blk_alloc ?_ _)); exact BK114.out))⟩; have n2_ : Aside0 (Below w.heap.size w w55) := ⟨(by rw [hw]; exact (by repeat (first | (with_reducible first | exact HB.out | apply below_alloc | apply pw_below_drewN | apply below_drew1 | refine below_set ?_ GE114.out) | exact HB.out)))⟩; clear hw; clear HO_4; clear BK114; clear HB; have HO_4 := n0_; have BK114 := n1_; have HB := n2_; clear n0_ n1_ n2_; have hcz56_0 : w55.cell? ⟨gb114, 0, none⟩ = some (.int .i64 ((rd_T25 l0 x23_1).f0)) := (blk_cell BK114.out 0).trans rfl; have hcz56_1 : w55.cell? ⟨gb114, 1, none⟩ = some (.int .i64 ((rd_T25 l0 x23_1).f1)) := (blk_cell BK114.out 1).trans rfl; have hcz56_2 : w55.cell? ⟨gb114, 2, none⟩ = some (.string ((rd_T25 l0 x23_1).f2)) := (blk_cell BK114.out 2).trans rfl; have hfz56_0 := blk_frozen BK114.out 0; have hfz56_1 := blk_frozen BK114.out 1; have hfz56_2 := blk_frozen BK114.out 2) | ((with_reducible refine gate_callee (f := 15) rfl ?_); refine goesL_ (some 29) rfl rfl Try.func15 (by kernel_rfl) rfl #[.agg #[.int .i64 ((rd_T25 l0 x23_1).f0), .int .i64 ((rd_T25 l0 x23_1).f1), .string ((rd_T25 l0 x23_1).f2)]] rfl (by (try simp only [List.map_toArray, List.map_cons, List.map_nil]); first | done | rfl | (simp only [List.length_drop, List.length_take]; rfl)) ?_; (with_reducible refine (value_Right.calls ((rd_T25 l0 x23_1).f0) ((rd_T25 l0 x23_1).f1) ((rd_T25 l0 x23_1).f2) true _ A15.out).mono ?_); rintro e w57 ⟨rfl, hb⟩; refine ⟨_, rfl, ?_⟩; have n0_ := Aside0.mk (Kd.R_below (by (with_reducible repeat (first | apply Kd.R_alloc | apply Kd.R_drewN | apply Kd.R_drew)); exact HO_4.out) hb); have n1_ := Aside0.mk (blk_below (g := gb114) (o := .cells #[.int .i64 ((rd_T25 l0 x23_1).f0), .int .i64 ((rd_T25 l0 x23_1).f1), .string ((rd_T25 l0 x23_1).f2)] 25 (0, 0)) (by (with_reducible repeat (first | refine blk_drewN ?_ _ | refine blk_drew ?_ | refine blk_alloc ?_ _)); exact BK114.out) hb); have n2_ := Aside0.mk (below_step (by repeat (first | (with_reducible first | exact HB.out | apply below_alloc | apply pw_below_drewN | apply below_drew1 | refine below_set ?_ GE114.out) | exact HB.out)) hb); clear HO_4; clear BK114; clear HB; have HO_4 := n0_; have BK114 := n1_; have HB := n2_; clear n0_ n1_ n2_; (try clear hb); (try clear hb2); (try clear hk); (try clear hi)))
                   have n0_ := Aside0.mk (Kd.R_drew HO_4.out)
                   have n1_ := Aside0.mk (blk_drew BK114.out)
                   have n2_ := Aside0.mk (below_drew1 HB.out)
                   clear HO_4
                   clear BK114
                   clear HB
                   have HO_4 := n0_
                   have BK114 := n1_
                   have HB := n2_
                   clear n0_ n1_ n2_
                   obtain ⟨Ao59, co59, eo59⟩ := Kd.R_slice HO_4.out
                   (first | subst eo59 | (injection eo59 with f1_ f2_ f3_; have f4_ := f1_.symm; have f5_ := f3_.symm; clear f1_ f2_ f3_; subst f4_; subst f5_))
                   have p116 : 0 ≤ ((ji17) : Int) := of_decide_eq_true (by first | (with_reducible assumption) | assumption)
                   have q116 : (ji17) < (x4_1.length : Int) := of_decide_eq_true (by first | (with_reducible assumption) | assumption)
                   obtain ⟨ad116, e116, hx116_0⟩ := Kd.at_int (Kd.R_reads' HO_4.out).2.2 (ji17) p116 q116
                   cases e116
                   replace p116 := eq_true p116
                   replace q116 := eq_true q116
                   have p23 : 0 ≤ ((ji17) : Int) := of_decide_eq_true (by first | (with_reducible assumption) | assumption)
                   have q23 : ((ji17) : Int) < ((x4_1.length : Int) : Int) := of_decide_eq_true (by first | (with_reducible assumption) | assumption)
                   obtain ⟨go23, co23, eo23, gb23, gl23, cl23, HG23⟩ := Kd.R_form HO_4.out (by omega)
                   (first | cases eo23 | (injection eo23 with ea_ en_ ec_; (first | subst ea_ | (injection ea_ with ea_; subst ea_)); subst ec_; clear en_))
                   have GB23 := Aside0.mk gb23
                   have GG23 := Aside0.mk HG23
                   clear gb23 gl23 HG23
                   (first | simp only [add_plain] at hx116_0 | skip)
                   obtain ⟨hx23_0, hf23_0⟩ := Kd.R_celln 0 HO_4.out ((ji17) : Int) p23 q23
                   replace p23 := eq_true p23
                   replace q23 := eq_true q23
                   have HP60 := Kd.R_putn HO_4.out ((ji17) : Int) (Go.bits .or .u8 (rd x4_1 (ji17)) (ji22))
                   rw [← Ny117.out] at HP60
                   have HQ60 := Aside0.mk HP60
                   clear HP60
                   refine start_ (n := 16) (S := fun w' => w'.cell? ⟨gb114, 0, none⟩ = some (.int .i64 ((rd_T25 l0 x23_1).f0)) ∧ w'.cell? ⟨gb114, 1, none⟩ = some (.int .i64 ((rd_T25 l0 x23_1).f1)) ∧ w'.cell? ⟨gb114, 2, none⟩ = some (.string ((rd_T25 l0 x23_1).f2)) ∧ w'.cell? ⟨go23, ((ji17)).toNat, none⟩ = some (.int .u8 (rd x4_1 (ji17)))) (ds := [15]) #[false, false, false, false, false, false, false, false, false, false, false, false, false, false, false, false] (by kernel_rfl) rfl rfl ⟨(blk_cell BK114.out 0).trans rfl, (blk_cell BK114.out 1).trans rfl, (blk_cell BK114.out 2).trans rfl, hx116_0⟩ (fun hHeld => ?_); refine with_tabW row_Encode.tab10 row_Encode.bits10 (fun HT_ HW_ => ?_)
                   generalize w57.drew = w58 at HO_4 BK114 HB GG23 HQ60 hf23_0 hx116_0 hx23_0 hHeld ⊢
                   refine pure_ (i := 0) (N := some 31) (v := ?_) (a' := ?_) #[true, false, false, false, false, false, false, false, false, false, false, false, false, false, false, false] rfl rfl (any_of HT_.out (by kernel_rfl)) (fun _ _ _ h => h) (Or.inl ⟨by rfl, ?_⟩) ?_ ?_
                   rotate_left; focus (intro w'; go_simp; with_reducible rfl; done)
                   rotate_left; focus (simp only [Act.put, List.setIfInBounds_toArray, List.set_cons_zero, List.set_cons_succ, i64_w, i32_w, u8_w, u32_w]; rfl; done)
                   refine pure_ (i := 1) (N := some 32) (v := ?_) (a' := ?_) #[true, true, false, false, false, false, false, false, false, false, false, false, false, false, false, false] rfl rfl (any_of HT_.out (by kernel_rfl)) (fun _ _ _ h => h) (Or.inl ⟨by rfl, ?_⟩) ?_ ?_
                   rotate_left; focus (intro w'; go_simp; with_reducible rfl; done)
                   rotate_left; focus (simp only [Act.put, List.setIfInBounds_toArray, List.set_cons_zero, List.set_cons_succ, i64_w, i32_w, u8_w, u32_w]; rfl; done)
                   refine pure_ (i := 2) (N := some 33) (v := ?_) (a' := ?_) #[true, true, true, false, false, false, false, false, false, false, false, false, false, false, false, false] rfl rfl (any_of HT_.out (by kernel_rfl)) (fun _ _ _ h => h) (Or.inl ⟨by rfl, ?_⟩) ?_ ?_
                   rotate_left; focus (intro w'; go_simp; with_reducible rfl; done)
                   rotate_left; focus (simp only [Act.put, List.setIfInBounds_toArray, List.set_cons_zero, List.set_cons_succ, i64_w, i32_w, u8_w, u32_w]; rfl; done)
                   refine pure_ (i := 3) (N := some 34) (v := ?_) (a' := ?_) #[true, true, true, true, false, false, false, false, false, false, false, false, false, false, false, false] rfl rfl (any_of HT_.out (by kernel_rfl)) (fun _ _ _ h => h) (Or.inl ⟨by rfl, ?_⟩) ?_ ?_
                   rotate_left; focus (intro w'; go_simp; with_reducible rfl; done)
                   rotate_left; focus (simp only [Act.put, List.setIfInBounds_toArray, List.set_cons_zero, List.set_cons_succ, i64_w, i32_w, u8_w, u32_w]; rfl; done)
                   refine pure_ (i := 4) (N := some 35) (v := ?_) (a' := ?_) #[true, true, true, true, true, false, false, false, false, false, false, false, false, false, false, false] rfl rfl (any_of HT_.out (by kernel_rfl)) (fun _ _ _ h => h) (Or.inl ⟨by rfl, ?_⟩) ?_ ?_
                   rotate_left; focus (intro w'; go_simp; with_reducible rfl; done)
                   rotate_left; focus (simp only [Act.put, List.setIfInBounds_toArray, List.set_cons_zero, List.set_cons_succ, i64_w, i32_w, u8_w, u32_w]; rfl; done)
                   refine pure_ (i := 6) (N := some 37) (v := ?_) (a' := ?_) #[true, true, true, true, true, false, true, false, false, false, false, false, false, false, false, false] rfl rfl (any_of HT_.out (by kernel_rfl)) (fun _ _ _ h => h) (Or.inl ⟨by rfl, ?_⟩) ?_ ?_
                   rotate_left; focus (intro w'; go_simp; with_reducible rfl; done)
                   rotate_left; focus (simp only [Act.put, List.setIfInBounds_toArray, List.set_cons_zero, List.set_cons_succ, i64_w, i32_w, u8_w, u32_w]; rfl; done)
                   refine pure_ (i := 9) (N := some 40) (v := ?_) (a' := ?_) #[true, true, true, true, true, false, true, false, false, true, false, false, false, false, false, false] rfl rfl (any_of HT_.out (by kernel_rfl)) (fun _ _ _ h => h) (Or.inl ⟨by rfl, ?_⟩) ?_ ?_
                   rotate_left; focus (intro w'; go_simp; with_reducible rfl; done)
                   rotate_left; focus (simp only [Act.put, List.setIfInBounds_toArray, List.set_cons_zero, List.set_cons_succ, i64_w, i32_w, u8_w, u32_w]; rfl; done)
                   refine pure_ (i := 10) (N := some 41) (v := ?_) (a' := ?_) #[true, true, true, true, true, false, true, false, false, true, true, false, false, false, false, false] rfl rfl (any_of HT_.out (by kernel_rfl)) (fun _ _ _ h => h) (Or.inl ⟨by rfl, ?_⟩) ?_ ?_
                   rotate_left; focus (intro w'; go_simp; with_reducible rfl; done)
                   rotate_left; focus (simp only [Act.put, List.setIfInBounds_toArray, List.set_cons_zero, List.set_cons_succ, i64_w, i32_w, u8_w, u32_w]; rfl; done)
                   refine pure_ (i := 11) (N := some 42) (v := ?_) (a' := ?_) #[true, true, true, true, true, false, true, false, false, true, true, true, false, false, false, false] rfl rfl (any_of HT_.out (by kernel_rfl)) (fun _ _ _ h => h) (Or.inl ⟨by rfl, ?_⟩) ?_ ?_
                   rotate_left; focus (intro w'; go_simp; with_reducible rfl; done)
                   rotate_left; focus (simp only [Act.put, List.setIfInBounds_toArray, List.set_cons_zero, List.set_cons_succ, i64_w, i32_w, u8_w, u32_w]; rfl; done)
                   refine take_ (i := 5) (N := some 36) (v := ?_) (a' := ?_) #[true, true, true, true, true, true, true, false, false, true, true, true, false, false, false, false] rfl rfl (take_ofW HT_.out HW_.out (by kernel_rfl)) (fun _ _ _ h => h) (Or.inl ⟨by rfl, ?_⟩) hHeld ?_ ?_
                   rotate_left; focus (rintro w' ⟨s0, s1, s2, s3⟩; go_simp; with_reducible rfl; done)
                   rotate_left; focus (simp only [Act.put, List.setIfInBounds_toArray, List.set_cons_zero, List.set_cons_succ, i64_w, i32_w, u8_w, u32_w]; rfl; done)
                   refine take_ (i := 7) (N := some 38) (v := ?_) (a' := ?_) #[true, true, true, true, true, true, true, true, false, true, true, true, false, false, false, false] rfl rfl (take_ofW HT_.out HW_.out (by kernel_rfl)) (fun _ _ _ h => h) (Or.inl ⟨by rfl, ?_⟩) hHeld ?_ ?_
                   rotate_left; focus (rintro w' ⟨s0, s1, s2, s3⟩; go_simp; with_reducible rfl; done)
                   rotate_left; focus (simp only [Act.put, List.setIfInBounds_toArray, List.set_cons_zero, List.set_cons_succ, i64_w, i32_w, u8_w, u32_w]; rfl; done)
                   refine pure_ (i := 8) (N := some 39) (v := ?_) (a' := ?_) #[true, true, true, true, true, true, true, true, true, true, true, true, false, false, false, false] rfl rfl (any_of HT_.out (by kernel_rfl)) (fun _ _ _ h => h) (Or.inl ⟨by rfl, ?_⟩) ?_ ?_
                   rotate_left; focus (intro w'; go_simp; with_reducible rfl; done)
                   rotate_left; focus (simp only [Act.put, List.setIfInBounds_toArray, List.set_cons_zero, List.set_cons_succ, i64_w, i32_w, u8_w, u32_w]; rfl; done)
                   refine pure_ (i := 12) (N := some 43) (v := ?_) (a' := ?_) #[true, true, true, true, true, true, true, true, true, true, true, true, true, false, false, false] rfl rfl (any_of HT_.out (by kernel_rfl)) (fun _ _ _ h => h) (Or.inl ⟨by rfl, ?_⟩) ?_ ?_
                   rotate_left; focus (intro w'; go_simp; with_reducible rfl; done)
                   rotate_left; focus (simp only [Act.put, List.setIfInBounds_toArray, List.set_cons_zero, List.set_cons_succ, i64_w, i32_w, u8_w, u32_w]; rfl; done)
                   refine pure_ (i := 13) (N := some 44) (v := ?_) (a' := ?_) #[true, true, true, true, true, true, true, true, true, true, true, true, true, true, false, false] rfl rfl (any_of HT_.out (by kernel_rfl)) (fun _ _ _ h => h) (Or.inl ⟨by rfl, ?_⟩) ?_ ?_
                   rotate_left; focus (intro w'; go_simp; with_reducible rfl; done)
                   rotate_left; focus (simp only [Act.put, List.setIfInBounds_toArray, List.set_cons_zero, List.set_cons_succ, i64_w, i32_w, u8_w, u32_w]; rfl; done)
                   refine pure_ (i := 14) (N := some 45) (v := ?_) (a' := ?_) #[true, true, true, true, true, true, true, true, true, true, true, true, true, true, true, false] rfl rfl (any_of HT_.out (by kernel_rfl)) (fun _ _ _ h => h) (Or.inl ⟨by rfl, ?_⟩) ?_ ?_
                   rotate_left; focus (intro w'; go_simp; with_reducible rfl; done)
                   rotate_left; focus (simp only [Act.put, List.setIfInBounds_toArray, List.set_cons_zero, List.set_cons_succ, i64_w, i32_w, u8_w, u32_w]; rfl; done)
                   refine last_ (i := 15) (N := none) #[true, true, true, true, true, true, true, true, true, true, true, true, true, true, true, true] rfl rfl (one_of HT_.out (by kernel_rfl)) (by decide) (fun K hK => ?_)
                   refine skip_ (w1 := ?_) (by rfl) rfl ?_ ?_
                   rotate_left; focus (go_simp; rfl; done)
                   refine hK.out _ _ ?_
                   clear hK K
                   refine done_ (done_of HT_.out (by kernel_rfl)) ?_
                   have n0_ : Aside0 (Kd.R (Kd.int .u8) 5 (w58.setCell ⟨go23, ((ji17) : Int).toNat, none⟩ (.int .u8 (Go.bits .or .u8 (rd x4_1 (ji17)) (ji22)))) w.heap.size (fun _ => True) (.slice (some ⟨go23, 0, none⟩) x4_1.length co59) y117) := ⟨by (with_reducible repeat (first | apply Kd.R_alloc | apply Kd.R_drewN | apply Kd.R_drew)); exact HQ60.out⟩
                   have n1_ : Aside0 ((w58.setCell ⟨go23, ((ji17) : Int).toNat, none⟩ (.int .u8 (Go.bits .or .u8 (rd x4_1 (ji17)) (ji22)))).heap[gb114]? = some (.cells #[.int .i64 ((rd_T25 l0 x23_1).f0), .int .i64 ((rd_T25 l0 x23_1).f1), .string ((rd_T25 l0 x23_1).f2)] 25 (0, 0))) := ⟨by (with_reducible repeat (first | refine blk_drewN ?_ _ | refine blk_drew ?_ | refine blk_alloc ?_ _)); refine blk_far ?_ (by have h_ := Kd.R_ne HO_4.out BK114.out (by decide); intro e_; exact h_ (by rw [e_]; rfl)) _; (with_reducible repeat (first | refine blk_drewN ?_ _ | refine blk_drew ?_ | refine blk_alloc ?_ _)); exact BK114.out⟩
                   have n2_ : Aside0 (Below w.heap.size w (w58.setCell ⟨go23, ((ji17) : Int).toNat, none⟩ (.int .u8 (Go.bits .or .u8 (rd x4_1 (ji17)) (ji22))))) := ⟨by repeat (first | (with_reducible first | exact HB.out | apply below_alloc | apply pw_below_drewN | apply below_drew1 | refine below_set ?_ GB23.out | refine below_set ?_ GE114.out) | exact HB.out)⟩
                   (try clear HO_4)
                   (try clear BK114)
                   (try clear HB)
                   generalize (w58.setCell ⟨go23, ((ji17) : Int).toNat, none⟩ (.int .u8 (Go.bits .or .u8 (rd x4_1 (ji17)) (ji22)))) = w61 at n0_ n1_ n2_ ⊢
                   have HO_4 := n0_
                   have BK114 := n1_
                   have HB := n2_
                   clear n0_ n1_ n2_
                   have hcz62_0 : w61.cell? ⟨gb114, 0, none⟩ = some (.int .i64 ((rd_T25 l0 x23_1).f0)) := (blk_cell BK114.out 0).trans rfl
                   have hcz62_1 : w61.cell? ⟨gb114, 1, none⟩ = some (.int .i64 ((rd_T25 l0 x23_1).f1)) := (blk_cell BK114.out 1).trans rfl
                   have hcz62_2 : w61.cell? ⟨gb114, 2, none⟩ = some (.string ((rd_T25 l0 x23_1).f2)) := (blk_cell BK114.out 2).trans rfl
                   have hfz62_0 := blk_frozen BK114.out 0
                   have hfz62_1 := blk_frozen BK114.out 1
                   have hfz62_2 := blk_frozen BK114.out 2
                   try go_wp2
                   have n0_ := Aside0.mk (Kd.R_drew HO_4.out)
                   have n1_ := Aside0.mk (blk_drew BK114.out)
                   have n2_ := Aside0.mk (below_drew1 HB.out)
                   clear HO_4
                   clear BK114
                   clear HB
                   have HO_4 := n0_
                   have BK114 := n1_
                   have HB := n2_
                   clear n0_ n1_ n2_
                   refine start_ (n := 11) (S := fun w' => w'.cell? ⟨gb114, 0, none⟩ = some (.int .i64 ((rd_T25 l0 x23_1).f0)) ∧ w'.cell? ⟨gb114, 1, none⟩ = some (.int .i64 ((rd_T25 l0 x23_1).f1)) ∧ w'.cell? ⟨gb114, 2, none⟩ = some (.string ((rd_T25 l0 x23_1).f2))) (ds := []) #[false, false, false, false, false, false, false, false, false, false, false] (by kernel_rfl) rfl rfl ⟨(blk_cell BK114.out 0).trans rfl, (blk_cell BK114.out 1).trans rfl, (blk_cell BK114.out 2).trans rfl⟩ (fun hHeld => ?_); refine with_tabW row_Encode.tab17 row_Encode.bits17 (fun HT_ HW_ => ?_)
                   generalize w61.drew = w63 at HO_4 BK114 HB hHeld ⊢
                   refine pure_ (i := 0) (N := some 64) (v := ?_) (a' := ?_) #[true, false, false, false, false, false, false, false, false, false, false] rfl rfl (any_of HT_.out (by kernel_rfl)) (fun _ _ _ h => h) (Or.inl ⟨by rfl, ?_⟩) ?_ ?_
                   rotate_left; focus (intro w'; go_simp; with_reducible rfl; done)
                   rotate_left; focus (simp only [Act.put, List.setIfInBounds_toArray, List.set_cons_zero, List.set_cons_succ, i64_w, i32_w, u8_w, u32_w]; rfl; done)
                   refine pure_ (i := 1) (N := some 65) (v := ?_) (a' := ?_) #[true, true, false, false, false, false, false, false, false, false, false] rfl rfl (any_of HT_.out (by kernel_rfl)) (fun _ _ _ h => h) (Or.inl ⟨by rfl, ?_⟩) ?_ ?_
                   rotate_left; focus (intro w'; go_simp; with_reducible rfl; done)
                   rotate_left; focus (simp only [Act.put, List.setIfInBounds_toArray, List.set_cons_zero, List.set_cons_succ, i64_w, i32_w, u8_w, u32_w]; rfl; done)
                   refine pure_ (i := 7) (N := some 71) (v := ?_) (a' := ?_) #[true, true, false, false, false, false, false, true, false, false, false] rfl rfl (any_of HT_.out (by kernel_rfl)) (fun _ _ _ h => h) (Or.inl ⟨by rfl, ?_⟩) ?_ ?_
                   rotate_left; focus (intro w'; go_simp; with_reducible rfl; done)
                   rotate_left; focus (simp only [Act.put, List.setIfInBounds_toArray, List.set_cons_zero, List.set_cons_succ, i64_w, i32_w, u8_w, u32_w]; rfl; done)
                   refine take_ (i := 2) (N := some 66) (v := ?_) (a' := ?_) #[true, true, true, false, false, false, false, true, false, false, false] rfl rfl (take_ofW HT_.out HW_.out (by kernel_rfl)) (fun _ _ _ h => h) (Or.inl ⟨by rfl, ?_⟩) hHeld ?_ ?_
                   rotate_left; focus (rintro w' ⟨s0, s1, s2⟩; go_simp; with_reducible rfl; done)
                   rotate_left; focus (simp only [Act.put, List.setIfInBounds_toArray, List.set_cons_zero, List.set_cons_succ, i64_w, i32_w, u8_w, u32_w]; rfl; done)
                   refine pure_ (i := 3) (N := some 67) (v := ?_) (a' := ?_) #[true, true, true, true, false, false, false, true, false, false, false] rfl rfl (any_of HT_.out (by kernel_rfl)) (fun _ _ _ h => h) (Or.inl ⟨by rfl, ?_⟩) ?_ ?_
                   rotate_left; focus (intro w'; go_simp; with_reducible rfl; done)
                   rotate_left; focus (simp only [Act.put, List.setIfInBounds_toArray, List.set_cons_zero, List.set_cons_succ, i64_w, i32_w, u8_w, u32_w]; rfl; done)
                   refine pure_ (i := 4) (N := some 68) (v := ?_) (a' := ?_) #[true, true, true, true, true, false, false, true, false, false, false] rfl rfl (any_of HT_.out (by kernel_rfl)) (fun _ _ _ h => h) (Or.inl ⟨by rfl, ?_⟩) ?_ ?_
                   rotate_left; focus (intro w'; go_simp; with_reducible rfl; done)
                   rotate_left; focus (simp only [Act.put, List.setIfInBounds_toArray, List.set_cons_zero, List.set_cons_succ, i64_w, i32_w, u8_w, u32_w]; rfl; done)
                   refine take_ (i := 8) (N := some 72) (v := ?_) (a' := ?_) #[true, true, true, true, true, false, false, true, true, false, false] rfl rfl (take_ofW HT_.out HW_.out (by kernel_rfl)) (fun _ _ _ h => h) (Or.inl ⟨by rfl, ?_⟩) hHeld ?_ ?_
                   rotate_left; focus (rintro w' ⟨s0, s1, s2⟩; go_simp; with_reducible rfl; done)
                   rotate_left; focus (simp only [Act.put, List.setIfInBounds_toArray, List.set_cons_zero, List.set_cons_succ, i64_w, i32_w, u8_w, u32_w]; rfl; done)
                   refine one_ (i := 5) (N := some 69) #[true, true, true, true, true, true, false, true, true, false, false] rfl rfl (one_of HT_.out (by kernel_rfl)) (by decide) (fun K hK => ?_)
                   refine value_ (w1 := ?_) (v := ?_) (by rfl) rfl ?_ ?_
                   rotate_left 2
                   ·
                    go_simp
                    constructor
                    ·
                     rfl
                    ·
                     rfl
                   refine hK.out _ _ ⟨(blk_cell (blk_alloc BK114.out _) 0).trans rfl, (blk_cell (blk_alloc BK114.out _) 1).trans rfl, (blk_cell (blk_alloc BK114.out _) 2).trans rfl⟩ (fun hHeld => ?_)
                   clear hK K
                   refine norm_ (a' := ?_) ?_ ?_
                   rotate_left; focus (show Act.put _ (some 69) _ = _; simp only [Act.put, List.setIfInBounds_toArray, List.set_cons_zero, List.set_cons_succ, i64_w, i32_w, u8_w, u32_w]; rfl; done)
                   refine one_ (i := 6) (N := some 70) #[true, true, true, true, true, true, true, true, true, false, false] rfl rfl (one_of HT_.out (by kernel_rfl)) (by decide) (fun K hK => ?_)
                   refine Kd.R_append_step (Kd.int .u8) (w0 := w) w.heap.size (by rfl) (.tmp 64) (.tmp 69) 39 5 (.int .u8 0) 1 rfl Try.underlying39 info5 rfl (by decide) (by omega) (.slice (some ⟨go23, 0, none⟩) x4_1.length co59) y117 (((((rd_T25 l0 x23_1).f2).size : Int)) % 256) [.int .u8 (((((rd_T25 l0 x23_1).f2).size : Int)) % 256)] (fun _ => True) (fun _ => False) rfl rfl ?aP (fun _ hk => hk.elim) ?aF ?aO ?aB ?aS ?aL ?_
                   (case aP => exact rfl)
                   (case aB => exact (by repeat (first | (with_reducible first | exact HB.out | apply below_alloc | apply pw_below_drewN | apply below_drew1 | refine below_set ?_ GE114.out) | exact HB.out)))
                   (case aF => exact (fun _ _ => trivial))
                   (case aO => exact (by (with_reducible repeat (first | apply Kd.R_alloc | apply Kd.R_drewN | apply Kd.R_drew)); exact HO_4.out))
                   (case aS => exact (below_size (by repeat (first | (with_reducible first | exact HB.out | apply below_alloc | apply pw_below_drewN | apply below_drew1 | refine below_set ?_ GE114.out) | exact HB.out))))
                   (case aL => have := LMc51.out; omega)
                   intro v125 w64 ho hb hg hat
                   rw [← Ny124.out] at ho
                   have n0_ := Aside0.mk (blk_grown (g := gb114) (o := .cells #[.int .i64 ((rd_T25 l0 x23_1).f0), .int .i64 ((rd_T25 l0 x23_1).f1), .string ((rd_T25 l0 x23_1).f2)] 25 (0, 0)) (by (with_reducible repeat (first | refine blk_drewN ?_ _ | refine blk_drew ?_ | refine blk_alloc ?_ _)); exact BK114.out) hg (Kd.R_ne HO_4.out BK114.out (by decide)))
                   have n1_ := Aside0.mk (hb)
                   have n2_ := Aside0.mk (ho)
                   clear BK114
                   clear HB
                   clear HO_4
                   have BK114 := n0_
                   have HB := n1_
                   have HO126 := n2_
                   clear n0_ n1_ n2_
                   clear ho hb hg hat
                   refine hK.out _ _ ⟨(blk_cell BK114.out 0).trans rfl, (blk_cell BK114.out 1).trans rfl, (blk_cell BK114.out 2).trans rfl⟩ (fun hHeld => ?_)
                   clear hK K
                   refine norm_ (a' := ?_) ?_ ?_
                   rotate_left; focus (show Act.put _ (some 70) _ = _; simp only [Act.put, List.setIfInBounds_toArray, List.set_cons_zero, List.set_cons_succ, i64_w, i32_w, u8_w, u32_w]; rfl; done)
                   refine one_ (i := 9) (N := some 73) #[true, true, true, true, true, true, true, true, true, true, false] rfl rfl (one_of HT_.out (by kernel_rfl)) (by decide) (fun K hK => ?_)
                   refine print_append_str_step (w0 := w) w.heap.size (by rfl) (.tmp 70) _ 39 9 5 rfl Try.underlying39 Try.underlying9 info5 v125 y124 ((rd_T25 l0 x23_1).f2) rfl rfl ?aO ?aB ?aS ?aL ?_
                   (case aB => exact (by repeat (first | (with_reducible first | exact HB.out | apply below_alloc | apply pw_below_drewN | apply below_drew1 | refine below_set ?_ GE114.out) | exact HB.out)))
                   (case aO => exact (Kd.own_of_R (by (with_reducible repeat (first | apply Kd.R_alloc | apply Kd.R_drewN | apply Kd.R_drew)); exact HO126.out)))
                   (case aS => exact (below_size (by repeat (first | (with_reducible first | exact HB.out | apply below_alloc | apply pw_below_drewN | apply below_drew1 | refine below_set ?_ GE114.out) | exact HB.out))))
                   (case aL => have := LMc52.out; omega)
                   intro v128 w65 ho0 hb hg
                   have ho := Kd.R_of_own (h1 := fun _ => rfl) (ok := fun _ => True) ho0 (fun _ _ => trivial)
                   clear ho0
                   have hat := True.intro
                   rw [← Ny127.out] at ho
                   change Kd.R (Kd.int .u8) 5 w65 w.heap.size (fun _ => True) v128 y127 at ho
                   have n0_ := Aside0.mk (blk_grown (g := gb114) (o := .cells #[.int .i64 ((rd_T25 l0 x23_1).f0), .int .i64 ((rd_T25 l0 x23_1).f1), .string ((rd_T25 l0 x23_1).f2)] 25 (0, 0)) (by (with_reducible repeat (first | refine blk_drewN ?_ _ | refine blk_drew ?_ | refine blk_alloc ?_ _)); exact BK114.out) hg (Kd.R_ne HO126.out BK114.out (by decide)))
                   have n1_ := Aside0.mk (hb)
                   have n2_ := Aside0.mk (ho)
                   clear BK114
                   clear HB
                   clear HO126
                   have BK114 := n0_
                   have HB := n1_
                   have HO129 := n2_
                   clear n0_ n1_ n2_
                   clear ho hb hg hat
                   refine hK.out _ _ ⟨(blk_cell BK114.out 0).trans rfl, (blk_cell BK114.out 1).trans rfl, (blk_cell BK114.out 2).trans rfl⟩ (fun hHeld => ?_)
                   clear hK K
                   refine norm_ (a' := ?_) ?_ ?_
                   rotate_left; focus (show Act.put _ (some 73) _ = _; simp only [Act.put, List.setIfInBounds_toArray, List.set_cons_zero, List.set_cons_succ, i64_w, i32_w, u8_w, u32_w]; rfl; done)
                   refine pure_ (i := 10) (N := some 4) (v := ?_) (a' := ?_) #[true, true, true, true, true, true, true, true, true, true, true] rfl rfl (any_of HT_.out (by kernel_rfl)) (fun _ _ _ h => h) (Or.inl ⟨by rfl, ?_⟩) ?_ ?_
                   rotate_left; focus (intro w'; go_simp; with_reducible rfl; done)
                   rotate_left; focus (simp only [Act.put, List.setIfInBounds_toArray, List.set_cons_zero, List.set_cons_succ, i64_w, i32_w, u8_w, u32_w]; rfl; done)
                   refine done_ (done_of HT_.out (by kernel_rfl)) ?_
                   try go_wp2
                   go_roundg k1
                   case measure => have := HK1.out; omega
                   case rel => exact ⟨(y127), (wrap64 (x23_1 + 1)), (by first | rfl | (simp; done) | (simp [*]; done)), H', ⟨by have := HK1.out; omega⟩, ⟨by (with_reducible repeat (first | apply Kd.R_alloc | apply Kd.R_drewN | apply Kd.R_drew)); exact HO129.out⟩, ⟨by repeat (first | (with_reducible first | exact HB.out | apply below_alloc | apply pw_below_drewN | apply below_drew1 | refine below_set ?_ GE114.out) | exact HB.out)⟩⟩
                  ·
                   rw [if_neg c52] at H
                   exact absurd H (by simp)
                 ·
                  rw [if_neg c51] at H
                  exact absurd H (by simp)
                ·
                 rw [if_neg c50] at H
                 have c50b0 : (((rd_T25 l0 x23_1).f0) == 3) = false := beq_eq_false_iff_ne.mpr c50
                 have c50b1 : (((rd_T25 l0 x23_1).f0) != 3) = true := bne_iff_ne.mpr c50
                 have H' := Aside0.mk H
                 clear H
                 have p113 : 0 ≤ (x23_1 : Int) := of_decide_eq_true (by first | (with_reducible assumption) | assumption)
                 have q113 : x23_1 < (l0.length : Int) := of_decide_eq_true (by first | (with_reducible assumption) | assumption)
                 obtain ⟨ad113, e113, hx113_0, hx113_1, hx113_2⟩ := at_T25 HR0.out x23_1 p113 q113
                 cases e113
                 replace hx113_0 := (HB.out.cell (World.block_lt_of_cell? w _ hx113_0)).trans hx113_0
                 replace hx113_1 := (HB.out.cell (World.block_lt_of_cell? w _ hx113_1)).trans hx113_1
                 replace hx113_2 := (HB.out.cell (World.block_lt_of_cell? w _ hx113_2)).trans hx113_2
                 replace p113 := eq_true p113
                 replace q113 := eq_true q113
                 try go_wp2_with (first | ((with_reducible refine gate_dst (N := 6) rfl ?_); refine box_event ?hg (N := 6) ?hd (cs := #[.int .i64 0, .int .i64 0, .string (⟨#[]⟩ : ByteArray)]) (t := 25) ?hr ?_; (case hd => rfl); (case hg => rfl); (case hr => first | (go_simp; done) | (go_simp; rfl)); intro gb114 hg w66 hbox hb; have n0_ := Aside0.mk (Kd.R_below (by (with_reducible repeat (first | apply Kd.R_alloc | apply Kd.R_drewN | apply Kd.R_drew)); exact HO_4.out) hb); have n1_ := Aside0.mk (below_step (by repeat (first | (with_reducible first | exact HB.out | apply below_alloc | apply pw_below_drewN | apply below_drew1) | exact HB.out)) hb); have n2_ := Aside0.mk (hbox); have n3_ := Aside0.mk ((by rw [hg]; exact (below_size (by repeat (first | (with_reducible first | exact HB.out | apply below_alloc | apply pw_below_drewN | apply below_drew1) | exact HB.out))) : w.heap.size ≤ gb114)); have n4_ := Aside0.mk ((by rw [hg]; exact (below_size (by repeat (first | (with_reducible first | exact HB.out | apply below_alloc | apply pw_below_drewN | apply below_drew1) | exact HB.out))) : w.heap.size ≤ gb114)); clear HO_4; clear HB; have HO_4 := n0_; have HB := n1_; have BK114 := n2_; have GW114 := n3_; have GE114 := n4_; clear n0_ n1_ n2_ n3_ n4_; clear hb hbox hg; have hcz67_0 : w66.cell? ⟨gb114, 0, none⟩ = some (.int .i64 0) := (blk_cell BK114.out 0).trans rfl; have hcz67_1 : w66.cell? ⟨gb114, 1, none⟩ = some (.int .i64 0) := (blk_cell BK114.out 1).trans rfl; have hcz67_2 : w66.cell? ⟨gb114, 2, none⟩ = some (.string (⟨#[]⟩ : ByteArray)) := (blk_cell BK114.out 2).trans rfl; have hfz67_0 := blk_frozen BK114.out 0; have hfz67_1 := blk_frozen BK114.out 1; have hfz67_2 := blk_frozen BK114.out 2) | ((with_reducible refine gate_store (t := 25) (p := 6) rfl ?_); refine store_event (t := 25) (p := 6) (v := ?vo_w68) (w1 := (((w66.setCell ⟨gb114, 0, none⟩ (.int .i64 ((rd_T25 l0 x23_1).f0))).setCell ⟨gb114, 1, none⟩ (.int .i64 ((rd_T25 l0 x23_1).f1))).setCell ⟨gb114, 2, none⟩ (.string ((rd_T25 l0 x23_1).f2)))) ?hg ?ho ?hn ?hr ?_; (case ho => rfl); (case hg => rfl); (case hn => rfl); (case hr => first | (go_simp; done) | (go_simp; rfl)); intro w68 hw; have n0_ : Aside0 (Kd.R (Kd.int .u8) 5 w68 w.heap.size (fun _ => True) u4 x4_1) := ⟨(by rw [hw]; exact (by (with_reducible repeat (first | apply Kd.R_alloc | apply Kd.R_drewN | apply Kd.R_drew)); exact Kd.R_mono (Kd.R_far (p := ⟨gb114, 2, none⟩) (Kd.R_far (p := ⟨gb114, 1, none⟩) (Kd.R_far (p := ⟨gb114, 0, none⟩) (Kd.R_types HO_4.out BK114.out (by decide)) (fun _ hk => hk.2) (.int .i64 ((rd_T25 l0 x23_1).f0))) (fun _ hk => hk.2) (.int .i64 ((rd_T25 l0 x23_1).f1))) (fun _ hk => hk.2) (.string ((rd_T25 l0 x23_1).f2))) (fun _ hk => trivial)))⟩; have n1_ : Aside0 (w68.heap[gb114]? = some (.cells #[.int .i64 ((rd_T25 l0 x23_1).f0), .int .i64 ((rd_T25 l0 x23_1).f1), .string ((rd_T25 l0 x23_1).f2)] 25 (0, 0))) := ⟨(by rw [hw]; exact (by (with_reducible repeat (first | refine blk_drewN ?_ _ | refine blk_drew ?_ | refine blk_alloc ?_ _)); refine blk_put (cs := #[.int .i64 ((rd_T25 l0 x23_1).f0), .int .i64 ((rd_T25 l0 x23_1).f1), .string (⟨#[]⟩ : ByteArray)]) ?_ 2 _ rfl; (with_reducible repeat (first | refine blk_drewN ?_ _ | refine blk_drew ?_ | refine blk_alloc ?_ _)); refine blk_put (cs := #[.int .i64 ((rd_T25 l0 x23_1).f0), .int .i64 0, .string (⟨#[]⟩ : ByteArray)]) ?_ 1 _ rfl; (with_reducible repeat (first | refine blk_drewN ?_ _ | refine blk_drew ?_ | refine blk_alloc ?_ _)); refine blk_put (cs := #[.int .i64 0, .int .i64 0, .string (⟨#[]⟩ : ByteArray)]) ?_ 0 _ rfl; (with_reducible repeat (first | refine blk_drewN ?_ _ | refine blk_drew ?_ | refine blk_alloc ?_ _)); exact BK114.out))⟩; have n2_ : Aside0 (Below w.heap.size w w68) := ⟨(by rw [hw]; exact (by repeat (first | (with_reducible first | exact HB.out | apply below_alloc | apply pw_below_drewN | apply below_drew1 | refine below_set ?_ GE114.out) | exact HB.out)))⟩; clear hw; clear HO_4; clear BK114; clear HB; have HO_4 := n0_; have BK114 := n1_; have HB := n2_; clear n0_ n1_ n2_; have hcz69_0 : w68.cell? ⟨gb114, 0, none⟩ = some (.int .i64 ((rd_T25 l0 x23_1).f0)) := (blk_cell BK114.out 0).trans rfl; have hcz69_1 : w68.cell? ⟨gb114, 1, none⟩ = some (.int .i64 ((rd_T25 l0 x23_1).f1)) := (blk_cell BK114.out 1).trans rfl; have hcz69_2 : w68.cell? ⟨gb114, 2, none⟩ = some (.string ((rd_T25 l0 x23_1).f2)) := (blk_cell BK114.out 2).trans rfl; have hfz69_0 := blk_frozen BK114.out 0; have hfz69_1 := blk_frozen BK114.out 1; have hfz69_2 := blk_frozen BK114.out 2) | ((with_reducible refine gate_callee (f := 15) rfl ?_); refine goesL_ (some 29) rfl rfl Try.func15 (by kernel_rfl) rfl #[.agg #[.int .i64 ((rd_T25 l0 x23_1).f0), .int .i64 ((rd_T25 l0 x23_1).f1), .string ((rd_T25 l0 x23_1).f2)]] rfl (by (try simp only [List.map_toArray, List.map_cons, List.map_nil]); first | done | rfl | (simp only [List.length_drop, List.length_take]; rfl)) ?_; (with_reducible refine (value_Right.calls ((rd_T25 l0 x23_1).f0) ((rd_T25 l0 x23_1).f1) ((rd_T25 l0 x23_1).f2) true _ A15.out).mono ?_); rintro e w70 ⟨rfl, hb⟩; refine ⟨_, rfl, ?_⟩; have n0_ := Aside0.mk (Kd.R_below (by (with_reducible repeat (first | apply Kd.R_alloc | apply Kd.R_drewN | apply Kd.R_drew)); exact HO_4.out) hb); have n1_ := Aside0.mk (blk_below (g := gb114) (o := .cells #[.int .i64 ((rd_T25 l0 x23_1).f0), .int .i64 ((rd_T25 l0 x23_1).f1), .string ((rd_T25 l0 x23_1).f2)] 25 (0, 0)) (by (with_reducible repeat (first | refine blk_drewN ?_ _ | refine blk_drew ?_ | refine blk_alloc ?_ _)); exact BK114.out) hb); have n2_ := Aside0.mk (below_step (by repeat (first | (with_reducible first | exact HB.out | apply below_alloc | apply pw_below_drewN | apply below_drew1 | refine below_set ?_ GE114.out) | exact HB.out)) hb); clear HO_4; clear BK114; clear HB; have HO_4 := n0_; have BK114 := n1_; have HB := n2_; clear n0_ n1_ n2_; (try clear hb); (try clear hb2); (try clear hk); (try clear hi)))
                 have n0_ := Aside0.mk (Kd.R_drew HO_4.out)
                 have n1_ := Aside0.mk (blk_drew BK114.out)
                 have n2_ := Aside0.mk (below_drew1 HB.out)
                 clear HO_4
                 clear BK114
                 clear HB
                 have HO_4 := n0_
                 have BK114 := n1_
                 have HB := n2_
                 clear n0_ n1_ n2_
                 obtain ⟨Ao72, co72, eo72⟩ := Kd.R_slice HO_4.out
                 (first | subst eo72 | (injection eo72 with f1_ f2_ f3_; have f4_ := f1_.symm; have f5_ := f3_.symm; clear f1_ f2_ f3_; subst f4_; subst f5_))
                 have p116 : 0 ≤ ((ji17) : Int) := of_decide_eq_true (by first | (with_reducible assumption) | assumption)
                 have q116 : (ji17) < (x4_1.length : Int) := of_decide_eq_true (by first | (with_reducible assumption) | assumption)
                 obtain ⟨ad116, e116, hx116_0⟩ := Kd.at_int (Kd.R_reads' HO_4.out).2.2 (ji17) p116 q116
                 cases e116
                 replace p116 := eq_true p116
                 replace q116 := eq_true q116
                 have p23 : 0 ≤ ((ji17) : Int) := of_decide_eq_true (by first | (with_reducible assumption) | assumption)
                 have q23 : ((ji17) : Int) < ((x4_1.length : Int) : Int) := of_decide_eq_true (by first | (with_reducible assumption) | assumption)
                 obtain ⟨go23, co23, eo23, gb23, gl23, cl23, HG23⟩ := Kd.R_form HO_4.out (by omega)
                 (first | cases eo23 | (injection eo23 with ea_ en_ ec_; (first | subst ea_ | (injection ea_ with ea_; subst ea_)); subst ec_; clear en_))
                 have GB23 := Aside0.mk gb23
                 have GG23 := Aside0.mk HG23
                 clear gb23 gl23 HG23
                 (first | simp only [add_plain] at hx116_0 | skip)
                 obtain ⟨hx23_0, hf23_0⟩ := Kd.R_celln 0 HO_4.out ((ji17) : Int) p23 q23
                 replace p23 := eq_true p23
                 replace q23 := eq_true q23
                 have HP73 := Kd.R_putn HO_4.out ((ji17) : Int) (Go.bits .or .u8 (rd x4_1 (ji17)) (ji22))
                 rw [← Ny117.out] at HP73
                 have HQ73 := Aside0.mk HP73
                 clear HP73
                 refine start_ (n := 16) (S := fun w' => w'.cell? ⟨gb114, 0, none⟩ = some (.int .i64 ((rd_T25 l0 x23_1).f0)) ∧ w'.cell? ⟨gb114, 1, none⟩ = some (.int .i64 ((rd_T25 l0 x23_1).f1)) ∧ w'.cell? ⟨gb114, 2, none⟩ = some (.string ((rd_T25 l0 x23_1).f2)) ∧ w'.cell? ⟨go23, ((ji17)).toNat, none⟩ = some (.int .u8 (rd x4_1 (ji17)))) (ds := [15]) #[false, false, false, false, false, false, false, false, false, false, false, false, false, false, false, false] (by kernel_rfl) rfl rfl ⟨(blk_cell BK114.out 0).trans rfl, (blk_cell BK114.out 1).trans rfl, (blk_cell BK114.out 2).trans rfl, hx116_0⟩ (fun hHeld => ?_); refine with_tabW row_Encode.tab10 row_Encode.bits10 (fun HT_ HW_ => ?_)
                 generalize w70.drew = w71 at HO_4 BK114 HB GG23 HQ73 hf23_0 hx116_0 hx23_0 hHeld ⊢
                 refine pure_ (i := 0) (N := some 31) (v := ?_) (a' := ?_) #[true, false, false, false, false, false, false, false, false, false, false, false, false, false, false, false] rfl rfl (any_of HT_.out (by kernel_rfl)) (fun _ _ _ h => h) (Or.inl ⟨by rfl, ?_⟩) ?_ ?_
                 rotate_left; focus (intro w'; go_simp; with_reducible rfl; done)
                 rotate_left; focus (simp only [Act.put, List.setIfInBounds_toArray, List.set_cons_zero, List.set_cons_succ, i64_w, i32_w, u8_w, u32_w]; rfl; done)
                 refine pure_ (i := 1) (N := some 32) (v := ?_) (a' := ?_) #[true, true, false, false, false, false, false, false, false, false, false, false, false, false, false, false] rfl rfl (any_of HT_.out (by kernel_rfl)) (fun _ _ _ h => h) (Or.inl ⟨by rfl, ?_⟩) ?_ ?_
                 rotate_left; focus (intro w'; go_simp; with_reducible rfl; done)
                 rotate_left; focus (simp only [Act.put, List.setIfInBounds_toArray, List.set_cons_zero, List.set_cons_succ, i64_w, i32_w, u8_w, u32_w]; rfl; done)
                 refine pure_ (i := 2) (N := some 33) (v := ?_) (a' := ?_) #[true, true, true, false, false, false, false, false, false, false, false, false, false, false, false, false] rfl rfl (any_of HT_.out (by kernel_rfl)) (fun _ _ _ h => h) (Or.inl ⟨by rfl, ?_⟩) ?_ ?_
                 rotate_left; focus (intro w'; go_simp; with_reducible rfl; done)
                 rotate_left; focus (simp only [Act.put, List.setIfInBounds_toArray, List.set_cons_zero, List.set_cons_succ, i64_w, i32_w, u8_w, u32_w]; rfl; done)
                 refine pure_ (i := 3) (N := some 34) (v := ?_) (a' := ?_) #[true, true, true, true, false, false, false, false, false, false, false, false, false, false, false, false] rfl rfl (any_of HT_.out (by kernel_rfl)) (fun _ _ _ h => h) (Or.inl ⟨by rfl, ?_⟩) ?_ ?_
                 rotate_left; focus (intro w'; go_simp; with_reducible rfl; done)
                 rotate_left; focus (simp only [Act.put, List.setIfInBounds_toArray, List.set_cons_zero, List.set_cons_succ, i64_w, i32_w, u8_w, u32_w]; rfl; done)
                 refine pure_ (i := 4) (N := some 35) (v := ?_) (a' := ?_) #[true, true, true, true, true, false, false, false, false, false, false, false, false, false, false, false] rfl rfl (any_of HT_.out (by kernel_rfl)) (fun _ _ _ h => h) (Or.inl ⟨by rfl, ?_⟩) ?_ ?_
                 rotate_left; focus (intro w'; go_simp; with_reducible rfl; done)
                 rotate_left; focus (simp only [Act.put, List.setIfInBounds_toArray, List.set_cons_zero, List.set_cons_succ, i64_w, i32_w, u8_w, u32_w]; rfl; done)
                 refine pure_ (i := 6) (N := some 37) (v := ?_) (a' := ?_) #[true, true, true, true, true, false, true, false, false, false, false, false, false, false, false, false] rfl rfl (any_of HT_.out (by kernel_rfl)) (fun _ _ _ h => h) (Or.inl ⟨by rfl, ?_⟩) ?_ ?_
                 rotate_left; focus (intro w'; go_simp; with_reducible rfl; done)
                 rotate_left; focus (simp only [Act.put, List.setIfInBounds_toArray, List.set_cons_zero, List.set_cons_succ, i64_w, i32_w, u8_w, u32_w]; rfl; done)
                 refine pure_ (i := 9) (N := some 40) (v := ?_) (a' := ?_) #[true, true, true, true, true, false, true, false, false, true, false, false, false, false, false, false] rfl rfl (any_of HT_.out (by kernel_rfl)) (fun _ _ _ h => h) (Or.inl ⟨by rfl, ?_⟩) ?_ ?_
                 rotate_left; focus (intro w'; go_simp; with_reducible rfl; done)
                 rotate_left; focus (simp only [Act.put, List.setIfInBounds_toArray, List.set_cons_zero, List.set_cons_succ, i64_w, i32_w, u8_w, u32_w]; rfl; done)
                 refine pure_ (i := 10) (N := some 41) (v := ?_) (a' := ?_) #[true, true, true, true, true, false, true, false, false, true, true, false, false, false, false, false] rfl rfl (any_of HT_.out (by kernel_rfl)) (fun _ _ _ h => h) (Or.inl ⟨by rfl, ?_⟩) ?_ ?_
                 rotate_left; focus (intro w'; go_simp; with_reducible rfl; done)
                 rotate_left; focus (simp only [Act.put, List.setIfInBounds_toArray, List.set_cons_zero, List.set_cons_succ, i64_w, i32_w, u8_w, u32_w]; rfl; done)
                 refine pure_ (i := 11) (N := some 42) (v := ?_) (a' := ?_) #[true, true, true, true, true, false, true, false, false, true, true, true, false, false, false, false] rfl rfl (any_of HT_.out (by kernel_rfl)) (fun _ _ _ h => h) (Or.inl ⟨by rfl, ?_⟩) ?_ ?_
                 rotate_left; focus (intro w'; go_simp; with_reducible rfl; done)
                 rotate_left; focus (simp only [Act.put, List.setIfInBounds_toArray, List.set_cons_zero, List.set_cons_succ, i64_w, i32_w, u8_w, u32_w]; rfl; done)
                 refine take_ (i := 5) (N := some 36) (v := ?_) (a' := ?_) #[true, true, true, true, true, true, true, false, false, true, true, true, false, false, false, false] rfl rfl (take_ofW HT_.out HW_.out (by kernel_rfl)) (fun _ _ _ h => h) (Or.inl ⟨by rfl, ?_⟩) hHeld ?_ ?_
                 rotate_left; focus (rintro w' ⟨s0, s1, s2, s3⟩; go_simp; with_reducible rfl; done)
                 rotate_left; focus (simp only [Act.put, List.setIfInBounds_toArray, List.set_cons_zero, List.set_cons_succ, i64_w, i32_w, u8_w, u32_w]; rfl; done)
                 refine take_ (i := 7) (N := some 38) (v := ?_) (a' := ?_) #[true, true, true, true, true, true, true, true, false, true, true, true, false, false, false, false] rfl rfl (take_ofW HT_.out HW_.out (by kernel_rfl)) (fun _ _ _ h => h) (Or.inl ⟨by rfl, ?_⟩) hHeld ?_ ?_
                 rotate_left; focus (rintro w' ⟨s0, s1, s2, s3⟩; go_simp; with_reducible rfl; done)
                 rotate_left; focus (simp only [Act.put, List.setIfInBounds_toArray, List.set_cons_zero, List.set_cons_succ, i64_w, i32_w, u8_w, u32_w]; rfl; done)
                 refine pure_ (i := 8) (N := some 39) (v := ?_) (a' := ?_) #[true, true, true, true, true, true, true, true, true, true, true, true, false, false, false, false] rfl rfl (any_of HT_.out (by kernel_rfl)) (fun _ _ _ h => h) (Or.inl ⟨by rfl, ?_⟩) ?_ ?_
                 rotate_left; focus (intro w'; go_simp; with_reducible rfl; done)
                 rotate_left; focus (simp only [Act.put, List.setIfInBounds_toArray, List.set_cons_zero, List.set_cons_succ, i64_w, i32_w, u8_w, u32_w]; rfl; done)
                 refine pure_ (i := 12) (N := some 43) (v := ?_) (a' := ?_) #[true, true, true, true, true, true, true, true, true, true, true, true, true, false, false, false] rfl rfl (any_of HT_.out (by kernel_rfl)) (fun _ _ _ h => h) (Or.inl ⟨by rfl, ?_⟩) ?_ ?_
                 rotate_left; focus (intro w'; go_simp; with_reducible rfl; done)
                 rotate_left; focus (simp only [Act.put, List.setIfInBounds_toArray, List.set_cons_zero, List.set_cons_succ, i64_w, i32_w, u8_w, u32_w]; rfl; done)
                 refine pure_ (i := 13) (N := some 44) (v := ?_) (a' := ?_) #[true, true, true, true, true, true, true, true, true, true, true, true, true, true, false, false] rfl rfl (any_of HT_.out (by kernel_rfl)) (fun _ _ _ h => h) (Or.inl ⟨by rfl, ?_⟩) ?_ ?_
                 rotate_left; focus (intro w'; go_simp; with_reducible rfl; done)
                 rotate_left; focus (simp only [Act.put, List.setIfInBounds_toArray, List.set_cons_zero, List.set_cons_succ, i64_w, i32_w, u8_w, u32_w]; rfl; done)
                 refine pure_ (i := 14) (N := some 45) (v := ?_) (a' := ?_) #[true, true, true, true, true, true, true, true, true, true, true, true, true, true, true, false] rfl rfl (any_of HT_.out (by kernel_rfl)) (fun _ _ _ h => h) (Or.inl ⟨by rfl, ?_⟩) ?_ ?_
                 rotate_left; focus (intro w'; go_simp; with_reducible rfl; done)
                 rotate_left; focus (simp only [Act.put, List.setIfInBounds_toArray, List.set_cons_zero, List.set_cons_succ, i64_w, i32_w, u8_w, u32_w]; rfl; done)
                 refine last_ (i := 15) (N := none) #[true, true, true, true, true, true, true, true, true, true, true, true, true, true, true, true] rfl rfl (one_of HT_.out (by kernel_rfl)) (by decide) (fun K hK => ?_)
                 refine skip_ (w1 := ?_) (by rfl) rfl ?_ ?_
                 rotate_left; focus (go_simp; rfl; done)
                 refine hK.out _ _ ?_
                 clear hK K
                 refine done_ (done_of HT_.out (by kernel_rfl)) ?_
                 have n0_ : Aside0 (Kd.R (Kd.int .u8) 5 (w71.setCell ⟨go23, ((ji17) : Int).toNat, none⟩ (.int .u8 (Go.bits .or .u8 (rd x4_1 (ji17)) (ji22)))) w.heap.size (fun _ => True) (.slice (some ⟨go23, 0, none⟩) x4_1.length co72) y117) := ⟨by (with_reducible repeat (first | apply Kd.R_alloc | apply Kd.R_drewN | apply Kd.R_drew)); exact HQ73.out⟩
                 have n1_ : Aside0 ((w71.setCell ⟨go23, ((ji17) : Int).toNat, none⟩ (.int .u8 (Go.bits .or .u8 (rd x4_1 (ji17)) (ji22)))).heap[gb114]? = some (.cells #[.int .i64 ((rd_T25 l0 x23_1).f0), .int .i64 ((rd_T25 l0 x23_1).f1), .string ((rd_T25 l0 x23_1).f2)] 25 (0, 0))) := ⟨by (with_reducible repeat (first | refine blk_drewN ?_ _ | refine blk_drew ?_ | refine blk_alloc ?_ _)); refine blk_far ?_ (by have h_ := Kd.R_ne HO_4.out BK114.out (by decide); intro e_; exact h_ (by rw [e_]; rfl)) _; (with_reducible repeat (first | refine blk_drewN ?_ _ | refine blk_drew ?_ | refine blk_alloc ?_ _)); exact BK114.out⟩
                 have n2_ : Aside0 (Below w.heap.size w (w71.setCell ⟨go23, ((ji17) : Int).toNat, none⟩ (.int .u8 (Go.bits .or .u8 (rd x4_1 (ji17)) (ji22))))) := ⟨by repeat (first | (with_reducible first | exact HB.out | apply below_alloc | apply pw_below_drewN | apply below_drew1 | refine below_set ?_ GB23.out | refine below_set ?_ GE114.out) | exact HB.out)⟩
                 (try clear HO_4)
                 (try clear BK114)
                 (try clear HB)
                 generalize (w71.setCell ⟨go23, ((ji17) : Int).toNat, none⟩ (.int .u8 (Go.bits .or .u8 (rd x4_1 (ji17)) (ji22)))) = w74 at n0_ n1_ n2_ ⊢
                 have HO_4 := n0_
                 have BK114 := n1_
                 have HB := n2_
                 clear n0_ n1_ n2_
                 have hcz75_0 : w74.cell? ⟨gb114, 0, none⟩ = some (.int .i64 ((rd_T25 l0 x23_1).f0)) := (blk_cell BK114.out 0).trans rfl
                 have hcz75_1 : w74.cell? ⟨gb114, 1, none⟩ = some (.int .i64 ((rd_T25 l0 x23_1).f1)) := (blk_cell BK114.out 1).trans rfl
                 have hcz75_2 : w74.cell? ⟨gb114, 2, none⟩ = some (.string ((rd_T25 l0 x23_1).f2)) := (blk_cell BK114.out 2).trans rfl
                 have hfz75_0 := blk_frozen BK114.out 0
                 have hfz75_1 := blk_frozen BK114.out 1
                 have hfz75_2 := blk_frozen BK114.out 2
                 try go_wp2
                 go_roundg k1
                 case measure => have := HK1.out; omega
                 case rel => exact ⟨(y117), (wrap64 (x23_1 + 1)), (by first | rfl | (simp; done) | (simp [*]; done)), H', ⟨by have := HK1.out; omega⟩, ⟨by (with_reducible repeat (first | apply Kd.R_alloc | apply Kd.R_drewN | apply Kd.R_drew)); exact HO_4.out⟩, ⟨by repeat (first | (with_reducible first | exact HB.out | apply below_alloc | apply pw_below_drewN | apply below_drew1 | refine below_set ?_ GE114.out) | exact HB.out)⟩⟩
             ·
              rw [if_neg c21] at H
              exact absurd H (by simp)
            ·
             rw [if_neg c19] at H
             exact absurd H (by simp)
           ·
            rw [if_neg c18] at H
            exact absurd H (by simp)
          ·
           replace c16 := Bool.eq_false_iff.mpr c16
           subst c16
           have H1 : (some ((⟨#[]⟩ : ByteArray), 10)) = some (r1, r2) := by rw [if_neg (show ¬ (false = true) by decide)] at H; exact H
           clear H
           have H := H1
           clear H1
           simp only [Option.some.injEq, Prod.mk.injEq] at H
           obtain ⟨rfl, rfl⟩ := H
           have p113 : 0 ≤ (x23_1 : Int) := of_decide_eq_true (by first | (with_reducible assumption) | assumption)
           have q113 : x23_1 < (l0.length : Int) := of_decide_eq_true (by first | (with_reducible assumption) | assumption)
           obtain ⟨ad113, e113, hx113_0, hx113_1, hx113_2⟩ := at_T25 HR0.out x23_1 p113 q113
           cases e113
           replace hx113_0 := (HB.out.cell (World.block_lt_of_cell? w _ hx113_0)).trans hx113_0
           replace hx113_1 := (HB.out.cell (World.block_lt_of_cell? w _ hx113_1)).trans hx113_1
           replace hx113_2 := (HB.out.cell (World.block_lt_of_cell? w _ hx113_2)).trans hx113_2
           replace p113 := eq_true p113
           replace q113 := eq_true q113
           go_wp2_with (first | ((with_reducible refine gate_dst (N := 6) rfl ?_); refine box_event ?hg (N := 6) ?hd (cs := #[.int .i64 0, .int .i64 0, .string (⟨#[]⟩ : ByteArray)]) (t := 25) ?hr ?_; (case hd => rfl); (case hg => rfl); (case hr => first | (go_simp; done) | (go_simp; rfl)); intro gb114 hg w76 hbox hb; have n0_ := Aside0.mk (Kd.R_below (by (with_reducible repeat (first | apply Kd.R_alloc | apply Kd.R_drewN | apply Kd.R_drew)); exact HO_4.out) hb); have n1_ := Aside0.mk (below_step (by repeat (first | (with_reducible first | exact HB.out | apply below_alloc | apply pw_below_drewN | apply below_drew1) | exact HB.out)) hb); have n2_ := Aside0.mk (hbox); have n3_ := Aside0.mk ((by rw [hg]; exact (below_size (by repeat (first | (with_reducible first | exact HB.out | apply below_alloc | apply pw_below_drewN | apply below_drew1) | exact HB.out))) : w.heap.size ≤ gb114)); have n4_ := Aside0.mk ((by rw [hg]; exact (below_size (by repeat (first | (with_reducible first | exact HB.out | apply below_alloc | apply pw_below_drewN | apply below_drew1) | exact HB.out))) : w.heap.size ≤ gb114)); clear HO_4; clear HB; have HO_4 := n0_; have HB := n1_; have BK114 := n2_; have GW114 := n3_; have GE114 := n4_; clear n0_ n1_ n2_ n3_ n4_; clear hb hbox hg; have hcz77_0 : w76.cell? ⟨gb114, 0, none⟩ = some (.int .i64 0) := (blk_cell BK114.out 0).trans rfl; have hcz77_1 : w76.cell? ⟨gb114, 1, none⟩ = some (.int .i64 0) := (blk_cell BK114.out 1).trans rfl; have hcz77_2 : w76.cell? ⟨gb114, 2, none⟩ = some (.string (⟨#[]⟩ : ByteArray)) := (blk_cell BK114.out 2).trans rfl; have hfz77_0 := blk_frozen BK114.out 0; have hfz77_1 := blk_frozen BK114.out 1; have hfz77_2 := blk_frozen BK114.out 2) | ((with_reducible refine gate_store (t := 25) (p := 6) rfl ?_); refine store_event (t := 25) (p := 6) (v := ?vo_w78) (w1 := (((w76.setCell ⟨gb114, 0, none⟩ (.int .i64 ((rd_T25 l0 x23_1).f0))).setCell ⟨gb114, 1, none⟩ (.int .i64 ((rd_T25 l0 x23_1).f1))).setCell ⟨gb114, 2, none⟩ (.string ((rd_T25 l0 x23_1).f2)))) ?hg ?ho ?hn ?hr ?_; (case ho => rfl); (case hg => rfl); (case hn => rfl); (case hr => first | (go_simp; done) | (go_simp; rfl)); intro w78 hw; have n0_ : Aside0 (Kd.R (Kd.int .u8) 5 w78 w.heap.size (fun _ => True) u4 x4_1) := ⟨(by rw [hw]; exact (by (with_reducible repeat (first | apply Kd.R_alloc | apply Kd.R_drewN | apply Kd.R_drew)); exact Kd.R_mono (Kd.R_far (p := ⟨gb114, 2, none⟩) (Kd.R_far (p := ⟨gb114, 1, none⟩) (Kd.R_far (p := ⟨gb114, 0, none⟩) (Kd.R_types HO_4.out BK114.out (by decide)) (fun _ hk => hk.2) (.int .i64 ((rd_T25 l0 x23_1).f0))) (fun _ hk => hk.2) (.int .i64 ((rd_T25 l0 x23_1).f1))) (fun _ hk => hk.2) (.string ((rd_T25 l0 x23_1).f2))) (fun _ hk => trivial)))⟩; have n1_ : Aside0 (w78.heap[gb114]? = some (.cells #[.int .i64 ((rd_T25 l0 x23_1).f0), .int .i64 ((rd_T25 l0 x23_1).f1), .string ((rd_T25 l0 x23_1).f2)] 25 (0, 0))) := ⟨(by rw [hw]; exact (by (with_reducible repeat (first | refine blk_drewN ?_ _ | refine blk_drew ?_ | refine blk_alloc ?_ _)); refine blk_put (cs := #[.int .i64 ((rd_T25 l0 x23_1).f0), .int .i64 ((rd_T25 l0 x23_1).f1), .string (⟨#[]⟩ : ByteArray)]) ?_ 2 _ rfl; (with_reducible repeat (first | refine blk_drewN ?_ _ | refine blk_drew ?_ | refine blk_alloc ?_ _)); refine blk_put (cs := #[.int .i64 ((rd_T25 l0 x23_1).f0), .int .i64 0, .string (⟨#[]⟩ : ByteArray)]) ?_ 1 _ rfl; (with_reducible repeat (first | refine blk_drewN ?_ _ | refine blk_drew ?_ | refine blk_alloc ?_ _)); refine blk_put (cs := #[.int .i64 0, .int .i64 0, .string (⟨#[]⟩ : ByteArray)]) ?_ 0 _ rfl; (with_reducible repeat (first | refine blk_drewN ?_ _ | refine blk_drew ?_ | refine blk_alloc ?_ _)); exact BK114.out))⟩; have n2_ : Aside0 (Below w.heap.size w w78) := ⟨(by rw [hw]; exact (by repeat (first | (with_reducible first | exact HB.out | apply below_alloc | apply pw_below_drewN | apply below_drew1 | refine below_set ?_ GE114.out) | exact HB.out)))⟩; clear hw; clear HO_4; clear BK114; clear HB; have HO_4 := n0_; have BK114 := n1_; have HB := n2_; clear n0_ n1_ n2_; have hcz79_0 : w78.cell? ⟨gb114, 0, none⟩ = some (.int .i64 ((rd_T25 l0 x23_1).f0)) := (blk_cell BK114.out 0).trans rfl; have hcz79_1 : w78.cell? ⟨gb114, 1, none⟩ = some (.int .i64 ((rd_T25 l0 x23_1).f1)) := (blk_cell BK114.out 1).trans rfl; have hcz79_2 : w78.cell? ⟨gb114, 2, none⟩ = some (.string ((rd_T25 l0 x23_1).f2)) := (blk_cell BK114.out 2).trans rfl; have hfz79_0 := blk_frozen BK114.out 0; have hfz79_1 := blk_frozen BK114.out 1; have hfz79_2 := blk_frozen BK114.out 2) | ((with_reducible refine gate_callee (f := 15) rfl ?_); refine goesL_ (some 29) rfl rfl Try.func15 (by kernel_rfl) rfl #[.agg #[.int .i64 ((rd_T25 l0 x23_1).f0), .int .i64 ((rd_T25 l0 x23_1).f1), .string ((rd_T25 l0 x23_1).f2)]] rfl (by (try simp only [List.map_toArray, List.map_cons, List.map_nil]); first | done | rfl | (simp only [List.length_drop, List.length_take]; rfl)) ?_; (with_reducible refine (value_Right.calls ((rd_T25 l0 x23_1).f0) ((rd_T25 l0 x23_1).f1) ((rd_T25 l0 x23_1).f2) false _ A15.out).mono ?_); rintro e w80 ⟨rfl, hb⟩; refine ⟨_, rfl, ?_⟩; have n0_ := Aside0.mk (Kd.R_below (by (with_reducible repeat (first | apply Kd.R_alloc | apply Kd.R_drewN | apply Kd.R_drew)); exact HO_4.out) hb); have n1_ := Aside0.mk (blk_below (g := gb114) (o := .cells #[.int .i64 ((rd_T25 l0 x23_1).f0), .int .i64 ((rd_T25 l0 x23_1).f1), .string ((rd_T25 l0 x23_1).f2)] 25 (0, 0)) (by (with_reducible repeat (first | refine blk_drewN ?_ _ | refine blk_drew ?_ | refine blk_alloc ?_ _)); exact BK114.out) hb); have n2_ := Aside0.mk (below_step (by repeat (first | (with_reducible first | exact HB.out | apply below_alloc | apply pw_below_drewN | apply below_drew1 | refine below_set ?_ GE114.out) | exact HB.out)) hb); clear HO_4; clear BK114; clear HB; have HO_4 := n0_; have BK114 := n1_; have HB := n2_; clear n0_ n1_ n2_; (try clear hb); (try clear hb2); (try clear hk); (try clear hi)))
           go_ret2
           exact ⟨by first | rfl | (simp [errW_none, errW_some] <;> rfl) | (simp only [← hji3]; first | rfl | (simp [errW_none, errW_some] <;> rfl)) | (simp [*, errW_none, errW_some] <;> rfl), by repeat (first | (with_reducible first | exact HB.out | apply below_alloc | apply pw_below_drewN | apply below_drew1 | refine below_set ?_ GE114.out) | exact HB.out)⟩
         ·
          rw [if_neg c14] at H
          exact absurd H (by simp)
        ·
         rw [if_neg c13] at H
         exact absurd H (by simp)
       ·
        rw [if_neg c12] at H
        have c12b0 : decide (x23_1 < (l0.length : Int)) = false := decide_eq_false c12
        clear c12
        simp only [Option.some.injEq, Prod.mk.injEq] at H
        obtain ⟨rfl, rfl⟩ := H
        have hcv81 := own_string (P := Try.prog) Try.underlying39 Try.underlying5 Try.underlying9 (Kd.own_of_R HO_4.out)
        go_wp2
        go_ret2
        exact ⟨by first | rfl | (simp [errW_none, errW_some] <;> rfl) | (simp only [← hji3]; first | rfl | (simp [errW_none, errW_some] <;> rfl)) | (simp [*, errW_none, errW_some] <;> rfl), by repeat (first | (with_reducible first | exact HB.out | apply below_alloc | apply pw_below_drewN | apply below_drew1) | exact HB.out)⟩
    ·
     rw [if_neg c6] at H
     exact absurd H (by simp)
   ·
    rw [if_neg c5] at H
    exact absurd H (by simp)
  ·
   rw [if_neg c4] at H
   exact absurd H (by simp)

end Go.Proofs.Ytlgobbofiingnaa.PA
