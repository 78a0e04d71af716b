-- Laid by a program of ours (wip/gen/xprint.py). Not trusted: Lean checks it.
import Derived.Test.YtlgobbofiingnaaPAx0
import Derived.Test.YtlgobbofiingnaaPAx8
namespace Go.Proofs.Ytlgobbofiingnaa.PA
open Go.RowKit Go.Proofs.YtlgobbofiingnaaW.PrintWords Go.Proofs.YtlgobbofiingnaaW.PrintLast Go.Proofs.YtlgobbofiingnaaW.PrintMore Go.Proofs.YtlgobbofiingnaaX
attribute [local go_sem] max2_int min2_int max_two min_two max_three min_three max_four min_four   -- for this text's walks alone
set_option linter.unusedVariables false
set_option linter.unusedSimpArgs false

/-! ### unisonref03_Encode: function 9 -/
def unisonref03_Encode.l0 : Nat → List (S25) → List Int → Int → Option (ByteArray × Int)
 | 0, _, _, _ => none
 | k + 1, x0, x4, x5 => if x5 < (x0.length : Int) then (if 0 ≤ x5 then ((unisonref01_Right.f ((rd_T25 x0 x5).f0) ((rd_T25 x0 x5).f1) ((rd_T25 x0 x5).f2)).bind fun t213 => (if t213 = true then (if 0 ≤ (wrap64 (1 + (wrap64 (Int.tdiv x5 4)))) then (if (wrap64 (1 + (wrap64 (Int.tdiv x5 4)))) < (x4.length : Int) then (if 0 ≤ (wrap64 (2 * (Int.tmod x5 4))) then ((some (x4.set ((wrap64 (1 + (wrap64 (Int.tdiv x5 4)))) : Int).toNat (((rd x4 (wrap64 (1 + (wrap64 (Int.tdiv x5 4))))) + (shl .u8 (((rd_T25 x0 x5).f0) % 256) (wrap64 (2 * (Int.tmod x5 4))))) % 256) : List Int)).bind fun y215 => (if ((rd_T25 x0 x5).f0) = 1 then ((unisonref03_Number.f k y215 ((rd_T25 x0 x5).f1)).bind fun t216 => (unisonref03_Encode.l0 k x0 t216 (wrap64 (x5 + 1)))) else (if ((rd_T25 x0 x5).f0) = 2 then (if y215.length < 140737488355328 then (unisonref03_Encode.l0 k x0 (y215 ++ [((rd_T25 x0 x5).f1) % 256]) (wrap64 (x5 + 1))) else (none)) else (if ((rd_T25 x0 x5).f0) = 3 then (if y215.length < 140737488355328 then ((some (y215 ++ [((((rd_T25 x0 x5).f2).size : Int)) % 256] : List Int)).bind fun y222 => (if y222.length + ((rd_T25 x0 x5).f2).size < 140737488355328 then (unisonref03_Encode.l0 k x0 (y222 ++ bytesOf ((rd_T25 x0 x5).f2)) (wrap64 (x5 + 1))) else (none))) else (none)) else (unisonref03_Encode.l0 k x0 y215 (wrap64 (x5 + 1))))))) else (none)) else (none)) else (none)) else (some ((⟨#[]⟩ : ByteArray), 10)))) else (none)) else (some (strOfNums x4, 0))
def unisonref03_Encode.f (k : Nat) (l0 : List (S25)) : Option (ByteArray × Int) := if (l0.length : Int) > 16 then (some ((⟨#[]⟩ : ByteArray), 2)) else (if 0 ≤ (wrap64 (1 + (wrap64 (Int.tdiv (wrap64 ((l0.length : Int) + 3)) 4)))) then (if (wrap64 (1 + (wrap64 (Int.tdiv (wrap64 ((l0.length : Int) + 3)) 4))) : Int).toNat ≤ 281474976710656 then ((some (List.replicate (wrap64 (1 + (wrap64 (Int.tdiv (wrap64 ((l0.length : Int) + 3)) 4))) : Int).toNat 0 : List Int)).bind fun y207 => (if 0 < (y207.length : Int) then (unisonref03_Encode.l0 k l0 (y207.set (0 : Int).toNat (((l0.length : Int)) % 256)) 0) else (none))) else (none)) else (none))
theorem unisonref03_Encode.mono_l : ∀ k, (∀ y0 y1 y2, LeO (unisonref03_Encode.l0 k y0 y1 y2) (unisonref03_Encode.l0 (k + 1) y0 y1 y2))
 | 0 => fun _ _ _ r h => by simp [unisonref03_Encode.l0] at h
 | k + 1 => by
  have ih0 := unisonref03_Encode.mono_l k
  ·
   intro y0 y1 y2
   unfold unisonref03_Encode.l0
   repeat' first
   | (with_reducible exact ih0 _ _ _)
   | (with_reducible exact unisonref03_Number.mono _ _ _)
   | (with_reducible exact LeO.refl _)
   | (with_reducible exact LeO.none _)
   | (with_reducible refine LeO.ite ?_ ?_)
   | (with_reducible refine LeO.bind ?_ (fun _ => ?_))
   | exact ih0 _ _ _
   | exact unisonref03_Number.mono _ _ _
   | exact LeO.none _
   | refine LeO.ite ?_ ?_
   | refine LeO.bind ?_ (fun _ => ?_)
theorem unisonref03_Encode.mono : ∀ a0 k, LeO (unisonref03_Encode.f k a0) (unisonref03_Encode.f (k + 1) a0) := by
 intro a0 k
 have ih0 := unisonref03_Encode.mono_l k
 unfold unisonref03_Encode.f
 repeat' first
   | (with_reducible exact ih0 _ _ _)
   | (with_reducible exact unisonref03_Number.mono _ _ _)
   | (with_reducible exact LeO.refl _)
   | (with_reducible exact LeO.none _)
   | (with_reducible refine LeO.ite ?_ ?_)
   | (with_reducible refine LeO.bind ?_ (fun _ => ?_))
   | exact ih0 _ _ _
   | exact unisonref03_Number.mono _ _ _
   | exact LeO.none _
   | refine LeO.ite ?_ ?_
   | refine LeO.bind ?_ (fun _ => ?_)
def unisonref03_Encode.T12 : Bool × List (List Nat × List Nat) := (true, [([], []), ([], []), ([1], [1]), ([2], [2]), ([], []), ([], []), ([5], [5]), ([6], [6]), ([4, 7], [4, 7]), ([8], [8]), ([], []), ([10], [10]), ([11], [11]), ([], []), ([13], [13]), ([14], [14]), ([12, 15], [12, 15]), ([9, 16], [9, 16]), ([0, 3, 0, 1, 2, 3, 4, 5, 6, 7, 8, 9, 10, 11, 12, 13, 14, 15, 16, 17], [0, 3]), ([18, 17, 0, 1, 2, 3, 4, 5, 6, 7, 8, 9, 10, 11, 12, 13, 14, 15, 16, 17], [17, 18])])
def unisonref03_Encode.B12 : List Nat := [0, 0, 2, 6, 0, 0, 32, 96, 240, 496, 0, 1024, 3072, 0, 8192, 24576, 64512, 131056, 262143, 524287]
theorem unisonref03_Encode.tab12 : rtab .any (opsOf Try.f9 12) = unisonref03_Encode.T12 := by kernel_rfl
theorem unisonref03_Encode.bits12 : waitsOk unisonref03_Encode.T12.2 unisonref03_Encode.B12 = true := by kernel_rfl
set_option maxHeartbeats 8000000 in
set_option maxRecDepth 100000 in
theorem unisonref03_Encode.calls (k : Nat) (A0 : Option Addr) (c0 : Nat) (l0 : List (S25)) (r1 : ByteArray) (r2 : Int) (w : World) (hr0 : Kd.C k25 w A0 l0.length l0) (hc0 : l0.length ≤ c0) (h : unisonref03_Encode.f k l0 = some (r1, r2)) :
  Calls Try.prog 9 #[.slice A0 l0.length c0] w fun e w' => e = .returned (.tuple #[.string r1, .int .i64 r2]) ∧ Below w.heap.size w w' := by
 have hu25 := Try.underlying25
 have HR0 := Aside0.mk hr0
 have HC0 := Aside0.mk hc0
 clear hr0 hc0
 have HB := Aside0.mk (Below.refl w.heap.size w)
 have H : (if (l0.length : Int) > 16 then (some ((⟨#[]⟩ : ByteArray), 2)) else (if 0 ≤ (wrap64 (1 + (wrap64 (Int.tdiv (wrap64 ((l0.length : Int) + 3)) 4)))) then (if (wrap64 (1 + (wrap64 (Int.tdiv (wrap64 ((l0.length : Int) + 3)) 4))) : Int).toNat ≤ 281474976710656 then ((some (List.replicate (wrap64 (1 + (wrap64 (Int.tdiv (wrap64 ((l0.length : Int) + 3)) 4))) : Int).toNat 0 : List Int)).bind fun y207 => (if 0 < (y207.length : Int) then (unisonref03_Encode.l0 k l0 (y207.set (0 : Int).toNat (((l0.length : Int)) % 256)) 0) else (none))) else (none)) else (none))) = some (r1, r2) := h
 clear h
 by_cases c2 : (l0.length : Int) > 16
 ·
  rw [if_pos c2] at H
  have c2b0 : decide (16 < (l0.length : Int)) = true := decide_eq_true c2
  have c2b1 : decide (16 < l0.length) = true := decide_eq_true (by omega)
  clear c2
  simp only [Option.some.injEq, Prod.mk.injEq] at H
  obtain ⟨rfl, rfl⟩ := H
  go_enter Try.func9, Try.ntmps9
  go_wp2
  go_ret2
  exact ⟨by first | rfl | (simp [errW_none, errW_some] <;> rfl) | (simp [*, errW_none, errW_some] <;> rfl), by repeat (first | (with_reducible first | exact HB.out | apply below_alloc | apply pw_below_drewN | apply below_drew1) | exact HB.out)⟩
 ·
  rw [if_neg c2] at H
  have c2b0 : decide (16 < (l0.length : Int)) = false := decide_eq_false c2
  have c2b1 : decide (16 < l0.length) = false := decide_eq_false (by omega)
  clear c2
  obtain ⟨ji3, hji3⟩ : ∃ j_ : Int, (wrap64 (1 + (wrap64 (Int.tdiv (wrap64 ((l0.length : Int) + 3)) 4)))) = j_ := ⟨_, rfl⟩
  replace H : (if 0 ≤ (ji3) then (if (ji3 : Int).toNat ≤ 281474976710656 then ((some (List.replicate (ji3 : Int).toNat 0 : List Int)).bind fun y207 => (if 0 < (y207.length : Int) then (unisonref03_Encode.l0 k l0 (y207.set (0 : Int).toNat (((l0.length : Int)) % 256)) 0) else (none))) else (none)) else (none)) = some (r1, r2) := by first | (rw [hji3] at H; exact H) | (simp only [hji3] at H ⊢; exact H)
  have hji3w : (IntKind.i64.wrap (1 + (wrap64 (Int.tdiv (wrap64 ((l0.length : Int) + 3)) 4)))) = ji3 := (i64_w _).trans hji3
  by_cases c4 : 0 ≤ (ji3)
  ·
   rw [if_pos c4] at H
   have c4b0 := eq_true c4
   have c4b1 : decide (0 ≤ (ji3)) = true := decide_eq_true c4
   clear c4
   by_cases c5 : (ji3 : Int).toNat ≤ 281474976710656
   ·
    rw [if_pos c5] at H
    have c5b0 := eq_true c5
    have c5b1 : decide ((ji3 : Int).toNat ≤ 281474976710656) = true := decide_eq_true c5
    clear c5
    obtain ⟨y207, hy207⟩ : ∃ y_ : List Int, y_ = (List.replicate (ji3 : Int).toNat 0) := ⟨_, rfl⟩
    replace H : (if 0 < (y207.length : Int) then (unisonref03_Encode.l0 k l0 (y207.set (0 : Int).toNat (((l0.length : Int)) % 256)) 0) else (none)) = some (r1, r2) := by first | (rw [hy207]; with_reducible exact H) | (have H2_ := (Option.bind_some _ _).symm.trans H; rw [hy207]; with_reducible exact H2_) | (have H2_ := (Option.bind_some _ _).symm.trans H; with_reducible exact H2_) | with_reducible exact H | (rw [hy207]; exact H) | exact H
    have Ny207 := Aside0.mk hy207
    clear hy207
    by_cases c6 : 0 < (y207.length : Int)
    ·
     rw [if_pos c6] at H
     have c6b0 : decide (0 < (y207.length : Int)) = true := decide_eq_true c6
     have c6b1 : decide (0 < y207.length) = true := decide_eq_true (by omega)
     clear c6
     obtain ⟨y210, hy210⟩ : ∃ y_ : List Int, y_ = (y207.set (0 : Int).toNat (((l0.length : Int)) % 256)) := ⟨_, rfl⟩
     replace H : (unisonref03_Encode.l0 k l0 y210 0) = some (r1, r2) := by first | (rw [hy210]; with_reducible exact H) | (have H2_ := (Option.bind_some _ _).symm.trans H; rw [hy210]; with_reducible exact H2_) | (have H2_ := (Option.bind_some _ _).symm.trans H; with_reducible exact H2_) | with_reducible exact H | (rw [hy210]; exact H) | exact H
     have Ny210 := Aside0.mk hy210
     clear hy210
     have H' := Aside0.mk H
     clear H
     go_enter Try.func9, Try.ntmps9
     go_wp2_with (first | ((with_reducible refine gate_dst (N := 16) rfl ?_); refine Kd.R_make (Kd.int .u8) _ 5 rfl (N := 16) rfl 39 _ _ rfl ji3 rfl rfl Try.underlying39 (.int .u8 0) 1 info5 rfl (by decide) (by omega) 0 (ok := fun _ => True) (okp := fun _ => True) rfl (fun _ hk => hk) trivial (of_decide_eq_true (by first | (with_reducible assumption) | assumption)) (Nat.le_trans (Nat.mul_le_mul_right _ (of_decide_eq_true (by first | (with_reducible assumption) | assumption) : ji3.toNat ≤ 281474976710656)) (by omega)) (Below.refl _ _) (Nat.le_refl _) ?_; intro v208 w8 ho9 hb hg_ hnew_; clear hg_ hnew_; (first | rw [← Ny207.out] at ho9 | (simp only [Int.reduceToNat] at ho9; rw [← Ny207.out] at ho9)); have n0_ := Aside0.mk (Kd.R_lower ho9 (below_size (by repeat (first | (with_reducible first | exact HB.out | apply below_alloc | apply pw_below_drewN | apply below_drew1) | exact HB.out)))); have n1_ := Aside0.mk (below_step (by repeat (first | (with_reducible first | exact HB.out | apply below_alloc | apply pw_below_drewN | apply below_drew1) | exact HB.out)) hb); clear HB; have HO209 := n0_; have HB := n1_; clear n0_ n1_; clear hb ho9; have p7 : 0 ≤ (0 : Int) := (by omega); have q7 : (0 : Int) < ((y207.length : Int) : Int) := of_decide_eq_true (by first | (with_reducible assumption) | assumption); have qi7 : (0 < y207.length) = True := eq_true (by omega); obtain ⟨go7, co7, eo7, gb7, gl7, cl7, HG7⟩ := Kd.R_form HO209.out (by omega); (first | cases eo7 | (injection eo7 with ea_ en_ ec_; (first | subst ea_ | (injection ea_ with ea_; subst ea_)); subst ec_; clear en_)); have GB7 := Aside0.mk gb7; have GG7 := Aside0.mk HG7; clear gb7 gl7 HG7; obtain ⟨hx7_0, hf7_0⟩ := Kd.R_celln 0 HO209.out (0 : Int) p7 q7; (try rw [show ((0 : Int)).toNat = 0 from rfl] at hx7_0); (try simp only [Nat.reduceMul, Nat.zero_mul, Nat.zero_add, Nat.reduceAdd] at hx7_0); (try rw [show ((0 : Int)).toNat = 0 from rfl] at hf7_0); (try simp only [Nat.reduceMul, Nat.zero_mul, Nat.zero_add, Nat.reduceAdd] at hf7_0); replace p7 := eq_true p7; replace q7 := eq_true q7; obtain ⟨hy10_, hz10_⟩ := Kd.R_celln 0 HO209.out (0 : Int) (by omega) (of_decide_eq_true (by first | (with_reducible assumption) | assumption)); (try simp only [Int.reduceToNat, Int.toNat_zero, Int.toNat_ofNat, Nat.reduceMul, Nat.zero_mul, Nat.zero_add] at hy10_ hz10_); (try rw [show ((0 : Int)).toNat = 0 from rfl] at hy10_); (try rw [show ((0 : Int)).toNat = 0 from rfl] at hz10_); have HP10 := Kd.R_putg HO209.out (0 : Int) (((l0.length : Int)) % 256)) | ((with_reducible refine gate_store (t := 5) (p := 21) rfl ?_); refine store_event (t := 5) (p := 21) (v := ?vo_w11) (w1 := (w8.setCell ⟨go7, (0 : Int).toNat, none⟩ (.int .u8 (((l0.length : Int)) % 256)))) ?hg ?ho ?hn ?hr ?_; (case ho => rfl); (case hg => rfl); (case hn => rfl); (case hr => first | (go_simp; done) | (go_simp; rfl)); intro w11 hw; have hg : w8.grownBy w11 (some go7) := (by rw [hw]; exact HP10.2); have hp_ : Kd.R (Kd.int .u8) 5 w11 w.heap.size (fun _ => True) (.slice (some ⟨go7, 0, none⟩) y207.length co7) y210 := (by rw [hw, Ny210.out]; exact HP10.1); clear HP10; have n0_ := Aside0.mk (hp_); have n1_ := Aside0.mk ((by rw [hw]; exact below_set (HB.out) GB7.out : Below w.heap.size w w11)); clear HO209; clear HB; have HO209 := n0_; have HB := n1_; clear n0_ n1_; clear hg hw hp_))
     go_loopg [4, 5] k (fun kq v4 v5 w' => ∃ (x4_1 : List Int) (x5_1 : Int), v5 = .int .i64 x5_1 ∧ Aside0 (unisonref03_Encode.l0 kq l0 x4_1 x5_1 = some (r1, r2)) ∧ Aside0 (kq ≤ k) ∧ Aside0 (Kd.R (Kd.int .u8) 5 w' w.heap.size (fun _ => True) v4 x4_1) ∧ Aside0 (Below w.heap.size w w'))
     case atStart => exact ⟨(y210), (0), (by first | rfl | (simp; done) | (simp [*]; done)), H', ⟨Nat.le_refl _⟩, ⟨by (with_reducible repeat (first | apply Kd.R_alloc | apply Kd.R_drewN | apply Kd.R_drew)); exact HO209.out⟩, ⟨by repeat (first | (with_reducible first | exact HB.out | apply below_alloc | apply pw_below_drewN | apply below_drew1) | exact HB.out)⟩⟩
     case round =>
      clear H'
      try clear c2
      try clear c2b0
      try clear c2b1
      try clear p2
      try clear c4
      try clear c4b0
      try clear c4b1
      try clear c5
      try clear c5b0
      try clear c5b1
      try clear c6
      try clear c6b0
      try clear c6b1
      try clear p6
      try clear p7
      try clear q7
      try clear hx7
      try clear qi7
      try clear hf7
      try clear c9
      try clear hx7_0
      try clear p7
      try clear q7
      obtain ⟨x4_1, x5_1, rfl, HA, HK1, HO_4, HB⟩ := hrel
      cases gk with
      | zero => exact absurd HA.out (by simp [unisonref03_Encode.l0])
      | succ k1 =>
       have H := HA.out
       clear HA
       simp only [unisonref03_Encode.l0] at H
       by_cases c12 : x5_1 < (l0.length : Int)
       ·
        rw [if_pos c12] at H
        have c12b0 : decide (x5_1 < (l0.length : Int)) = true := decide_eq_true c12
        clear c12
        by_cases c13 : 0 ≤ x5_1
        ·
         rw [if_pos c13] at H
         have c13b0 : decide (0 ≤ x5_1) = true := decide_eq_true c13
         clear c13
         replace H := Option.bind_eq_some_iff.mp H
         obtain ⟨t213, A140, H⟩ := H
         replace H : (if t213 = true then (if 0 ≤ (wrap64 (1 + (wrap64 (Int.tdiv x5_1 4)))) then (if (wrap64 (1 + (wrap64 (Int.tdiv x5_1 4)))) < (x4_1.length : Int) then (if 0 ≤ (wrap64 (2 * (Int.tmod x5_1 4))) then ((some (x4_1.set ((wrap64 (1 + (wrap64 (Int.tdiv x5_1 4)))) : Int).toNat (((rd x4_1 (wrap64 (1 + (wrap64 (Int.tdiv x5_1 4))))) + (shl .u8 (((rd_T25 l0 x5_1).f0) % 256) (wrap64 (2 * (Int.tmod x5_1 4))))) % 256) : List Int)).bind fun y215 => (if ((rd_T25 l0 x5_1).f0) = 1 then ((unisonref03_Number.f k1 y215 ((rd_T25 l0 x5_1).f1)).bind fun t216 => (unisonref03_Encode.l0 k1 l0 t216 (wrap64 (x5_1 + 1)))) else (if ((rd_T25 l0 x5_1).f0) = 2 then (if y215.length < 140737488355328 then (unisonref03_Encode.l0 k1 l0 (y215 ++ [((rd_T25 l0 x5_1).f1) % 256]) (wrap64 (x5_1 + 1))) else (none)) else (if ((rd_T25 l0 x5_1).f0) = 3 then (if y215.length < 140737488355328 then ((some (y215 ++ [((((rd_T25 l0 x5_1).f2).size : Int)) % 256] : List Int)).bind fun y222 => (if y222.length + ((rd_T25 l0 x5_1).f2).size < 140737488355328 then (unisonref03_Encode.l0 k1 l0 (y222 ++ bytesOf ((rd_T25 l0 x5_1).f2)) (wrap64 (x5_1 + 1))) else (none))) else (none)) else (unisonref03_Encode.l0 k1 l0 y215 (wrap64 (x5_1 + 1))))))) else (none)) else (none)) else (none)) else (some ((⟨#[]⟩ : ByteArray), 10))) = some (r1, r2) := H
         have A14 := Aside0.mk A140
         clear A140
         by_cases c15 : t213 = true
         ·
          subst c15
          have H1 : (if 0 ≤ (wrap64 (1 + (wrap64 (Int.tdiv x5_1 4)))) then (if (wrap64 (1 + (wrap64 (Int.tdiv x5_1 4)))) < (x4_1.length : Int) then (if 0 ≤ (wrap64 (2 * (Int.tmod x5_1 4))) then ((some (x4_1.set ((wrap64 (1 + (wrap64 (Int.tdiv x5_1 4)))) : Int).toNat (((rd x4_1 (wrap64 (1 + (wrap64 (Int.tdiv x5_1 4))))) + (shl .u8 (((rd_T25 l0 x5_1).f0) % 256) (wrap64 (2 * (Int.tmod x5_1 4))))) % 256) : List Int)).bind fun y215 => (if ((rd_T25 l0 x5_1).f0) = 1 then ((unisonref03_Number.f k1 y215 ((rd_T25 l0 x5_1).f1)).bind fun t216 => (unisonref03_Encode.l0 k1 l0 t216 (wrap64 (x5_1 + 1)))) else (if ((rd_T25 l0 x5_1).f0) = 2 then (if y215.length < 140737488355328 then (unisonref03_Encode.l0 k1 l0 (y215 ++ [((rd_T25 l0 x5_1).f1) % 256]) (wrap64 (x5_1 + 1))) else (none)) else (if ((rd_T25 l0 x5_1).f0) = 3 then (if y215.length < 140737488355328 then ((some (y215 ++ [((((rd_T25 l0 x5_1).f2).size : Int)) % 256] : List Int)).bind fun y222 => (if y222.length + ((rd_T25 l0 x5_1).f2).size < 140737488355328 then (unisonref03_Encode.l0 k1 l0 (y222 ++ bytesOf ((rd_T25 l0 x5_1).f2)) (wrap64 (x5_1 + 1))) else (none))) else (none)) else (unisonref03_Encode.l0 k1 l0 y215 (wrap64 (x5_1 + 1))))))) else (none)) else (none)) else (none)) = some (r1, r2) := by rw [if_pos rfl] at H; exact H
          clear H
          have H := H1
          clear H1
          obtain ⟨ji16, hji16⟩ : ∃ j_ : Int, (wrap64 (1 + (wrap64 (Int.tdiv x5_1 4)))) = j_ := ⟨_, rfl⟩
          replace H : (if 0 ≤ (ji16) then (if (ji16) < (x4_1.length : Int) then (if 0 ≤ (wrap64 (2 * (Int.tmod x5_1 4))) then ((some (x4_1.set ((ji16) : Int).toNat (((rd x4_1 (ji16)) + (shl .u8 (((rd_T25 l0 x5_1).f0) % 256) (wrap64 (2 * (Int.tmod x5_1 4))))) % 256) : List Int)).bind fun y215 => (if ((rd_T25 l0 x5_1).f0) = 1 then ((unisonref03_Number.f k1 y215 ((rd_T25 l0 x5_1).f1)).bind fun t216 => (unisonref03_Encode.l0 k1 l0 t216 (wrap64 (x5_1 + 1)))) else (if ((rd_T25 l0 x5_1).f0) = 2 then (if y215.length < 140737488355328 then (unisonref03_Encode.l0 k1 l0 (y215 ++ [((rd_T25 l0 x5_1).f1) % 256]) (wrap64 (x5_1 + 1))) else (none)) else (if ((rd_T25 l0 x5_1).f0) = 3 then (if y215.length < 140737488355328 then ((some (y215 ++ [((((rd_T25 l0 x5_1).f2).size : Int)) % 256] : List Int)).bind fun y222 => (if y222.length + ((rd_T25 l0 x5_1).f2).size < 140737488355328 then (unisonref03_Encode.l0 k1 l0 (y222 ++ bytesOf ((rd_T25 l0 x5_1).f2)) (wrap64 (x5_1 + 1))) else (none))) else (none)) else (unisonref03_Encode.l0 k1 l0 y215 (wrap64 (x5_1 + 1))))))) else (none)) else (none)) else (none)) = some (r1, r2) := by first | (rw [hji16] at H; exact H) | (simp only [hji16] at H ⊢; exact H)
          (try rw [hji16] at A14)
          have hji16w : (IntKind.i64.wrap (1 + (wrap64 (Int.tdiv x5_1 4)))) = ji16 := (i64_w _).trans hji16
          by_cases c17 : 0 ≤ (ji16)
          ·
           rw [if_pos c17] at H
           have c17b0 : decide (0 ≤ (ji16)) = true := decide_eq_true c17
           clear c17
           by_cases c18 : (ji16) < (x4_1.length : Int)
           ·
            rw [if_pos c18] at H
            have c18b0 : decide ((ji16) < (x4_1.length : Int)) = true := decide_eq_true c18
            clear c18
            obtain ⟨ji19, hji19⟩ : ∃ j_ : Int, (wrap64 (2 * (Int.tmod x5_1 4))) = j_ := ⟨_, rfl⟩
            replace H : (if 0 ≤ (ji19) then ((some (x4_1.set ((ji16) : Int).toNat (((rd x4_1 (ji16)) + (shl .u8 (((rd_T25 l0 x5_1).f0) % 256) (ji19))) % 256) : List Int)).bind fun y215 => (if ((rd_T25 l0 x5_1).f0) = 1 then ((unisonref03_Number.f k1 y215 ((rd_T25 l0 x5_1).f1)).bind fun t216 => (unisonref03_Encode.l0 k1 l0 t216 (wrap64 (x5_1 + 1)))) else (if ((rd_T25 l0 x5_1).f0) = 2 then (if y215.length < 140737488355328 then (unisonref03_Encode.l0 k1 l0 (y215 ++ [((rd_T25 l0 x5_1).f1) % 256]) (wrap64 (x5_1 + 1))) else (none)) else (if ((rd_T25 l0 x5_1).f0) = 3 then (if y215.length < 140737488355328 then ((some (y215 ++ [((((rd_T25 l0 x5_1).f2).size : Int)) % 256] : List Int)).bind fun y222 => (if y222.length + ((rd_T25 l0 x5_1).f2).size < 140737488355328 then (unisonref03_Encode.l0 k1 l0 (y222 ++ bytesOf ((rd_T25 l0 x5_1).f2)) (wrap64 (x5_1 + 1))) else (none))) else (none)) else (unisonref03_Encode.l0 k1 l0 y215 (wrap64 (x5_1 + 1))))))) else (none)) = some (r1, r2) := by first | (rw [hji19] at H; exact H) | (simp only [hji19] at H ⊢; exact H)
            (try rw [hji19] at A14)
            have hji19w : (IntKind.i64.wrap (2 * (Int.tmod x5_1 4))) = ji19 := (i64_w _).trans hji19
            by_cases c20 : 0 ≤ (ji19)
            ·
             rw [if_pos c20] at H
             have c20b0 := eq_true c20
             have c20b1 : decide (0 ≤ (ji19)) = true := decide_eq_true c20
             clear c20
             obtain ⟨ji21, hji21⟩ : ∃ j_ : Int, (shl .u8 (((rd_T25 l0 x5_1).f0) % 256) (ji19)) = j_ := ⟨_, rfl⟩
             replace H : ((some (x4_1.set ((ji16) : Int).toNat (((rd x4_1 (ji16)) + (ji21)) % 256) : List Int)).bind fun y215 => (if ((rd_T25 l0 x5_1).f0) = 1 then ((unisonref03_Number.f k1 y215 ((rd_T25 l0 x5_1).f1)).bind fun t216 => (unisonref03_Encode.l0 k1 l0 t216 (wrap64 (x5_1 + 1)))) else (if ((rd_T25 l0 x5_1).f0) = 2 then (if y215.length < 140737488355328 then (unisonref03_Encode.l0 k1 l0 (y215 ++ [((rd_T25 l0 x5_1).f1) % 256]) (wrap64 (x5_1 + 1))) else (none)) else (if ((rd_T25 l0 x5_1).f0) = 3 then (if y215.length < 140737488355328 then ((some (y215 ++ [((((rd_T25 l0 x5_1).f2).size : Int)) % 256] : List Int)).bind fun y222 => (if y222.length + ((rd_T25 l0 x5_1).f2).size < 140737488355328 then (unisonref03_Encode.l0 k1 l0 (y222 ++ bytesOf ((rd_T25 l0 x5_1).f2)) (wrap64 (x5_1 + 1))) else (none))) else (none)) else (unisonref03_Encode.l0 k1 l0 y215 (wrap64 (x5_1 + 1))))))) = some (r1, r2) := by first | (rw [hji21] at H; exact H) | (simp only [hji21] at H ⊢; exact H)
             (try rw [hji21] at A14)
             have hji21_ : (IntKind.u8.wrap ((((rd_T25 l0 x5_1).f0) % 256) * 2 ^ min (ji19).toNat 8)) = ji21 := hji21
             have hji21z : (ji19) ≤ 8 → (IntKind.u8.wrap ((((rd_T25 l0 x5_1).f0) % 256) * 2 ^ (ji19).toNat)) = ji21 := shl_small hji21
             (try have hji21y := hji21z (by (try simp only [decide_eq_true_eq, decide_eq_false_iff_not] at *); omega))
             obtain ⟨y215, hy215⟩ : ∃ y_ : List Int, y_ = (x4_1.set ((ji16) : Int).toNat (((rd x4_1 (ji16)) + (ji21)) % 256)) := ⟨_, rfl⟩
             replace H : (if ((rd_T25 l0 x5_1).f0) = 1 then ((unisonref03_Number.f k1 y215 ((rd_T25 l0 x5_1).f1)).bind fun t216 => (unisonref03_Encode.l0 k1 l0 t216 (wrap64 (x5_1 + 1)))) else (if ((rd_T25 l0 x5_1).f0) = 2 then (if y215.length < 140737488355328 then (unisonref03_Encode.l0 k1 l0 (y215 ++ [((rd_T25 l0 x5_1).f1) % 256]) (wrap64 (x5_1 + 1))) else (none)) else (if ((rd_T25 l0 x5_1).f0) = 3 then (if y215.length < 140737488355328 then ((some (y215 ++ [((((rd_T25 l0 x5_1).f2).size : Int)) % 256] : List Int)).bind fun y222 => (if y222.length + ((rd_T25 l0 x5_1).f2).size < 140737488355328 then (unisonref03_Encode.l0 k1 l0 (y222 ++ bytesOf ((rd_T25 l0 x5_1).f2)) (wrap64 (x5_1 + 1))) else (none))) else (none)) else (unisonref03_Encode.l0 k1 l0 y215 (wrap64 (x5_1 + 1)))))) = some (r1, r2) := by first | (rw [hy215]; with_reducible exact H) | (have H2_ := (Option.bind_some _ _).symm.trans H; rw [hy215]; with_reducible exact H2_) | (have H2_ := (Option.bind_some _ _).symm.trans H; with_reducible exact H2_) | with_reducible exact H | (rw [hy215]; exact H) | exact H
             have Ny215 := Aside0.mk hy215
             clear hy215
             by_cases c23 : ((rd_T25 l0 x5_1).f0) = 1
             ·
              rw [if_pos c23] at H
              have c23b0 : (((rd_T25 l0 x5_1).f0) == 1) = true := beq_iff_eq.mpr c23
              have c23b1 : (((rd_T25 l0 x5_1).f0) != 1) = false := bne_eq_false_iff_eq.mpr c23
              clear c23
              replace H := Option.bind_eq_some_iff.mp H
              obtain ⟨t216, A240, H⟩ := H
              replace H : (unisonref03_Encode.l0 k1 l0 t216 (wrap64 (x5_1 + 1))) = some (r1, r2) := H
              have A24 := Aside0.mk A240
              clear A240
              have H' := Aside0.mk H
              clear H
              have p211 : 0 ≤ (x5_1 : Int) := of_decide_eq_true (by first | (with_reducible assumption) | assumption)
              have q211 : x5_1 < (l0.length : Int) := of_decide_eq_true (by first | (with_reducible assumption) | assumption)
              obtain ⟨ad211, e211, hx211_0, hx211_1, hx211_2⟩ := at_T25 HR0.out x5_1 p211 q211
              cases e211
              replace hx211_0 := (HB.out.cell (World.block_lt_of_cell? w _ hx211_0)).trans hx211_0
              replace hx211_1 := (HB.out.cell (World.block_lt_of_cell? w _ hx211_1)).trans hx211_1
              replace hx211_2 := (HB.out.cell (World.block_lt_of_cell? w _ hx211_2)).trans hx211_2
              replace p211 := eq_true p211
              replace q211 := eq_true q211
              try go_wp2_with (first | ((with_reducible refine gate_dst (N := 6) rfl ?_); refine box_event ?hg (N := 6) ?hd (cs := #[.int .i64 0, .int .i64 0, .string (⟨#[]⟩ : ByteArray)]) (t := 25) ?hr ?_; (case hd => rfl); (case hg => rfl); (case hr => first | (go_simp; done) | (go_simp; rfl)); intro gb212 hg w25 hbox hb; have n0_ := Aside0.mk (Kd.R_below (by (with_reducible repeat (first | apply Kd.R_alloc | apply Kd.R_drewN | apply Kd.R_drew)); exact HO_4.out) hb); have n1_ := Aside0.mk (below_step (by repeat (first | (with_reducible first | exact HB.out | apply below_alloc | apply pw_below_drewN | apply below_drew1) | exact HB.out)) hb); have n2_ := Aside0.mk (hbox); have n3_ := Aside0.mk ((by rw [hg]; exact (below_size (by repeat (first | (with_reducible first | exact HB.out | apply below_alloc | apply pw_below_drewN | apply below_drew1) | exact HB.out))) : w.heap.size ≤ gb212)); have n4_ := Aside0.mk ((by rw [hg]; exact (below_size (by repeat (first | (with_reducible first | exact HB.out | apply below_alloc | apply pw_below_drewN | apply below_drew1) | exact HB.out))) : w.heap.size ≤ gb212)); clear HO_4; clear HB; have HO_4 := n0_; have HB := n1_; have BK212 := n2_; have GW212 := n3_; have GE212 := n4_; clear n0_ n1_ n2_ n3_ n4_; clear hb hbox hg; have hcz26_0 : w25.cell? ⟨gb212, 0, none⟩ = some (.int .i64 0) := (blk_cell BK212.out 0).trans rfl; have hcz26_1 : w25.cell? ⟨gb212, 1, none⟩ = some (.int .i64 0) := (blk_cell BK212.out 1).trans rfl; have hcz26_2 : w25.cell? ⟨gb212, 2, none⟩ = some (.string (⟨#[]⟩ : ByteArray)) := (blk_cell BK212.out 2).trans rfl; have hfz26_0 := blk_frozen BK212.out 0; have hfz26_1 := blk_frozen BK212.out 1; have hfz26_2 := blk_frozen BK212.out 2) | ((with_reducible refine gate_store (t := 25) (p := 6) rfl ?_); refine store_event (t := 25) (p := 6) (v := ?vo_w27) (w1 := (((w25.setCell ⟨gb212, 0, none⟩ (.int .i64 ((rd_T25 l0 x5_1).f0))).setCell ⟨gb212, 1, none⟩ (.int .i64 ((rd_T25 l0 x5_1).f1))).setCell ⟨gb212, 2, none⟩ (.string ((rd_T25 l0 x5_1).f2)))) ?hg ?ho ?hn ?hr ?_; (case ho => rfl); (case hg => rfl); (case hn => rfl); (case hr => first | (go_simp; done) | (go_simp; rfl)); intro w27 hw; have n0_ : Aside0 (Kd.R (Kd.int .u8) 5 w27 w.heap.size (fun _ => True) u4 x4_1) := ⟨(by rw [hw]; exact (by (with_reducible repeat (first | apply Kd.R_alloc | apply Kd.R_drewN | apply Kd.R_drew)); exact Kd.R_mono (Kd.R_far (p := ⟨gb212, 2, none⟩) (Kd.R_far (p := ⟨gb212, 1, none⟩) (Kd.R_far (p := ⟨gb212, 0, none⟩) (Kd.R_types HO_4.out BK212.out (by decide)) (fun _ hk => hk.2) (.int .i64 ((rd_T25 l0 x5_1).f0))) (fun _ hk => hk.2) (.int .i64 ((rd_T25 l0 x5_1).f1))) (fun _ hk => hk.2) (.string ((rd_T25 l0 x5_1).f2))) (fun _ hk => trivial)))⟩; have n1_ : Aside0 (w27.heap[gb212]? = some (.cells #[.int .i64 ((rd_T25 l0 x5_1).f0), .int .i64 ((rd_T25 l0 x5_1).f1), .string ((rd_T25 l0 x5_1).f2)] 25 (0, 0))) := ⟨(by rw [hw]; exact (by (with_reducible repeat (first | refine blk_drewN ?_ _ | refine blk_drew ?_ | refine blk_alloc ?_ _)); refine blk_put (cs := #[.int .i64 ((rd_T25 l0 x5_1).f0), .int .i64 ((rd_T25 l0 x5_1).f1), .string (⟨#[]⟩ : ByteArray)]) ?_ 2 _ rfl; (with_reducible repeat (first | refine blk_drewN ?_ _ | refine blk_drew ?_ | refine blk_alloc ?_ _)); refine blk_put (cs := #[.int .i64 ((rd_T25 l0 x5_1).f0), .int .i64 0, .string (⟨#[]⟩ : ByteArray)]) ?_ 1 _ rfl; (with_reducible repeat (first | refine blk_drewN ?_ _ | refine blk_drew ?_ | refine blk_alloc ?_ _)); refine blk_put (cs := #[.int .i64 0, .int .i64 0, .string (⟨#[]⟩ : ByteArray)]) ?_ 0 _ rfl; (with_reducible repeat (first | refine blk_drewN ?_ _ | refine blk_drew ?_ | refine blk_alloc ?_ _)); exact BK212.out))⟩; have n2_ : Aside0 (Below w.heap.size w w27) := ⟨(by rw [hw]; exact (by repeat (first | (with_reducible first | exact HB.out | apply below_alloc | apply pw_below_drewN | apply below_drew1 | refine below_set ?_ GE212.out) | exact HB.out)))⟩; clear hw; clear HO_4; clear BK212; clear HB; have HO_4 := n0_; have BK212 := n1_; have HB := n2_; clear n0_ n1_ n2_; have hcz28_0 : w27.cell? ⟨gb212, 0, none⟩ = some (.int .i64 ((rd_T25 l0 x5_1).f0)) := (blk_cell BK212.out 0).trans rfl; have hcz28_1 : w27.cell? ⟨gb212, 1, none⟩ = some (.int .i64 ((rd_T25 l0 x5_1).f1)) := (blk_cell BK212.out 1).trans rfl; have hcz28_2 : w27.cell? ⟨gb212, 2, none⟩ = some (.string ((rd_T25 l0 x5_1).f2)) := (blk_cell BK212.out 2).trans rfl; have hfz28_0 := blk_frozen BK212.out 0; have hfz28_1 := blk_frozen BK212.out 1; have hfz28_2 := blk_frozen BK212.out 2) | ((with_reducible refine gate_callee (f := 17) rfl ?_); refine goesL_ (some 33) rfl rfl Try.func17 (by kernel_rfl) rfl #[.agg #[.int .i64 ((rd_T25 l0 x5_1).f0), .int .i64 ((rd_T25 l0 x5_1).f1), .string ((rd_T25 l0 x5_1).f2)]] rfl (by (try simp only [List.map_toArray, List.map_cons, List.map_nil]); first | done | rfl | (simp only [List.length_drop, List.length_take]; rfl)) ?_; (with_reducible refine (unisonref01_Right.calls ((rd_T25 l0 x5_1).f0) ((rd_T25 l0 x5_1).f1) ((rd_T25 l0 x5_1).f2) true _ A14.out).mono ?_); rintro e w29 ⟨rfl, hb⟩; refine ⟨_, rfl, ?_⟩; have n0_ := Aside0.mk (Kd.R_below (by (with_reducible repeat (first | apply Kd.R_alloc | apply Kd.R_drewN | apply Kd.R_drew)); exact HO_4.out) hb); have n1_ := Aside0.mk (blk_below (g := gb212) (o := .cells #[.int .i64 ((rd_T25 l0 x5_1).f0), .int .i64 ((rd_T25 l0 x5_1).f1), .string ((rd_T25 l0 x5_1).f2)] 25 (0, 0)) (by (with_reducible repeat (first | refine blk_drewN ?_ _ | refine blk_drew ?_ | refine blk_alloc ?_ _)); exact BK212.out) hb); have n2_ := Aside0.mk (below_step (by repeat (first | (with_reducible first | exact HB.out | apply below_alloc | apply pw_below_drewN | apply below_drew1 | refine below_set ?_ GE212.out) | exact HB.out)) hb); clear HO_4; clear BK212; clear HB; have HO_4 := n0_; have BK212 := n1_; have HB := n2_; clear n0_ n1_ n2_; (try clear hb); (try clear hb2); (try clear hk); (try clear hi)))
              have n0_ := Aside0.mk (Kd.R_drew HO_4.out)
              have n1_ := Aside0.mk (blk_drew BK212.out)
              have n2_ := Aside0.mk (below_drew1 HB.out)
              clear HO_4
              clear BK212
              clear HB
              have HO_4 := n0_
              have BK212 := n1_
              have HB := n2_
              clear n0_ n1_ n2_
              obtain ⟨Ao31, co31, eo31⟩ := Kd.R_slice HO_4.out
              (first | subst eo31 | (injection eo31 with f1_ f2_ f3_; have f4_ := f1_.symm; have f5_ := f3_.symm; clear f1_ f2_ f3_; subst f4_; subst f5_))
              have p214 : 0 ≤ ((ji16) : Int) := of_decide_eq_true (by first | (with_reducible assumption) | assumption)
              have q214 : (ji16) < (x4_1.length : Int) := of_decide_eq_true (by first | (with_reducible assumption) | assumption)
              obtain ⟨ad214, e214, hx214_0⟩ := Kd.at_int (Kd.R_reads' HO_4.out).2.2 (ji16) p214 q214
              cases e214
              replace p214 := eq_true p214
              replace q214 := eq_true q214
              have p22 : 0 ≤ ((ji16) : Int) := of_decide_eq_true (by first | (with_reducible assumption) | assumption)
              have q22 : ((ji16) : Int) < ((x4_1.length : Int) : Int) := of_decide_eq_true (by first | (with_reducible assumption) | assumption)
              obtain ⟨go22, co22, eo22, gb22, gl22, cl22, HG22⟩ := Kd.R_form HO_4.out (by omega)
              (first | cases eo22 | (injection eo22 with ea_ en_ ec_; (first | subst ea_ | (injection ea_ with ea_; subst ea_)); subst ec_; clear en_))
              have GB22 := Aside0.mk gb22
              have GG22 := Aside0.mk HG22
              clear gb22 gl22 HG22
              (first | simp only [add_plain] at hx214_0 | skip)
              obtain ⟨hx22_0, hf22_0⟩ := Kd.R_celln 0 HO_4.out ((ji16) : Int) p22 q22
              replace p22 := eq_true p22
              replace q22 := eq_true q22
              have HP32 := Kd.R_putn HO_4.out ((ji16) : Int) (((rd x4_1 (ji16)) + (ji21)) % 256)
              rw [← Ny215.out] at HP32
              have HQ32 := Aside0.mk HP32
              clear HP32
              refine start_ (n := 20) (S := fun w' => w'.cell? ⟨gb212, 0, none⟩ = some (.int .i64 ((rd_T25 l0 x5_1).f0)) ∧ w'.cell? ⟨gb212, 1, none⟩ = some (.int .i64 ((rd_T25 l0 x5_1).f1)) ∧ w'.cell? ⟨gb212, 2, none⟩ = some (.string ((rd_T25 l0 x5_1).f2)) ∧ w'.cell? ⟨go22, ((ji16)).toNat, none⟩ = some (.int .u8 (rd x4_1 (ji16)))) (ds := [19]) #[false, false, false, false, false, false, false, false, false, false, false, false, false, false, false, false, false, false, false, false] (by kernel_rfl) rfl rfl ⟨(blk_cell BK212.out 0).trans rfl, (blk_cell BK212.out 1).trans rfl, (blk_cell BK212.out 2).trans rfl, hx214_0⟩ (fun hHeld => ?_); refine with_tabW unisonref03_Encode.tab12 unisonref03_Encode.bits12 (fun HT_ HW_ => ?_)
              generalize w29.drew = w30 at HO_4 BK212 HB GG22 HQ32 hf22_0 hx214_0 hx22_0 hHeld ⊢
              refine pure_ (i := 0) (N := some 36) (v := ?_) (a' := ?_) #[true, false, false, false, false, false, false, false, false, false, false, false, false, false, false, false, false, false, false, false] rfl rfl (any_of HT_.out (by kernel_rfl)) (fun _ _ _ h => h) (Or.inl ⟨by rfl, ?_⟩) ?_ ?_
              rotate_left; focus (intro w'; go_simp; with_reducible rfl; done)
              rotate_left; focus (simp only [Act.put, List.setIfInBounds_toArray, List.set_cons_zero, List.set_cons_succ, i64_w, i32_w, u8_w, u32_w]; rfl; done)
              refine pure_ (i := 1) (N := some 37) (v := ?_) (a' := ?_) #[true, true, false, false, false, false, false, false, false, false, false, false, false, false, false, false, false, false, false, false] rfl rfl (any_of HT_.out (by kernel_rfl)) (fun _ _ _ h => h) (Or.inl ⟨by rfl, ?_⟩) ?_ ?_
              rotate_left; focus (intro w'; go_simp; with_reducible rfl; done)
              rotate_left; focus (simp only [Act.put, List.setIfInBounds_toArray, List.set_cons_zero, List.set_cons_succ, i64_w, i32_w, u8_w, u32_w]; rfl; done)
              refine pure_ (i := 2) (N := some 38) (v := ?_) (a' := ?_) #[true, true, true, false, false, false, false, false, false, false, false, false, false, false, false, false, false, false, false, false] rfl rfl (any_of HT_.out (by kernel_rfl)) (fun _ _ _ h => h) (Or.inl ⟨by rfl, ?_⟩) ?_ ?_
              rotate_left; focus (intro w'; go_simp; with_reducible rfl; done)
              rotate_left; focus (simp only [Act.put, List.setIfInBounds_toArray, List.set_cons_zero, List.set_cons_succ, i64_w, i32_w, u8_w, u32_w]; rfl; done)
              refine pure_ (i := 3) (N := some 39) (v := ?_) (a' := ?_) #[true, true, true, true, false, false, false, false, false, false, false, false, false, false, false, false, false, false, false, false] rfl rfl (any_of HT_.out (by kernel_rfl)) (fun _ _ _ h => h) (Or.inl ⟨by rfl, ?_⟩) ?_ ?_
              rotate_left; focus (intro w'; go_simp; with_reducible rfl; done)
              rotate_left; focus (simp only [Act.put, List.setIfInBounds_toArray, List.set_cons_zero, List.set_cons_succ, i64_w, i32_w, u8_w, u32_w]; rfl; done)
              refine pure_ (i := 4) (N := some 40) (v := ?_) (a' := ?_) #[true, true, true, true, true, false, false, false, false, false, false, false, false, false, false, false, false, false, false, false] rfl rfl (any_of HT_.out (by kernel_rfl)) (fun _ _ _ h => h) (Or.inl ⟨by rfl, ?_⟩) ?_ ?_
              rotate_left; focus (intro w'; go_simp; with_reducible rfl; done)
              rotate_left; focus (simp only [Act.put, List.setIfInBounds_toArray, List.set_cons_zero, List.set_cons_succ, i64_w, i32_w, u8_w, u32_w]; rfl; done)
              refine pure_ (i := 5) (N := some 41) (v := ?_) (a' := ?_) #[true, true, true, true, true, true, false, false, false, false, false, false, false, false, false, false, false, false, false, false] rfl rfl (any_of HT_.out (by kernel_rfl)) (fun _ _ _ h => h) (Or.inl ⟨by rfl, ?_⟩) ?_ ?_
              rotate_left; focus (intro w'; go_simp; with_reducible rfl; done)
              rotate_left; focus (simp only [Act.put, List.setIfInBounds_toArray, List.set_cons_zero, List.set_cons_succ, i64_w, i32_w, u8_w, u32_w]; rfl; done)
              refine pure_ (i := 6) (N := some 42) (v := ?_) (a' := ?_) #[true, true, true, true, true, true, true, false, false, false, false, false, false, false, false, false, false, false, false, false] rfl rfl (any_of HT_.out (by kernel_rfl)) (fun _ _ _ h => h) (Or.inl ⟨by rfl, ?_⟩) ?_ ?_
              rotate_left; focus (intro w'; go_simp; with_reducible rfl; done)
              rotate_left; focus (simp only [Act.put, List.setIfInBounds_toArray, List.set_cons_zero, List.set_cons_succ, i64_w, i32_w, u8_w, u32_w]; rfl; done)
              refine pure_ (i := 7) (N := some 43) (v := ?_) (a' := ?_) #[true, true, true, true, true, true, true, true, false, false, false, false, false, false, false, false, false, false, false, false] rfl rfl (any_of HT_.out (by kernel_rfl)) (fun _ _ _ h => h) (Or.inl ⟨by rfl, ?_⟩) ?_ ?_
              rotate_left; focus (intro w'; go_simp; with_reducible rfl; done)
              rotate_left; focus (simp only [Act.put, List.setIfInBounds_toArray, List.set_cons_zero, List.set_cons_succ, i64_w, i32_w, u8_w, u32_w]; rfl; done)
              refine pure_ (i := 8) (N := some 44) (v := ?_) (a' := ?_) #[true, true, true, true, true, true, true, true, true, false, false, false, false, false, false, false, false, false, false, false] rfl rfl (any_of HT_.out (by kernel_rfl)) (fun _ _ _ h => h) (Or.inl ⟨by rfl, ?_⟩) ?_ ?_
              rotate_left; focus (intro w'; go_simp; with_reducible rfl; done)
              rotate_left; focus (simp only [Act.put, List.setIfInBounds_toArray, List.set_cons_zero, List.set_cons_succ, i64_w, i32_w, u8_w, u32_w]; rfl; done)
              refine pure_ (i := 10) (N := some 46) (v := ?_) (a' := ?_) #[true, true, true, true, true, true, true, true, true, false, true, false, false, false, false, false, false, false, false, false] rfl rfl (any_of HT_.out (by kernel_rfl)) (fun _ _ _ h => h) (Or.inl ⟨by rfl, ?_⟩) ?_ ?_
              rotate_left; focus (intro w'; go_simp; with_reducible rfl; done)
              rotate_left; focus (simp only [Act.put, List.setIfInBounds_toArray, List.set_cons_zero, List.set_cons_succ, i64_w, i32_w, u8_w, u32_w]; rfl; done)
              refine pure_ (i := 13) (N := some 49) (v := ?_) (a' := ?_) #[true, true, true, true, true, true, true, true, true, false, true, false, false, true, false, false, false, false, false, false] rfl rfl (any_of HT_.out (by kernel_rfl)) (fun _ _ _ h => h) (Or.inl ⟨by rfl, ?_⟩) ?_ ?_
              rotate_left; focus (intro w'; go_simp; with_reducible rfl; done)
              rotate_left; focus (simp only [Act.put, List.setIfInBounds_toArray, List.set_cons_zero, List.set_cons_succ, i64_w, i32_w, u8_w, u32_w]; rfl; done)
              refine pure_ (i := 14) (N := some 50) (v := ?_) (a' := ?_) #[true, true, true, true, true, true, true, true, true, false, true, false, false, true, true, false, false, false, false, false] rfl rfl (any_of HT_.out (by kernel_rfl)) (fun _ _ _ h => h) (Or.inl ⟨by rfl, ?_⟩) ?_ ?_
              rotate_left; focus (intro w'; go_simp; with_reducible rfl; done)
              rotate_left; focus (simp only [Act.put, List.setIfInBounds_toArray, List.set_cons_zero, List.set_cons_succ, i64_w, i32_w, u8_w, u32_w]; rfl; done)
              refine pure_ (i := 15) (N := some 51) (v := ?_) (a' := ?_) #[true, true, true, true, true, true, true, true, true, false, true, false, false, true, true, true, false, false, false, false] rfl rfl (any_of HT_.out (by kernel_rfl)) (fun _ _ _ h => h) (Or.inl ⟨by rfl, ?_⟩) ?_ ?_
              rotate_left; focus (intro w'; go_simp; with_reducible rfl; done)
              rotate_left; focus (simp only [Act.put, List.setIfInBounds_toArray, List.set_cons_zero, List.set_cons_succ, i64_w, i32_w, u8_w, u32_w]; rfl; done)
              refine take_ (i := 9) (N := some 45) (v := ?_) (a' := ?_) #[true, true, true, true, true, true, true, true, true, true, true, false, false, true, true, true, false, false, false, false] rfl rfl (take_ofW HT_.out HW_.out (by kernel_rfl)) (fun _ _ _ h => h) (Or.inl ⟨by rfl, ?_⟩) hHeld ?_ ?_
              rotate_left; focus (rintro w' ⟨s0, s1, s2, s3⟩; go_simp; with_reducible rfl; done)
              rotate_left; focus (simp only [Act.put, List.setIfInBounds_toArray, List.set_cons_zero, List.set_cons_succ, i64_w, i32_w, u8_w, u32_w]; rfl; done)
              refine take_ (i := 11) (N := some 47) (v := ?_) (a' := ?_) #[true, true, true, true, true, true, true, true, true, true, true, true, false, true, true, true, false, false, false, false] rfl rfl (take_ofW HT_.out HW_.out (by kernel_rfl)) (fun _ _ _ h => h) (Or.inl ⟨by rfl, ?_⟩) hHeld ?_ ?_
              rotate_left; focus (rintro w' ⟨s0, s1, s2, s3⟩; go_simp; with_reducible rfl; done)
              rotate_left; focus (simp only [Act.put, List.setIfInBounds_toArray, List.set_cons_zero, List.set_cons_succ, i64_w, i32_w, u8_w, u32_w]; rfl; done)
              refine pure_ (i := 12) (N := some 48) (v := ?_) (a' := ?_) #[true, true, true, true, true, true, true, true, true, true, true, true, true, true, true, true, false, false, false, false] rfl rfl (any_of HT_.out (by kernel_rfl)) (fun _ _ _ h => h) (Or.inl ⟨by rfl, ?_⟩) ?_ ?_
              rotate_left; focus (intro w'; go_simp; with_reducible rfl; done)
              rotate_left; focus (simp only [Act.put, List.setIfInBounds_toArray, List.set_cons_zero, List.set_cons_succ, i64_w, i32_w, u8_w, u32_w]; rfl; done)
              refine pure_ (i := 16) (N := some 52) (v := ?_) (a' := ?_) #[true, true, true, true, true, true, true, true, true, true, true, true, true, true, true, true, true, false, false, false] rfl rfl (any_of HT_.out (by kernel_rfl)) (fun _ _ _ h => h) (Or.inl ⟨by rfl, ?_⟩) ?_ ?_
              rotate_left; focus (intro w'; go_simp; with_reducible rfl; done)
              rotate_left; focus (simp only [Act.put, List.setIfInBounds_toArray, List.set_cons_zero, List.set_cons_succ, i64_w, i32_w, u8_w, u32_w]; rfl; done)
              refine pure_ (i := 17) (N := some 53) (v := ?_) (a' := ?_) #[true, true, true, true, true, true, true, true, true, true, true, true, true, true, true, true, true, true, false, false] rfl rfl (any_of HT_.out (by kernel_rfl)) (fun _ _ _ h => h) (Or.inl ⟨by rfl, ?_⟩) ?_ ?_
              rotate_left; focus (intro w'; go_simp; with_reducible rfl; done)
              rotate_left; focus (simp only [Act.put, List.setIfInBounds_toArray, List.set_cons_zero, List.set_cons_succ, i64_w, i32_w, u8_w, u32_w]; rfl; done)
              refine pure_ (i := 18) (N := some 54) (v := ?_) (a' := ?_) #[true, true, true, true, true, true, true, true, true, true, true, true, true, true, true, true, true, true, true, false] rfl rfl (any_of HT_.out (by kernel_rfl)) (fun _ _ _ h => h) (Or.inl ⟨by rfl, ?_⟩) ?_ ?_
              rotate_left; focus (intro w'; go_simp; with_reducible rfl; done)
              rotate_left; focus (simp only [Act.put, List.setIfInBounds_toArray, List.set_cons_zero, List.set_cons_succ, i64_w, i32_w, u8_w, u32_w]; rfl; done)
              refine last_ (i := 19) (N := none) #[true, true, true, true, true, true, true, true, true, true, true, true, true, true, true, true, true, true, true, true] rfl rfl (one_of HT_.out (by kernel_rfl)) (by decide) (fun K hK => ?_)
              refine skip_ (w1 := ?_) (by rfl) rfl ?_ ?_
              rotate_left; focus (go_simp; rfl; done)
              refine hK.out _ _ ?_
              clear hK K
              refine done_ (done_of HT_.out (by kernel_rfl)) ?_
              have n0_ : Aside0 (Kd.R (Kd.int .u8) 5 (w30.setCell ⟨go22, ((ji16) : Int).toNat, none⟩ (.int .u8 (((rd x4_1 (ji16)) + (ji21)) % 256))) w.heap.size (fun _ => True) (.slice (some ⟨go22, 0, none⟩) x4_1.length co31) y215) := ⟨by (with_reducible repeat (first | apply Kd.R_alloc | apply Kd.R_drewN | apply Kd.R_drew)); exact HQ32.out⟩
              have n1_ : Aside0 ((w30.setCell ⟨go22, ((ji16) : Int).toNat, none⟩ (.int .u8 (((rd x4_1 (ji16)) + (ji21)) % 256))).heap[gb212]? = some (.cells #[.int .i64 ((rd_T25 l0 x5_1).f0), .int .i64 ((rd_T25 l0 x5_1).f1), .string ((rd_T25 l0 x5_1).f2)] 25 (0, 0))) := ⟨by (with_reducible repeat (first | refine blk_drewN ?_ _ | refine blk_drew ?_ | refine blk_alloc ?_ _)); refine blk_far ?_ (by have h_ := Kd.R_ne HO_4.out BK212.out (by decide); intro e_; exact h_ (by rw [e_]; rfl)) _; (with_reducible repeat (first | refine blk_drewN ?_ _ | refine blk_drew ?_ | refine blk_alloc ?_ _)); exact BK212.out⟩
              have n2_ : Aside0 (Below w.heap.size w (w30.setCell ⟨go22, ((ji16) : Int).toNat, none⟩ (.int .u8 (((rd x4_1 (ji16)) + (ji21)) % 256)))) := ⟨by repeat (first | (with_reducible first | exact HB.out | apply below_alloc | apply pw_below_drewN | apply below_drew1 | refine below_set ?_ GB22.out | refine below_set ?_ GE212.out) | exact HB.out)⟩
              (try clear HO_4)
              (try clear BK212)
              (try clear HB)
              generalize (w30.setCell ⟨go22, ((ji16) : Int).toNat, none⟩ (.int .u8 (((rd x4_1 (ji16)) + (ji21)) % 256))) = w33 at n0_ n1_ n2_ ⊢
              have HO_4 := n0_
              have BK212 := n1_
              have HB := n2_
              clear n0_ n1_ n2_
              have hcz34_0 : w33.cell? ⟨gb212, 0, none⟩ = some (.int .i64 ((rd_T25 l0 x5_1).f0)) := (blk_cell BK212.out 0).trans rfl
              have hcz34_1 : w33.cell? ⟨gb212, 1, none⟩ = some (.int .i64 ((rd_T25 l0 x5_1).f1)) := (blk_cell BK212.out 1).trans rfl
              have hcz34_2 : w33.cell? ⟨gb212, 2, none⟩ = some (.string ((rd_T25 l0 x5_1).f2)) := (blk_cell BK212.out 2).trans rfl
              have hfz34_0 := blk_frozen BK212.out 0
              have hfz34_1 := blk_frozen BK212.out 1
              have hfz34_2 := blk_frozen BK212.out 2
              try go_wp2_with (first | ((with_reducible refine gate_callee (f := 18) rfl ?_); refine goesL_ (some 62) rfl rfl Try.func18 (by kernel_rfl) rfl #[.slice (some ⟨go22, 0, none⟩) x4_1.length co31, .int .i64 ((rd_T25 l0 x5_1).f1)] rfl (by (try simp only [List.map_toArray, List.map_cons, List.map_nil]); first | done | rfl | (simp only [List.length_drop, List.length_take]; rfl)) ?_; (with_reducible refine (unisonref03_Number.calls k1 (fun k_ => some k_ = (.slice (some ⟨go22, 0, none⟩) x4_1.length co31 : Value).ownBlock) (.slice (some ⟨go22, 0, none⟩) x4_1.length co31) y215 ((rd_T25 l0 x5_1).f1) t216 w _ ?side1 ?side2 A24.out).mono ?_); (case side1 => repeat (first | (with_reducible first | exact HB.out | apply below_alloc | apply pw_below_drewN | apply below_drew1 | refine below_set ?_ GE212.out) | exact HB.out)); (case side2 => exact Kd.R_tight rfl HO_4.out); rintro e w35 ⟨v217, rfl, ho0, hb, hkp⟩; refine ⟨_, rfl, ?_⟩; have n0_ := Aside0.mk (blk_kept (by (with_reducible repeat (first | refine blk_drewN ?_ _ | refine blk_drew ?_ | refine blk_alloc ?_ _)); exact BK212.out) hkp (fun hs_ => (fun e_ => (Kd.R_ne HO_4.out BK212.out (by decide)) e_) hs_)); have n1_ := Aside0.mk (Kd.R_mono (ok' := fun k_ => True) ho0 (fun k_ hk_ => trivial)); have n2_ := Aside0.mk (hb); clear BK212; clear HB; clear HO_4; have BK212 := n0_; have HO218 := n1_; have HB := n2_; clear n0_ n1_ n2_; (try clear hb); (try clear hkp); (try clear ho0)))
              go_roundg k1
              case measure => have := HK1.out; omega
              case rel => exact ⟨(t216), (wrap64 (x5_1 + 1)), (by first | rfl | (simp; done) | (simp [*]; done)), H', ⟨by have := HK1.out; omega⟩, ⟨by (with_reducible repeat (first | apply Kd.R_alloc | apply Kd.R_drewN | apply Kd.R_drew)); exact HO218.out⟩, ⟨by repeat (first | (with_reducible first | exact HB.out | apply below_alloc | apply pw_below_drewN | apply below_drew1 | refine below_set ?_ GE212.out) | exact HB.out)⟩⟩
             ·
              rw [if_neg c23] at H
              have c23b0 : (((rd_T25 l0 x5_1).f0) == 1) = false := beq_eq_false_iff_ne.mpr c23
              have c23b1 : (((rd_T25 l0 x5_1).f0) != 1) = true := bne_iff_ne.mpr c23
              by_cases c36 : ((rd_T25 l0 x5_1).f0) = 2
              ·
               rw [if_pos c36] at H
               have c36b0 : (((rd_T25 l0 x5_1).f0) == 2) = true := beq_iff_eq.mpr c36
               have c36b1 : (((rd_T25 l0 x5_1).f0) != 2) = false := bne_eq_false_iff_eq.mpr c36
               clear c36
               by_cases c37 : y215.length < 140737488355328
               ·
                rw [if_pos c37] at H
                have LMc37 := Aside0.mk c37
                clear c37
                obtain ⟨y219, hy219⟩ : ∃ y_ : List Int, y_ = (y215 ++ [((rd_T25 l0 x5_1).f1) % 256]) := ⟨_, rfl⟩
                replace H : (unisonref03_Encode.l0 k1 l0 y219 (wrap64 (x5_1 + 1))) = some (r1, r2) := by first | (rw [hy219]; with_reducible exact H) | (have H2_ := (Option.bind_some _ _).symm.trans H; rw [hy219]; with_reducible exact H2_) | (have H2_ := (Option.bind_some _ _).symm.trans H; with_reducible exact H2_) | with_reducible exact H | (rw [hy219]; exact H) | exact H
                have Ny219 := Aside0.mk hy219
                clear hy219
                have H' := Aside0.mk H
                clear H
                have p211 : 0 ≤ (x5_1 : Int) := of_decide_eq_true (by first | (with_reducible assumption) | assumption)
                have q211 : x5_1 < (l0.length : Int) := of_decide_eq_true (by first | (with_reducible assumption) | assumption)
                obtain ⟨ad211, e211, hx211_0, hx211_1, hx211_2⟩ := at_T25 HR0.out x5_1 p211 q211
                cases e211
                replace hx211_0 := (HB.out.cell (World.block_lt_of_cell? w _ hx211_0)).trans hx211_0
                replace hx211_1 := (HB.out.cell (World.block_lt_of_cell? w _ hx211_1)).trans hx211_1
                replace hx211_2 := (HB.out.cell (World.block_lt_of_cell? w _ hx211_2)).trans hx211_2
                replace p211 := eq_true p211
                replace q211 := eq_true q211
                try go_wp2_with (first | ((with_reducible refine gate_dst (N := 6) rfl ?_); refine box_event ?hg (N := 6) ?hd (cs := #[.int .i64 0, .int .i64 0, .string (⟨#[]⟩ : ByteArray)]) (t := 25) ?hr ?_; (case hd => rfl); (case hg => rfl); (case hr => first | (go_simp; done) | (go_simp; rfl)); intro gb212 hg w38 hbox hb; have n0_ := Aside0.mk (Kd.R_below (by (with_reducible repeat (first | apply Kd.R_alloc | apply Kd.R_drewN | apply Kd.R_drew)); exact HO_4.out) hb); have n1_ := Aside0.mk (below_step (by repeat (first | (with_reducible first | exact HB.out | apply below_alloc | apply pw_below_drewN | apply below_drew1) | exact HB.out)) hb); have n2_ := Aside0.mk (hbox); have n3_ := Aside0.mk ((by rw [hg]; exact (below_size (by repeat (first | (with_reducible first | exact HB.out | apply below_alloc | apply pw_below_drewN | apply below_drew1) | exact HB.out))) : w.heap.size ≤ gb212)); have n4_ := Aside0.mk ((by rw [hg]; exact (below_size (by repeat (first | (with_reducible first | exact HB.out | apply below_alloc | apply pw_below_drewN | apply below_drew1) | exact HB.out))) : w.heap.size ≤ gb212)); clear HO_4; clear HB; have HO_4 := n0_; have HB := n1_; have BK212 := n2_; have GW212 := n3_; have GE212 := n4_; clear n0_ n1_ n2_ n3_ n4_; clear hb hbox hg; have hcz39_0 : w38.cell? ⟨gb212, 0, none⟩ = some (.int .i64 0) := (blk_cell BK212.out 0).trans rfl; have hcz39_1 : w38.cell? ⟨gb212, 1, none⟩ = some (.int .i64 0) := (blk_cell BK212.out 1).trans rfl; have hcz39_2 : w38.cell? ⟨gb212, 2, none⟩ = some (.string (⟨#[]⟩ : ByteArray)) := (blk_cell BK212.out 2).trans rfl; have hfz39_0 := blk_frozen BK212.out 0; have hfz39_1 := blk_frozen BK212.out 1; have hfz39_2 := blk_frozen BK212.out 2) | ((with_reducible refine gate_store (t := 25) (p := 6) rfl ?_); refine store_event (t := 25) (p := 6) (v := ?vo_w40) (w1 := (((w38.setCell ⟨gb212, 0, none⟩ (.int .i64 ((rd_T25 l0 x5_1).f0))).setCell ⟨gb212, 1, none⟩ (.int .i64 ((rd_T25 l0 x5_1).f1))).setCell ⟨gb212, 2, none⟩ (.string ((rd_T25 l0 x5_1).f2)))) ?hg ?ho ?hn ?hr ?_; (case ho => rfl); (case hg => rfl); (case hn => rfl); (case hr => first | (go_simp; done) | (go_simp; rfl)); intro w40 hw; have n0_ : Aside0 (Kd.R (Kd.int .u8) 5 w40 w.heap.size (fun _ => True) u4 x4_1) := ⟨(by rw [hw]; exact (by (with_reducible repeat (first | apply Kd.R_alloc | apply Kd.R_drewN | apply Kd.R_drew)); exact Kd.R_mono (Kd.R_far (p := ⟨gb212, 2, none⟩) (Kd.R_far (p := ⟨gb212, 1, none⟩) (Kd.R_far (p := ⟨gb212, 0, none⟩) (Kd.R_types HO_4.out BK212.out (by decide)) (fun _ hk => hk.2) (.int .i64 ((rd_T25 l0 x5_1).f0))) (fun _ hk => hk.2) (.int .i64 ((rd_T25 l0 x5_1).f1))) (fun _ hk => hk.2) (.string ((rd_T25 l0 x5_1).f2))) (fun _ hk => trivial)))⟩; have n1_ : Aside0 (w40.heap[gb212]? = some (.cells #[.int .i64 ((rd_T25 l0 x5_1).f0), .int .i64 ((rd_T25 l0 x5_1).f1), .string ((rd_T25 l0 x5_1).f2)] 25 (0, 0))) := ⟨(by rw [hw]; exact (by (with_reducible repeat (first | refine blk_drewN ?_ _ | refine blk_drew ?_ | refine blk_alloc ?_ _)); refine blk_put (cs := #[.int .i64 ((rd_T25 l0 x5_1).f0), .int .i64 ((rd_T25 l0 x5_1).f1), .string (⟨#[]⟩ : ByteArray)]) ?_ 2 _ rfl; (with_reducible repeat (first | refine blk_drewN ?_ _ | refine blk_drew ?_ | refine blk_alloc ?_ _)); refine blk_put (cs := #[.int .i64 ((rd_T25 l0 x5_1).f0), .int .i64 0, .string (⟨#[]⟩ : ByteArray)]) ?_ 1 _ rfl; (with_reducible repeat (first | refine blk_drewN ?_ _ | refine blk_drew ?_ | refine blk_alloc ?_ _)); refine blk_put (cs := #[.int .i64 0, .int .i64 0, .string (⟨#[]⟩ : ByteArray)]) ?_ 0 _ rfl; (with_reducible repeat (first | refine blk_drewN ?_ _ | refine blk_drew ?_ | refine blk_alloc ?_ _)); exact BK212.out))⟩; have n2_ : Aside0 (Below w.heap.size w w40) := ⟨(by rw [hw]; exact (by repeat (first | (with_reducible first | exact HB.out | apply below_alloc | apply pw_below_drewN | apply below_drew1 | refine below_set ?_ GE212.out) | exact HB.out)))⟩; clear hw; clear HO_4; clear BK212; clear HB; have HO_4 := n0_; have BK212 := n1_; have HB := n2_; clear n0_ n1_ n2_; have hcz41_0 : w40.cell? ⟨gb212, 0, none⟩ = some (.int .i64 ((rd_T25 l0 x5_1).f0)) := (blk_cell BK212.out 0).trans rfl; have hcz41_1 : w40.cell? ⟨gb212, 1, none⟩ = some (.int .i64 ((rd_T25 l0 x5_1).f1)) := (blk_cell BK212.out 1).trans rfl; have hcz41_2 : w40.cell? ⟨gb212, 2, none⟩ = some (.string ((rd_T25 l0 x5_1).f2)) := (blk_cell BK212.out 2).trans rfl; have hfz41_0 := blk_frozen BK212.out 0; have hfz41_1 := blk_frozen BK212.out 1; have hfz41_2 := blk_frozen BK212.out 2) | ((with_reducible refine gate_callee (f := 17) rfl ?_); refine goesL_ (some 33) rfl rfl Try.func17 (by kernel_rfl) rfl #[.agg #[.int .i64 ((rd_T25 l0 x5_1).f0), .int .i64 ((rd_T25 l0 x5_1).f1), .string ((rd_T25 l0 x5_1).f2)]] rfl (by (try simp only [List.map_toArray, List.map_cons, List.map_nil]); first | done | rfl | (simp only [List.length_drop, List.length_take]; rfl)) ?_; (with_reducible refine (unisonref01_Right.calls ((rd_T25 l0 x5_1).f0) ((rd_T25 l0 x5_1).f1) ((rd_T25 l0 x5_1).f2) true _ A14.out).mono ?_); rintro e w42 ⟨rfl, hb⟩; refine ⟨_, rfl, ?_⟩; have n0_ := Aside0.mk (Kd.R_below (by (with_reducible repeat (first | apply Kd.R_alloc | apply Kd.R_drewN | apply Kd.R_drew)); exact HO_4.out) hb); have n1_ := Aside0.mk (blk_below (g := gb212) (o := .cells #[.int .i64 ((rd_T25 l0 x5_1).f0), .int .i64 ((rd_T25 l0 x5_1).f1), .string ((rd_T25 l0 x5_1).f2)] 25 (0, 0)) (by (with_reducible repeat (first | refine blk_drewN ?_ _ | refine blk_drew ?_ | refine blk_alloc ?_ _)); exact BK212.out) hb); have n2_ := Aside0.mk (below_step (by repeat (first | (with_reducible first | exact HB.out | apply below_alloc | apply pw_below_drewN | apply below_drew1 | refine below_set ?_ GE212.out) | exact HB.out)) hb); clear HO_4; clear BK212; clear HB; have HO_4 := n0_; have BK212 := n1_; have HB := n2_; clear n0_ n1_ n2_; (try clear hb); (try clear hb2); (try clear hk); (try clear hi)))
                have n0_ := Aside0.mk (Kd.R_drew HO_4.out)
                have n1_ := Aside0.mk (blk_drew BK212.out)
                have n2_ := Aside0.mk (below_drew1 HB.out)
                clear HO_4
                clear BK212
                clear HB
                have HO_4 := n0_
                have BK212 := n1_
                have HB := n2_
                clear n0_ n1_ n2_
                obtain ⟨Ao44, co44, eo44⟩ := Kd.R_slice HO_4.out
                (first | subst eo44 | (injection eo44 with f1_ f2_ f3_; have f4_ := f1_.symm; have f5_ := f3_.symm; clear f1_ f2_ f3_; subst f4_; subst f5_))
                have p214 : 0 ≤ ((ji16) : Int) := of_decide_eq_true (by first | (with_reducible assumption) | assumption)
                have q214 : (ji16) < (x4_1.length : Int) := of_decide_eq_true (by first | (with_reducible assumption) | assumption)
                obtain ⟨ad214, e214, hx214_0⟩ := Kd.at_int (Kd.R_reads' HO_4.out).2.2 (ji16) p214 q214
                cases e214
                replace p214 := eq_true p214
                replace q214 := eq_true q214
                have p22 : 0 ≤ ((ji16) : Int) := of_decide_eq_true (by first | (with_reducible assumption) | assumption)
                have q22 : ((ji16) : Int) < ((x4_1.length : Int) : Int) := of_decide_eq_true (by first | (with_reducible assumption) | assumption)
                obtain ⟨go22, co22, eo22, gb22, gl22, cl22, HG22⟩ := Kd.R_form HO_4.out (by omega)
                (first | cases eo22 | (injection eo22 with ea_ en_ ec_; (first | subst ea_ | (injection ea_ with ea_; subst ea_)); subst ec_; clear en_))
                have GB22 := Aside0.mk gb22
                have GG22 := Aside0.mk HG22
                clear gb22 gl22 HG22
                (first | simp only [add_plain] at hx214_0 | skip)
                obtain ⟨hx22_0, hf22_0⟩ := Kd.R_celln 0 HO_4.out ((ji16) : Int) p22 q22
                replace p22 := eq_true p22
                replace q22 := eq_true q22
                have HP45 := Kd.R_putn HO_4.out ((ji16) : Int) (((rd x4_1 (ji16)) + (ji21)) % 256)
                rw [← Ny215.out] at HP45
                have HQ45 := Aside0.mk HP45
                clear HP45
                refine start_ (n := 20) (S := fun w' => w'.cell? ⟨gb212, 0, none⟩ = some (.int .i64 ((rd_T25 l0 x5_1).f0)) ∧ w'.cell? ⟨gb212, 1, none⟩ = some (.int .i64 ((rd_T25 l0 x5_1).f1)) ∧ w'.cell? ⟨gb212, 2, none⟩ = some (.string ((rd_T25 l0 x5_1).f2)) ∧ w'.cell? ⟨go22, ((ji16)).toNat, none⟩ = some (.int .u8 (rd x4_1 (ji16)))) (ds := [19]) #[false, false, false, false, false, false, false, false, false, false, false, false, false, false, false, false, false, false, false, false] (by kernel_rfl) rfl rfl ⟨(blk_cell BK212.out 0).trans rfl, (blk_cell BK212.out 1).trans rfl, (blk_cell BK212.out 2).trans rfl, hx214_0⟩ (fun hHeld => ?_); refine with_tabW unisonref03_Encode.tab12 unisonref03_Encode.bits12 (fun HT_ HW_ => ?_)
                generalize w42.drew = w43 at HO_4 BK212 HB GG22 HQ45 hf22_0 hx214_0 hx22_0 hHeld ⊢
                refine pure_ (i := 0) (N := some 36) (v := ?_) (a' := ?_) #[true, false, false, false, false, false, false, false, false, false, false, false, false, false, false, false, false, false, false, false] rfl rfl (any_of HT_.out (by kernel_rfl)) (fun _ _ _ h => h) (Or.inl ⟨by rfl, ?_⟩) ?_ ?_
                rotate_left; focus (intro w'; go_simp; with_reducible rfl; done)
                rotate_left; focus (simp only [Act.put, List.setIfInBounds_toArray, List.set_cons_zero, List.set_cons_succ, i64_w, i32_w, u8_w, u32_w]; rfl; done)
                refine pure_ (i := 1) (N := some 37) (v := ?_) (a' := ?_) #[true, true, false, false, false, false, false, false, false, false, false, false, false, false, false, false, false, false, false, false] rfl rfl (any_of HT_.out (by kernel_rfl)) (fun _ _ _ h => h) (Or.inl ⟨by rfl, ?_⟩) ?_ ?_
                rotate_left; focus (intro w'; go_simp; with_reducible rfl; done)
                rotate_left; focus (simp only [Act.put, List.setIfInBounds_toArray, List.set_cons_zero, List.set_cons_succ, i64_w, i32_w, u8_w, u32_w]; rfl; done)
                refine pure_ (i := 2) (N := some 38) (v := ?_) (a' := ?_) #[true, true, true, false, false, false, false, false, false, false, false, false, false, false, false, false, false, false, false, false] rfl rfl (any_of HT_.out (by kernel_rfl)) (fun _ _ _ h => h) (Or.inl ⟨by rfl, ?_⟩) ?_ ?_
                rotate_left; focus (intro w'; go_simp; with_reducible rfl; done)
                rotate_left; focus (simp only [Act.put, List.setIfInBounds_toArray, List.set_cons_zero, List.set_cons_succ, i64_w, i32_w, u8_w, u32_w]; rfl; done)
                refine pure_ (i := 3) (N := some 39) (v := ?_) (a' := ?_) #[true, true, true, true, false, false, false, false, false, false, false, false, false, false, false, false, false, false, false, false] rfl rfl (any_of HT_.out (by kernel_rfl)) (fun _ _ _ h => h) (Or.inl ⟨by rfl, ?_⟩) ?_ ?_
                rotate_left; focus (intro w'; go_simp; with_reducible rfl; done)
                rotate_left; focus (simp only [Act.put, List.setIfInBounds_toArray, List.set_cons_zero, List.set_cons_succ, i64_w, i32_w, u8_w, u32_w]; rfl; done)
                refine pure_ (i := 4) (N := some 40) (v := ?_) (a' := ?_) #[true, true, true, true, true, false, false, false, false, false, false, false, false, false, false, false, false, false, false, false] rfl rfl (any_of HT_.out (by kernel_rfl)) (fun _ _ _ h => h) (Or.inl ⟨by rfl, ?_⟩) ?_ ?_
                rotate_left; focus (intro w'; go_simp; with_reducible rfl; done)
                rotate_left; focus (simp only [Act.put, List.setIfInBounds_toArray, List.set_cons_zero, List.set_cons_succ, i64_w, i32_w, u8_w, u32_w]; rfl; done)
                refine pure_ (i := 5) (N := some 41) (v := ?_) (a' := ?_) #[true, true, true, true, true, true, false, false, false, false, false, false, false, false, false, false, false, false, false, false] rfl rfl (any_of HT_.out (by kernel_rfl)) (fun _ _ _ h => h) (Or.inl ⟨by rfl, ?_⟩) ?_ ?_
                rotate_left; focus (intro w'; go_simp; with_reducible rfl; done)
                rotate_left; focus (simp only [Act.put, List.setIfInBounds_toArray, List.set_cons_zero, List.set_cons_succ, i64_w, i32_w, u8_w, u32_w]; rfl; done)
                refine pure_ (i := 6) (N := some 42) (v := ?_) (a' := ?_) #[true, true, true, true, true, true, true, false, false, false, false, false, false, false, false, false, false, false, false, false] rfl rfl (any_of HT_.out (by kernel_rfl)) (fun _ _ _ h => h) (Or.inl ⟨by rfl, ?_⟩) ?_ ?_
                rotate_left; focus (intro w'; go_simp; with_reducible rfl; done)
                rotate_left; focus (simp only [Act.put, List.setIfInBounds_toArray, List.set_cons_zero, List.set_cons_succ, i64_w, i32_w, u8_w, u32_w]; rfl; done)
                refine pure_ (i := 7) (N := some 43) (v := ?_) (a' := ?_) #[true, true, true, true, true, true, true, true, false, false, false, false, false, false, false, false, false, false, false, false] rfl rfl (any_of HT_.out (by kernel_rfl)) (fun _ _ _ h => h) (Or.inl ⟨by rfl, ?_⟩) ?_ ?_
                rotate_left; focus (intro w'; go_simp; with_reducible rfl; done)
                rotate_left; focus (simp only [Act.put, List.setIfInBounds_toArray, List.set_cons_zero, List.set_cons_succ, i64_w, i32_w, u8_w, u32_w]; rfl; done)
                refine pure_ (i := 8) (N := some 44) (v := ?_) (a' := ?_) #[true, true, true, true, true, true, true, true, true, false, false, false, false, false, false, false, false, false, false, false] rfl rfl (any_of HT_.out (by kernel_rfl)) (fun _ _ _ h => h) (Or.inl ⟨by rfl, ?_⟩) ?_ ?_
                rotate_left; focus (intro w'; go_simp; with_reducible rfl; done)
                rotate_left; focus (simp only [Act.put, List.setIfInBounds_toArray, List.set_cons_zero, List.set_cons_succ, i64_w, i32_w, u8_w, u32_w]; rfl; done)
                refine pure_ (i := 10) (N := some 46) (v := ?_) (a' := ?_) #[true, true, true, true, true, true, true, true, true, false, true, false, false, false, false, false, false, false, false, false] rfl rfl (any_of HT_.out (by kernel_rfl)) (fun _ _ _ h => h) (Or.inl ⟨by rfl, ?_⟩) ?_ ?_
                rotate_left; focus (intro w'; go_simp; with_reducible rfl; done)
                rotate_left; focus (simp only [Act.put, List.setIfInBounds_toArray, List.set_cons_zero, List.set_cons_succ, i64_w, i32_w, u8_w, u32_w]; rfl; done)
                refine pure_ (i := 13) (N := some 49) (v := ?_) (a' := ?_) #[true, true, true, true, true, true, true, true, true, false, true, false, false, true, false, false, false, false, false, false] rfl rfl (any_of HT_.out (by kernel_rfl)) (fun _ _ _ h => h) (Or.inl ⟨by rfl, ?_⟩) ?_ ?_
                rotate_left; focus (intro w'; go_simp; with_reducible rfl; done)
                rotate_left; focus (simp only [Act.put, List.setIfInBounds_toArray, List.set_cons_zero, List.set_cons_succ, i64_w, i32_w, u8_w, u32_w]; rfl; done)
                refine pure_ (i := 14) (N := some 50) (v := ?_) (a' := ?_) #[true, true, true, true, true, true, true, true, true, false, true, false, false, true, true, false, false, false, false, false] rfl rfl (any_of HT_.out (by kernel_rfl)) (fun _ _ _ h => h) (Or.inl ⟨by rfl, ?_⟩) ?_ ?_
                rotate_left; focus (intro w'; go_simp; with_reducible rfl; done)
                rotate_left; focus (simp only [Act.put, List.setIfInBounds_toArray, List.set_cons_zero, List.set_cons_succ, i64_w, i32_w, u8_w, u32_w]; rfl; done)
                refine pure_ (i := 15) (N := some 51) (v := ?_) (a' := ?_) #[true, true, true, true, true, true, true, true, true, false, true, false, false, true, true, true, false, false, false, false] rfl rfl (any_of HT_.out (by kernel_rfl)) (fun _ _ _ h => h) (Or.inl ⟨by rfl, ?_⟩) ?_ ?_
                rotate_left; focus (intro w'; go_simp; with_reducible rfl; done)
                rotate_left; focus (simp only [Act.put, List.setIfInBounds_toArray, List.set_cons_zero, List.set_cons_succ, i64_w, i32_w, u8_w, u32_w]; rfl; done)
                refine take_ (i := 9) (N := some 45) (v := ?_) (a' := ?_) #[true, true, true, true, true, true, true, true, true, true, true, false, false, true, true, true, false, false, false, false] rfl rfl (take_ofW HT_.out HW_.out (by kernel_rfl)) (fun _ _ _ h => h) (Or.inl ⟨by rfl, ?_⟩) hHeld ?_ ?_
                rotate_left; focus (rintro w' ⟨s0, s1, s2, s3⟩; go_simp; with_reducible rfl; done)
                rotate_left; focus (simp only [Act.put, List.setIfInBounds_toArray, List.set_cons_zero, List.set_cons_succ, i64_w, i32_w, u8_w, u32_w]; rfl; done)
                refine take_ (i := 11) (N := some 47) (v := ?_) (a' := ?_) #[true, true, true, true, true, true, true, true, true, true, true, true, false, true, true, true, false, false, false, false] rfl rfl (take_ofW HT_.out HW_.out (by kernel_rfl)) (fun _ _ _ h => h) (Or.inl ⟨by rfl, ?_⟩) hHeld ?_ ?_
                rotate_left; focus (rintro w' ⟨s0, s1, s2, s3⟩; go_simp; with_reducible rfl; done)
                rotate_left; focus (simp only [Act.put, List.setIfInBounds_toArray, List.set_cons_zero, List.set_cons_succ, i64_w, i32_w, u8_w, u32_w]; rfl; done)
                refine pure_ (i := 12) (N := some 48) (v := ?_) (a' := ?_) #[true, true, true, true, true, true, true, true, true, true, true, true, true, true, true, true, false, false, false, false] rfl rfl (any_of HT_.out (by kernel_rfl)) (fun _ _ _ h => h) (Or.inl ⟨by rfl, ?_⟩) ?_ ?_
                rotate_left; focus (intro w'; go_simp; with_reducible rfl; done)
                rotate_left; focus (simp only [Act.put, List.setIfInBounds_toArray, List.set_cons_zero, List.set_cons_succ, i64_w, i32_w, u8_w, u32_w]; rfl; done)
                refine pure_ (i := 16) (N := some 52) (v := ?_) (a' := ?_) #[true, true, true, true, true, true, true, true, true, true, true, true, true, true, true, true, true, false, false, false] rfl rfl (any_of HT_.out (by kernel_rfl)) (fun _ _ _ h => h) (Or.inl ⟨by rfl, ?_⟩) ?_ ?_
                rotate_left; focus (intro w'; go_simp; with_reducible rfl; done)
                rotate_left; focus (simp only [Act.put, List.setIfInBounds_toArray, List.set_cons_zero, List.set_cons_succ, i64_w, i32_w, u8_w, u32_w]; rfl; done)
                refine pure_ (i := 17) (N := some 53) (v := ?_) (a' := ?_) #[true, true, true, true, true, true, true, true, true, true, true, true, true, true, true, true, true, true, false, false] rfl rfl (any_of HT_.out (by kernel_rfl)) (fun _ _ _ h => h) (Or.inl ⟨by rfl, ?_⟩) ?_ ?_
                rotate_left; focus (intro w'; go_simp; with_reducible rfl; done)
                rotate_left; focus (simp only [Act.put, List.setIfInBounds_toArray, List.set_cons_zero, List.set_cons_succ, i64_w, i32_w, u8_w, u32_w]; rfl; done)
                refine pure_ (i := 18) (N := some 54) (v := ?_) (a' := ?_) #[true, true, true, true, true, true, true, true, true, true, true, true, true, true, true, true, true, true, true, false] rfl rfl (any_of HT_.out (by kernel_rfl)) (fun _ _ _ h => h) (Or.inl ⟨by rfl, ?_⟩) ?_ ?_
                rotate_left; focus (intro w'; go_simp; with_reducible rfl; done)
                rotate_left; focus (simp only [Act.put, List.setIfInBounds_toArray, List.set_cons_zero, List.set_cons_succ, i64_w, i32_w, u8_w, u32_w]; rfl; done)
                refine last_ (i := 19) (N := none) #[true, true, true, true, true, true, true, true, true, true, true, true, true, true, true, true, true, true, true, true] rfl rfl (one_of HT_.out (by kernel_rfl)) (by decide) (fun K hK => ?_)
                refine skip_ (w1 := ?_) (by rfl) rfl ?_ ?_
                rotate_left; focus (go_simp; rfl; done)
                refine hK.out _ _ ?_
                clear hK K
                refine done_ (done_of HT_.out (by kernel_rfl)) ?_
                have n0_ : Aside0 (Kd.R (Kd.int .u8) 5 (w43.setCell ⟨go22, ((ji16) : Int).toNat, none⟩ (.int .u8 (((rd x4_1 (ji16)) + (ji21)) % 256))) w.heap.size (fun _ => True) (.slice (some ⟨go22, 0, none⟩) x4_1.length co44) y215) := ⟨by (with_reducible repeat (first | apply Kd.R_alloc | apply Kd.R_drewN | apply Kd.R_drew)); exact HQ45.out⟩
                have n1_ : Aside0 ((w43.setCell ⟨go22, ((ji16) : Int).toNat, none⟩ (.int .u8 (((rd x4_1 (ji16)) + (ji21)) % 256))).heap[gb212]? = some (.cells #[.int .i64 ((rd_T25 l0 x5_1).f0), .int .i64 ((rd_T25 l0 x5_1).f1), .string ((rd_T25 l0 x5_1).f2)] 25 (0, 0))) := ⟨by (with_reducible repeat (first | refine blk_drewN ?_ _ | refine blk_drew ?_ | refine blk_alloc ?_ _)); refine blk_far ?_ (by have h_ := Kd.R_ne HO_4.out BK212.out (by decide); intro e_; exact h_ (by rw [e_]; rfl)) _; (with_reducible repeat (first | refine blk_drewN ?_ _ | refine blk_drew ?_ | refine blk_alloc ?_ _)); exact BK212.out⟩
                have n2_ : Aside0 (Below w.heap.size w (w43.setCell ⟨go22, ((ji16) : Int).toNat, none⟩ (.int .u8 (((rd x4_1 (ji16)) + (ji21)) % 256)))) := ⟨by repeat (first | (with_reducible first | exact HB.out | apply below_alloc | apply pw_below_drewN | apply below_drew1 | refine below_set ?_ GB22.out | refine below_set ?_ GE212.out) | exact HB.out)⟩
                (try clear HO_4)
                (try clear BK212)
                (try clear HB)
                generalize (w43.setCell ⟨go22, ((ji16) : Int).toNat, none⟩ (.int .u8 (((rd x4_1 (ji16)) + (ji21)) % 256))) = w46 at n0_ n1_ n2_ ⊢
                have HO_4 := n0_
                have BK212 := n1_
                have HB := n2_
                clear n0_ n1_ n2_
                have hcz47_0 : w46.cell? ⟨gb212, 0, none⟩ = some (.int .i64 ((rd_T25 l0 x5_1).f0)) := (blk_cell BK212.out 0).trans rfl
                have hcz47_1 : w46.cell? ⟨gb212, 1, none⟩ = some (.int .i64 ((rd_T25 l0 x5_1).f1)) := (blk_cell BK212.out 1).trans rfl
                have hcz47_2 : w46.cell? ⟨gb212, 2, none⟩ = some (.string ((rd_T25 l0 x5_1).f2)) := (blk_cell BK212.out 2).trans rfl
                have hfz47_0 := blk_frozen BK212.out 0
                have hfz47_1 := blk_frozen BK212.out 1
                have hfz47_2 := blk_frozen BK212.out 2
                try go_wp2_with (first | ((with_reducible refine gate_builtin (b := .append) (xs := #[.tmp 65, .tmp 69]) rfl ?_); at_builtin; refine Kd.R_append (Kd.int .u8) (w0 := w) w.heap.size rfl (.tmp 65) (.tmp 69) 39 5 (.int .u8 0) 1 rfl Try.underlying39 info5 rfl (by decide) (by omega) (.slice (some ⟨go22, 0, none⟩) x4_1.length co44) y215 (((rd_T25 l0 x5_1).f1) % 256) [.int .u8 (((rd_T25 l0 x5_1).f1) % 256)] (fun _ => True) (fun _ => False) rfl rfl ?aP (fun _ hk => hk.elim) ?aF ?aO ?aB ?aS ?aL ?_; (case aP => exact rfl); (case aB => exact (by repeat (first | (with_reducible first | exact HB.out | apply below_alloc | apply pw_below_drewN | apply below_drew1 | refine below_set ?_ GE212.out) | exact HB.out))); (case aF => exact (fun _ _ => trivial)); (case aO => exact (by (with_reducible repeat (first | apply Kd.R_alloc | apply Kd.R_drewN | apply Kd.R_drew)); exact HO_4.out)); (case aS => exact (below_size (by repeat (first | (with_reducible first | exact HB.out | apply below_alloc | apply pw_below_drewN | apply below_drew1 | refine below_set ?_ GE212.out) | exact HB.out)))); (case aL => have := LMc37.out; omega); intro v220 w48 ho hb hg hat; rw [← Ny219.out] at ho; have n0_ := Aside0.mk (blk_grown (g := gb212) (o := .cells #[.int .i64 ((rd_T25 l0 x5_1).f0), .int .i64 ((rd_T25 l0 x5_1).f1), .string ((rd_T25 l0 x5_1).f2)] 25 (0, 0)) (by (with_reducible repeat (first | refine blk_drewN ?_ _ | refine blk_drew ?_ | refine blk_alloc ?_ _)); exact BK212.out) hg (Kd.R_ne HO_4.out BK212.out (by decide))); have n1_ := Aside0.mk (hb); have n2_ := Aside0.mk (ho); clear BK212; clear HB; clear HO_4; have BK212 := n0_; have HB := n1_; have HO221 := n2_; clear n0_ n1_ n2_; clear ho hb hg hat))
                go_roundg k1
                case measure => have := HK1.out; omega
                case rel => exact ⟨(y219), (wrap64 (x5_1 + 1)), (by first | rfl | (simp; done) | (simp [*]; done)), H', ⟨by have := HK1.out; omega⟩, ⟨by (with_reducible repeat (first | apply Kd.R_alloc | apply Kd.R_drewN | apply Kd.R_drew)); exact HO221.out⟩, ⟨by repeat (first | (with_reducible first | exact HB.out | apply below_alloc | apply pw_below_drewN | apply below_drew1 | refine below_set ?_ GE212.out) | exact HB.out)⟩⟩
               ·
                rw [if_neg c37] at H
                exact absurd H (by simp)
              ·
               rw [if_neg c36] at H
               have c36b0 : (((rd_T25 l0 x5_1).f0) == 2) = false := beq_eq_false_iff_ne.mpr c36
               have c36b1 : (((rd_T25 l0 x5_1).f0) != 2) = true := bne_iff_ne.mpr c36
               by_cases c49 : ((rd_T25 l0 x5_1).f0) = 3
               ·
                rw [if_pos c49] at H
                have c49b0 : (((rd_T25 l0 x5_1).f0) == 3) = true := beq_iff_eq.mpr c49
                have c49b1 : (((rd_T25 l0 x5_1).f0) != 3) = false := bne_eq_false_iff_eq.mpr c49
                clear c49
                by_cases c50 : y215.length < 140737488355328
                ·
                 rw [if_pos c50] at H
                 have LMc50 := Aside0.mk c50
                 clear c50
                 obtain ⟨y222, hy222⟩ : ∃ y_ : List Int, y_ = (y215 ++ [((((rd_T25 l0 x5_1).f2).size : Int)) % 256]) := ⟨_, rfl⟩
                 replace H : (if y222.length + ((rd_T25 l0 x5_1).f2).size < 140737488355328 then (unisonref03_Encode.l0 k1 l0 (y222 ++ bytesOf ((rd_T25 l0 x5_1).f2)) (wrap64 (x5_1 + 1))) else (none)) = some (r1, r2) := by first | (rw [hy222]; with_reducible exact H) | (have H2_ := (Option.bind_some _ _).symm.trans H; rw [hy222]; with_reducible exact H2_) | (have H2_ := (Option.bind_some _ _).symm.trans H; with_reducible exact H2_) | with_reducible exact H | (rw [hy222]; exact H) | exact H
                 have Ny222 := Aside0.mk hy222
                 clear hy222
                 by_cases c51 : y222.length + ((rd_T25 l0 x5_1).f2).size < 140737488355328
                 ·
                  rw [if_pos c51] at H
                  have LMc51 := Aside0.mk c51
                  clear c51
                  obtain ⟨y225, hy225⟩ : ∃ y_ : List Int, y_ = (y222 ++ bytesOf ((rd_T25 l0 x5_1).f2)) := ⟨_, rfl⟩
                  replace H : (unisonref03_Encode.l0 k1 l0 y225 (wrap64 (x5_1 + 1))) = some (r1, r2) := by first | (rw [hy225]; with_reducible exact H) | (have H2_ := (Option.bind_some _ _).symm.trans H; rw [hy225]; with_reducible exact H2_) | (have H2_ := (Option.bind_some _ _).symm.trans H; with_reducible exact H2_) | with_reducible exact H | (rw [hy225]; exact H) | exact H
                  have Ny225 := Aside0.mk hy225
                  clear hy225
                  have H' := Aside0.mk H
                  clear H
                  have p211 : 0 ≤ (x5_1 : Int) := of_decide_eq_true (by first | (with_reducible assumption) | assumption)
                  have q211 : x5_1 < (l0.length : Int) := of_decide_eq_true (by first | (with_reducible assumption) | assumption)
                  obtain ⟨ad211, e211, hx211_0, hx211_1, hx211_2⟩ := at_T25 HR0.out x5_1 p211 q211
                  cases e211
                  replace hx211_0 := (HB.out.cell (World.block_lt_of_cell? w _ hx211_0)).trans hx211_0
                  replace hx211_1 := (HB.out.cell (World.block_lt_of_cell? w _ hx211_1)).trans hx211_1
                  replace hx211_2 := (HB.out.cell (World.block_lt_of_cell? w _ hx211_2)).trans hx211_2
                  replace p211 := eq_true p211
                  replace q211 := eq_true q211
                  try go_wp2_with (first | ((with_reducible refine gate_dst (N := 6) rfl ?_); refine box_event ?hg (N := 6) ?hd (cs := #[.int .i64 0, .int .i64 0, .string (⟨#[]⟩ : ByteArray)]) (t := 25) ?hr ?_; (case hd => rfl); (case hg => rfl); (case hr => first | (go_simp; done) | (go_simp; rfl)); intro gb212 hg w52 hbox hb; have n0_ := Aside0.mk (Kd.R_below (by (with_reducible repeat (first | apply Kd.R_alloc | apply Kd.R_drewN | apply Kd.R_drew)); exact HO_4.out) hb); have n1_ := Aside0.mk (below_step (by repeat (first | (with_reducible first | exact HB.out | apply below_alloc | apply pw_below_drewN | apply below_drew1) | exact HB.out)) hb); have n2_ := Aside0.mk (hbox); have n3_ := Aside0.mk ((by rw [hg]; exact (below_size (by repeat (first | (with_reducible first | exact HB.out | apply below_alloc | apply pw_below_drewN | apply below_drew1) | exact HB.out))) : w.heap.size ≤ gb212)); have n4_ := Aside0.mk ((by rw [hg]; exact (below_size (by repeat (first | (with_reducible first | exact HB.out | apply below_alloc | apply pw_below_drewN | apply below_drew1) | exact HB.out))) : w.heap.size ≤ gb212)); clear HO_4; clear HB; have HO_4 := n0_; have HB := n1_; have BK212 := n2_; have GW212 := n3_; have GE212 := n4_; clear n0_ n1_ n2_ n3_ n4_; clear hb hbox hg; have hcz53_0 : w52.cell? ⟨gb212, 0, none⟩ = some (.int .i64 0) := (blk_cell BK212.out 0).trans rfl; have hcz53_1 : w52.cell? ⟨gb212, 1, none⟩ = some (.int .i64 0) := (blk_cell BK212.out 1).trans rfl; have hcz53_2 : w52.cell? ⟨gb212, 2, none⟩ = some (.string (⟨#[]⟩ : ByteArray)) := (blk_cell BK212.out 2).trans rfl; have hfz53_0 := blk_frozen BK212.out 0; have hfz53_1 := blk_frozen BK212.out 1; have hfz53_2 := blk_frozen BK212.out 2) | ((with_reducible refine gate_store (t := 25) (p := 6) rfl ?_); refine store_event (t := 25) (p := 6) (v := ?vo_w54) (w1 := (((w52.setCell ⟨gb212, 0, none⟩ (.int .i64 ((rd_T25 l0 x5_1).f0))).setCell ⟨gb212, 1, none⟩ (.int .i64 ((rd_T25 l0 x5_1).f1))).setCell ⟨gb212, 2, none⟩ (.string ((rd_T25 l0 x5_1).f2)))) ?hg ?ho ?hn ?hr ?_; (case ho => rfl); (case hg => rfl); (case hn => rfl); (case hr => first | (go_simp; done) | (go_simp; rfl)); intro w54 hw; have n0_ : Aside0 (Kd.R (Kd.int .u8) 5 w54 w.heap.size (fun _ => True) u4 x4_1) := ⟨(by rw [hw]; exact (by (with_reducible repeat (first | apply Kd.R_alloc | apply Kd.R_drewN | apply Kd.R_drew)); exact Kd.R_mono (Kd.R_far (p := ⟨gb212, 2, none⟩) (Kd.R_far (p := ⟨gb212, 1, none⟩) (Kd.R_far (p := ⟨gb212, 0, none⟩) (Kd.R_types HO_4.out BK212.out (by decide)) (fun _ hk => hk.2) (.int .i64 ((rd_T25 l0 x5_1).f0))) (fun _ hk => hk.2) (.int .i64 ((rd_T25 l0 x5_1).f1))) (fun _ hk => hk.2) (.string ((rd_T25 l0 x5_1).f2))) (fun _ hk => trivial)))⟩; have n1_ : Aside0 (w54.heap[gb212]? = some (.cells #[.int .i64 ((rd_T25 l0 x5_1).f0), .int .i64 ((rd_T25 l0 x5_1).f1), .string ((rd_T25 l0 x5_1).f2)] 25 (0, 0))) := ⟨(by rw [hw]; exact (by (with_reducible repeat (first | refine blk_drewN ?_ _ | refine blk_drew ?_ | refine blk_alloc ?_ _)); refine blk_put (cs := #[.int .i64 ((rd_T25 l0 x5_1).f0), .int .i64 ((rd_T25 l0 x5_1).f1), .string (⟨#[]⟩ : ByteArray)]) ?_ 2 _ rfl; (with_reducible repeat (first | refine blk_drewN ?_ _ | refine blk_drew ?_ | refine blk_alloc ?_ _)); refine blk_put (cs := #[.int .i64 ((rd_T25 l0 x5_1).f0), .int .i64 0, .string (⟨#[]⟩ : ByteArray)]) ?_ 1 _ rfl; (with_reducible repeat (first | refine blk_drewN ?_ _ | refine blk_drew ?_ | refine blk_alloc ?_ _)); refine blk_put (cs := #[.int .i64 0, .int .i64 0, .string (⟨#[]⟩ : ByteArray)]) ?_ 0 _ rfl; (with_reducible repeat (first | refine blk_drewN ?_ _ | refine blk_drew ?_ | refine blk_alloc ?_ _)); exact BK212.out))⟩; have n2_ : Aside0 (Below w.heap.size w w54) := ⟨(by rw [hw]; exact (by repeat (first | (with_reducible first | exact HB.out | apply below_alloc | apply pw_below_drewN | apply below_drew1 | refine below_set ?_ GE212.out) | exact HB.out)))⟩; clear hw; clear HO_4; clear BK212; clear HB; have HO_4 := n0_; have BK212 := n1_; have HB := n2_; clear n0_ n1_ n2_; have hcz55_0 : w54.cell? ⟨gb212, 0, none⟩ = some (.int .i64 ((rd_T25 l0 x5_1).f0)) := (blk_cell BK212.out 0).trans rfl; have hcz55_1 : w54.cell? ⟨gb212, 1, none⟩ = some (.int .i64 ((rd_T25 l0 x5_1).f1)) := (blk_cell BK212.out 1).trans rfl; have hcz55_2 : w54.cell? ⟨gb212, 2, none⟩ = some (.string ((rd_T25 l0 x5_1).f2)) := (blk_cell BK212.out 2).trans rfl; have hfz55_0 := blk_frozen BK212.out 0; have hfz55_1 := blk_frozen BK212.out 1; have hfz55_2 := blk_frozen BK212.out 2) | ((with_reducible refine gate_callee (f := 17) rfl ?_); refine goesL_ (some 33) rfl rfl Try.func17 (by kernel_rfl) rfl #[.agg #[.int .i64 ((rd_T25 l0 x5_1).f0), .int .i64 ((rd_T25 l0 x5_1).f1), .string ((rd_T25 l0 x5_1).f2)]] rfl (by (try simp only [List.map_toArray, List.map_cons, List.map_nil]); first | done | rfl | (simp only [List.length_drop, List.length_take]; rfl)) ?_; (with_reducible refine (unisonref01_Right.calls ((rd_T25 l0 x5_1).f0) ((rd_T25 l0 x5_1).f1) ((rd_T25 l0 x5_1).f2) true _ A14.out).mono ?_); rintro e w56 ⟨rfl, hb⟩; refine ⟨_, rfl, ?_⟩; have n0_ := Aside0.mk (Kd.R_below (by (with_reducible repeat (first | apply Kd.R_alloc | apply Kd.R_drewN | apply Kd.R_drew)); exact HO_4.out) hb); have n1_ := Aside0.mk (blk_below (g := gb212) (o := .cells #[.int .i64 ((rd_T25 l0 x5_1).f0), .int .i64 ((rd_T25 l0 x5_1).f1), .string ((rd_T25 l0 x5_1).f2)] 25 (0, 0)) (by (with_reducible repeat (first | refine blk_drewN ?_ _ | refine blk_drew ?_ | refine blk_alloc ?_ _)); exact BK212.out) hb); have n2_ := Aside0.mk (below_step (by repeat (first | (with_reducible first | exact HB.out | apply below_alloc | apply pw_below_drewN | apply below_drew1 | refine below_set ?_ GE212.out) | exact HB.out)) hb); clear HO_4; clear BK212; clear HB; have HO_4 := n0_; have BK212 := n1_; have HB := n2_; clear n0_ n1_ n2_; (try clear hb); (try clear hb2); (try clear hk); (try clear hi)))
                  have n0_ := Aside0.mk (Kd.R_drew HO_4.out)
                  have n1_ := Aside0.mk (blk_drew BK212.out)
                  have n2_ := Aside0.mk (below_drew1 HB.out)
                  clear HO_4
                  clear BK212
                  clear HB
                  have HO_4 := n0_
                  have BK212 := n1_
                  have HB := n2_
                  clear n0_ n1_ n2_
                  obtain ⟨Ao58, co58, eo58⟩ := Kd.R_slice HO_4.out
                  (first | subst eo58 | (injection eo58 with f1_ f2_ f3_; have f4_ := f1_.symm; have f5_ := f3_.symm; clear f1_ f2_ f3_; subst f4_; subst f5_))
                  have p214 : 0 ≤ ((ji16) : Int) := of_decide_eq_true (by first | (with_reducible assumption) | assumption)
                  have q214 : (ji16) < (x4_1.length : Int) := of_decide_eq_true (by first | (with_reducible assumption) | assumption)
                  obtain ⟨ad214, e214, hx214_0⟩ := Kd.at_int (Kd.R_reads' HO_4.out).2.2 (ji16) p214 q214
                  cases e214
                  replace p214 := eq_true p214
                  replace q214 := eq_true q214
                  have p22 : 0 ≤ ((ji16) : Int) := of_decide_eq_true (by first | (with_reducible assumption) | assumption)
                  have q22 : ((ji16) : Int) < ((x4_1.length : Int) : Int) := of_decide_eq_true (by first | (with_reducible assumption) | assumption)
                  obtain ⟨go22, co22, eo22, gb22, gl22, cl22, HG22⟩ := Kd.R_form HO_4.out (by omega)
                  (first | cases eo22 | (injection eo22 with ea_ en_ ec_; (first | subst ea_ | (injection ea_ with ea_; subst ea_)); subst ec_; clear en_))
                  have GB22 := Aside0.mk gb22
                  have GG22 := Aside0.mk HG22
                  clear gb22 gl22 HG22
                  (first | simp only [add_plain] at hx214_0 | skip)
                  obtain ⟨hx22_0, hf22_0⟩ := Kd.R_celln 0 HO_4.out ((ji16) : Int) p22 q22
                  replace p22 := eq_true p22
                  replace q22 := eq_true q22
                  have HP59 := Kd.R_putn HO_4.out ((ji16) : Int) (((rd x4_1 (ji16)) + (ji21)) % 256)
                  rw [← Ny215.out] at HP59
                  have HQ59 := Aside0.mk HP59
                  clear HP59
                  refine start_ (n := 20) (S := fun w' => w'.cell? ⟨gb212, 0, none⟩ = some (.int .i64 ((rd_T25 l0 x5_1).f0)) ∧ w'.cell? ⟨gb212, 1, none⟩ = some (.int .i64 ((rd_T25 l0 x5_1).f1)) ∧ w'.cell? ⟨gb212, 2, none⟩ = some (.string ((rd_T25 l0 x5_1).f2)) ∧ w'.cell? ⟨go22, ((ji16)).toNat, none⟩ = some (.int .u8 (rd x4_1 (ji16)))) (ds := [19]) #[false, false, false, false, false, false, false, false, false, false, false, false, false, false, false, false, false, false, false, false] (by kernel_rfl) rfl rfl ⟨(blk_cell BK212.out 0).trans rfl, (blk_cell BK212.out 1).trans rfl, (blk_cell BK212.out 2).trans rfl, hx214_0⟩ (fun hHeld => ?_); refine with_tabW unisonref03_Encode.tab12 unisonref03_Encode.bits12 (fun HT_ HW_ => ?_)
                  generalize w56.drew = w57 at HO_4 BK212 HB GG22 HQ59 hf22_0 hx214_0 hx22_0 hHeld ⊢
                  refine pure_ (i := 0) (N := some 36) (v := ?_) (a' := ?_) #[true, false, false, false, false, false, false, false, false, false, false, false, false, false, false, false, false, false, false, false] rfl rfl (any_of HT_.out (by kernel_rfl)) (fun _ _ _ h => h) (Or.inl ⟨by rfl, ?_⟩) ?_ ?_
                  rotate_left; focus (intro w'; go_simp; with_reducible rfl; done)
                  rotate_left; focus (simp only [Act.put, List.setIfInBounds_toArray, List.set_cons_zero, List.set_cons_succ, i64_w, i32_w, u8_w, u32_w]; rfl; done)
                  refine pure_ (i := 1) (N := some 37) (v := ?_) (a' := ?_) #[true, true, false, false, false, false, false, false, false, false, false, false, false, false, false, false, false, false, false, false] rfl rfl (any_of HT_.out (by kernel_rfl)) (fun _ _ _ h => h) (Or.inl ⟨by rfl, ?_⟩) ?_ ?_
                  rotate_left; focus (intro w'; go_simp; with_reducible rfl; done)
                  rotate_left; focus (simp only [Act.put, List.setIfInBounds_toArray, List.set_cons_zero, List.set_cons_succ, i64_w, i32_w, u8_w, u32_w]; rfl; done)
                  refine pure_ (i := 2) (N := some 38) (v := ?_) (a' := ?_) #[true, true, true, false, false, false, false, false, false, false, false, false, false, false, false, false, false, false, false, false] rfl rfl (any_of HT_.out (by kernel_rfl)) (fun _ _ _ h => h) (Or.inl ⟨by rfl, ?_⟩) ?_ ?_
                  rotate_left; focus (intro w'; go_simp; with_reducible rfl; done)
                  rotate_left; focus (simp only [Act.put, List.setIfInBounds_toArray, List.set_cons_zero, List.set_cons_succ, i64_w, i32_w, u8_w, u32_w]; rfl; done)
                  refine pure_ (i := 3) (N := some 39) (v := ?_) (a' := ?_) #[true, true, true, true, false, false, false, false, false, false, false, false, false, false, false, false, false, false, false, false] rfl rfl (any_of HT_.out (by kernel_rfl)) (fun _ _ _ h => h) (Or.inl ⟨by rfl, ?_⟩) ?_ ?_
                  rotate_left; focus (intro w'; go_simp; with_reducible rfl; done)
                  rotate_left; focus (simp only [Act.put, List.setIfInBounds_toArray, List.set_cons_zero, List.set_cons_succ, i64_w, i32_w, u8_w, u32_w]; rfl; done)
                  refine pure_ (i := 4) (N := some 40) (v := ?_) (a' := ?_) #[true, true, true, true, true, false, false, false, false, false, false, false, false, false, false, false, false, false, false, false] rfl rfl (any_of HT_.out (by kernel_rfl)) (fun _ _ _ h => h) (Or.inl ⟨by rfl, ?_⟩) ?_ ?_
                  rotate_left; focus (intro w'; go_simp; with_reducible rfl; done)
                  rotate_left; focus (simp only [Act.put, List.setIfInBounds_toArray, List.set_cons_zero, List.set_cons_succ, i64_w, i32_w, u8_w, u32_w]; rfl; done)
                  refine pure_ (i := 5) (N := some 41) (v := ?_) (a' := ?_) #[true, true, true, true, true, true, false, false, false, false, false, false, false, false, false, false, false, false, false, false] rfl rfl (any_of HT_.out (by kernel_rfl)) (fun _ _ _ h => h) (Or.inl ⟨by rfl, ?_⟩) ?_ ?_
                  rotate_left; focus (intro w'; go_simp; with_reducible rfl; done)
                  rotate_left; focus (simp only [Act.put, List.setIfInBounds_toArray, List.set_cons_zero, List.set_cons_succ, i64_w, i32_w, u8_w, u32_w]; rfl; done)
                  refine pure_ (i := 6) (N := some 42) (v := ?_) (a' := ?_) #[true, true, true, true, true, true, true, false, false, false, false, false, false, false, false, false, false, false, false, false] rfl rfl (any_of HT_.out (by kernel_rfl)) (fun _ _ _ h => h) (Or.inl ⟨by rfl, ?_⟩) ?_ ?_
                  rotate_left; focus (intro w'; go_simp; with_reducible rfl; done)
                  rotate_left; focus (simp only [Act.put, List.setIfInBounds_toArray, List.set_cons_zero, List.set_cons_succ, i64_w, i32_w, u8_w, u32_w]; rfl; done)
                  refine pure_ (i := 7) (N := some 43) (v := ?_) (a' := ?_) #[true, true, true, true, true, true, true, true, false, false, false, false, false, false, false, false, false, false, false, false] rfl rfl (any_of HT_.out (by kernel_rfl)) (fun _ _ _ h => h) (Or.inl ⟨by rfl, ?_⟩) ?_ ?_
                  rotate_left; focus (intro w'; go_simp; with_reducible rfl; done)
                  rotate_left; focus (simp only [Act.put, List.setIfInBounds_toArray, List.set_cons_zero, List.set_cons_succ, i64_w, i32_w, u8_w, u32_w]; rfl; done)
                  refine pure_ (i := 8) (N := some 44) (v := ?_) (a' := ?_) #[true, true, true, true, true, true, true, true, true, false, false, false, false, false, false, false, false, false, false, false] rfl rfl (any_of HT_.out (by kernel_rfl)) (fun _ _ _ h => h) (Or.inl ⟨by rfl, ?_⟩) ?_ ?_
                  rotate_left; focus (intro w'; go_simp; with_reducible rfl; done)
                  rotate_left; focus (simp only [Act.put, List.setIfInBounds_toArray, List.set_cons_zero, List.set_cons_succ, i64_w, i32_w, u8_w, u32_w]; rfl; done)
                  refine pure_ (i := 10) (N := some 46) (v := ?_) (a' := ?_) #[true, true, true, true, true, true, true, true, true, false, true, false, false, false, false, false, false, false, false, false] rfl rfl (any_of HT_.out (by kernel_rfl)) (fun _ _ _ h => h) (Or.inl ⟨by rfl, ?_⟩) ?_ ?_
                  rotate_left; focus (intro w'; go_simp; with_reducible rfl; done)
                  rotate_left; focus (simp only [Act.put, List.setIfInBounds_toArray, List.set_cons_zero, List.set_cons_succ, i64_w, i32_w, u8_w, u32_w]; rfl; done)
                  refine pure_ (i := 13) (N := some 49) (v := ?_) (a' := ?_) #[true, true, true, true, true, true, true, true, true, false, true, false, false, true, false, false, false, false, false, false] rfl rfl (any_of HT_.out (by kernel_rfl)) (fun _ _ _ h => h) (Or.inl ⟨by rfl, ?_⟩) ?_ ?_
                  rotate_left; focus (intro w'; go_simp; with_reducible rfl; done)
                  rotate_left; focus (simp only [Act.put, List.setIfInBounds_toArray, List.set_cons_zero, List.set_cons_succ, i64_w, i32_w, u8_w, u32_w]; rfl; done)
                  refine pure_ (i := 14) (N := some 50) (v := ?_) (a' := ?_) #[true, true, true, true, true, true, true, true, true, false, true, false, false, true, true, false, false, false, false, false] rfl rfl (any_of HT_.out (by kernel_rfl)) (fun _ _ _ h => h) (Or.inl ⟨by rfl, ?_⟩) ?_ ?_
                  rotate_left; focus (intro w'; go_simp; with_reducible rfl; done)
                  rotate_left; focus (simp only [Act.put, List.setIfInBounds_toArray, List.set_cons_zero, List.set_cons_succ, i64_w, i32_w, u8_w, u32_w]; rfl; done)
                  refine pure_ (i := 15) (N := some 51) (v := ?_) (a' := ?_) #[true, true, true, true, true, true, true, true, true, false, true, false, false, true, true, true, false, false, false, false] rfl rfl (any_of HT_.out (by kernel_rfl)) (fun _ _ _ h => h) (Or.inl ⟨by rfl, ?_⟩) ?_ ?_
                  rotate_left; focus (intro w'; go_simp; with_reducible rfl; done)
                  rotate_left; focus (simp only [Act.put, List.setIfInBounds_toArray, List.set_cons_zero, List.set_cons_succ, i64_w, i32_w, u8_w, u32_w]; rfl; done)
                  refine take_ (i := 9) (N := some 45) (v := ?_) (a' := ?_) #[true, true, true, true, true, true, true, true, true, true, true, false, false, true, true, true, false, false, false, false] rfl rfl (take_ofW HT_.out HW_.out (by kernel_rfl)) (fun _ _ _ h => h) (Or.inl ⟨by rfl, ?_⟩) hHeld ?_ ?_
                  rotate_left; focus (rintro w' ⟨s0, s1, s2, s3⟩; go_simp; with_reducible rfl; done)
                  rotate_left; focus (simp only [Act.put, List.setIfInBounds_toArray, List.set_cons_zero, List.set_cons_succ, i64_w, i32_w, u8_w, u32_w]; rfl; done)
                  refine take_ (i := 11) (N := some 47) (v := ?_) (a' := ?_) #[true, true, true, true, true, true, true, true, true, true, true, true, false, true, true, true, false, false, false, false] rfl rfl (take_ofW HT_.out HW_.out (by kernel_rfl)) (fun _ _ _ h => h) (Or.inl ⟨by rfl, ?_⟩) hHeld ?_ ?_
                  rotate_left; focus (rintro w' ⟨s0, s1, s2, s3⟩; go_simp; with_reducible rfl; done)
                  rotate_left; focus (simp only [Act.put, List.setIfInBounds_toArray, List.set_cons_zero, List.set_cons_succ, i64_w, i32_w, u8_w, u32_w]; rfl; done)
                  refine pure_ (i := 12) (N := some 48) (v := ?_) (a' := ?_) #[true, true, true, true, true, true, true, true, true, true, true, true, true, true, true, true, false, false, false, false] rfl rfl (any_of HT_.out (by kernel_rfl)) (fun _ _ _ h => h) (Or.inl ⟨by rfl, ?_⟩) ?_ ?_
                  rotate_left; focus (intro w'; go_simp; with_reducible rfl; done)
                  rotate_left; focus (simp only [Act.put, List.setIfInBounds_toArray, List.set_cons_zero, List.set_cons_succ, i64_w, i32_w, u8_w, u32_w]; rfl; done)
                  refine pure_ (i := 16) (N := some 52) (v := ?_) (a' := ?_) #[true, true, true, true, true, true, true, true, true, true, true, true, true, true, true, true, true, false, false, false] rfl rfl (any_of HT_.out (by kernel_rfl)) (fun _ _ _ h => h) (Or.inl ⟨by rfl, ?_⟩) ?_ ?_
                  rotate_left; focus (intro w'; go_simp; with_reducible rfl; done)
                  rotate_left; focus (simp only [Act.put, List.setIfInBounds_toArray, List.set_cons_zero, List.set_cons_succ, i64_w, i32_w, u8_w, u32_w]; rfl; done)
                  refine pure_ (i := 17) (N := some 53) (v := ?_) (a' := ?_) #[true, true, true, true, true, true, true, true, true, true, true, true, true, true, true, true, true, true, false, false] rfl rfl (any_of HT_.out (by kernel_rfl)) (fun _ _ _ h => h) (Or.inl ⟨by rfl, ?_⟩) ?_ ?_
                  rotate_left; focus (intro w'; go_simp; with_reducible rfl; done)
                  rotate_left; focus (simp only [Act.put, List.setIfInBounds_toArray, List.set_cons_zero, List.set_cons_succ, i64_w, i32_w, u8_w, u32_w]; rfl; done)
                  refine pure_ (i := 18) (N := some 54) (v := ?_) (a' := ?_) #[true, true, true, true, true, true, true, true, true, true, true, true, true, true, true, true, true, true, true, false] rfl rfl (any_of HT_.out (by kernel_rfl)) (fun _ _ _ h => h) (Or.inl ⟨by rfl, ?_⟩) ?_ ?_
                  rotate_left; focus (intro w'; go_simp; with_reducible rfl; done)
                  rotate_left; focus (simp only [Act.put, List.setIfInBounds_toArray, List.set_cons_zero, List.set_cons_succ, i64_w, i32_w, u8_w, u32_w]; rfl; done)
                  refine last_ (i := 19) (N := none) #[true, true, true, true, true, true, true, true, true, true, true, true, true, true, true, true, true, true, true, true] rfl rfl (one_of HT_.out (by kernel_rfl)) (by decide) (fun K hK => ?_)
                  refine skip_ (w1 := ?_) (by rfl) rfl ?_ ?_
                  rotate_left; focus (go_simp; rfl; done)
                  refine hK.out _ _ ?_
                  clear hK K
                  refine done_ (done_of HT_.out (by kernel_rfl)) ?_
                  have n0_ : Aside0 (Kd.R (Kd.int .u8) 5 (w57.setCell ⟨go22, ((ji16) : Int).toNat, none⟩ (.int .u8 (((rd x4_1 (ji16)) + (ji21)) % 256))) w.heap.size (fun _ => True) (.slice (some ⟨go22, 0, none⟩) x4_1.length co58) y215) := ⟨by (with_reducible repeat (first | apply Kd.R_alloc | apply Kd.R_drewN | apply Kd.R_drew)); exact HQ59.out⟩
                  have n1_ : Aside0 ((w57.setCell ⟨go22, ((ji16) : Int).toNat, none⟩ (.int .u8 (((rd x4_1 (ji16)) + (ji21)) % 256))).heap[gb212]? = some (.cells #[.int .i64 ((rd_T25 l0 x5_1).f0), .int .i64 ((rd_T25 l0 x5_1).f1), .string ((rd_T25 l0 x5_1).f2)] 25 (0, 0))) := ⟨by (with_reducible repeat (first | refine blk_drewN ?_ _ | refine blk_drew ?_ | refine blk_alloc ?_ _)); refine blk_far ?_ (by have h_ := Kd.R_ne HO_4.out BK212.out (by decide); intro e_; exact h_ (by rw [e_]; rfl)) _; (with_reducible repeat (first | refine blk_drewN ?_ _ | refine blk_drew ?_ | refine blk_alloc ?_ _)); exact BK212.out⟩
                  have n2_ : Aside0 (Below w.heap.size w (w57.setCell ⟨go22, ((ji16) : Int).toNat, none⟩ (.int .u8 (((rd x4_1 (ji16)) + (ji21)) % 256)))) := ⟨by repeat (first | (with_reducible first | exact HB.out | apply below_alloc | apply pw_below_drewN | apply below_drew1 | refine below_set ?_ GB22.out | refine below_set ?_ GE212.out) | exact HB.out)⟩
                  (try clear HO_4)
                  (try clear BK212)
                  (try clear HB)
                  generalize (w57.setCell ⟨go22, ((ji16) : Int).toNat, none⟩ (.int .u8 (((rd x4_1 (ji16)) + (ji21)) % 256))) = w60 at n0_ n1_ n2_ ⊢
                  have HO_4 := n0_
                  have BK212 := n1_
                  have HB := n2_
                  clear n0_ n1_ n2_
                  have hcz61_0 : w60.cell? ⟨gb212, 0, none⟩ = some (.int .i64 ((rd_T25 l0 x5_1).f0)) := (blk_cell BK212.out 0).trans rfl
                  have hcz61_1 : w60.cell? ⟨gb212, 1, none⟩ = some (.int .i64 ((rd_T25 l0 x5_1).f1)) := (blk_cell BK212.out 1).trans rfl
                  have hcz61_2 : w60.cell? ⟨gb212, 2, none⟩ = some (.string ((rd_T25 l0 x5_1).f2)) := (blk_cell BK212.out 2).trans rfl
                  have hfz61_0 := blk_frozen BK212.out 0
                  have hfz61_1 := blk_frozen BK212.out 1
                  have hfz61_2 := blk_frozen BK212.out 2
                  try go_wp2_with (first | ((with_reducible refine gate_builtin (b := .append) (xs := #[.tmp 73, .tmp 78]) rfl ?_); at_builtin; refine Kd.R_append (Kd.int .u8) (w0 := w) w.heap.size rfl (.tmp 73) (.tmp 78) 39 5 (.int .u8 0) 1 rfl Try.underlying39 info5 rfl (by decide) (by omega) (.slice (some ⟨go22, 0, none⟩) x4_1.length co58) y215 (((((rd_T25 l0 x5_1).f2).size : Int)) % 256) [.int .u8 (((((rd_T25 l0 x5_1).f2).size : Int)) % 256)] (fun _ => True) (fun _ => False) rfl rfl ?aP (fun _ hk => hk.elim) ?aF ?aO ?aB ?aS ?aL ?_; (case aP => exact rfl); (case aB => exact (by repeat (first | (with_reducible first | exact HB.out | apply below_alloc | apply pw_below_drewN | apply below_drew1 | refine below_set ?_ GE212.out) | exact HB.out))); (case aF => exact (fun _ _ => trivial)); (case aO => exact (by (with_reducible repeat (first | apply Kd.R_alloc | apply Kd.R_drewN | apply Kd.R_drew)); exact HO_4.out)); (case aS => exact (below_size (by repeat (first | (with_reducible first | exact HB.out | apply below_alloc | apply pw_below_drewN | apply below_drew1 | refine below_set ?_ GE212.out) | exact HB.out)))); (case aL => have := LMc50.out; omega); intro v223 w62 ho hb hg hat; rw [← Ny222.out] at ho; have n0_ := Aside0.mk (blk_grown (g := gb212) (o := .cells #[.int .i64 ((rd_T25 l0 x5_1).f0), .int .i64 ((rd_T25 l0 x5_1).f1), .string ((rd_T25 l0 x5_1).f2)] 25 (0, 0)) (by (with_reducible repeat (first | refine blk_drewN ?_ _ | refine blk_drew ?_ | refine blk_alloc ?_ _)); exact BK212.out) hg (Kd.R_ne HO_4.out BK212.out (by decide))); have n1_ := Aside0.mk (hb); have n2_ := Aside0.mk (ho); clear BK212; clear HB; clear HO_4; have BK212 := n0_; have HB := n1_; have HO224 := n2_; clear n0_ n1_ n2_; clear ho hb hg hat; have hcz63_0 : w62.cell? ⟨gb212, 0, none⟩ = some (.int .i64 ((rd_T25 l0 x5_1).f0)) := (blk_cell BK212.out 0).trans rfl; have hcz63_1 : w62.cell? ⟨gb212, 1, none⟩ = some (.int .i64 ((rd_T25 l0 x5_1).f1)) := (blk_cell BK212.out 1).trans rfl; have hcz63_2 : w62.cell? ⟨gb212, 2, none⟩ = some (.string ((rd_T25 l0 x5_1).f2)) := (blk_cell BK212.out 2).trans rfl; have hfz63_0 := blk_frozen BK212.out 0; have hfz63_1 := blk_frozen BK212.out 1; have hfz63_2 := blk_frozen BK212.out 2) | (at_builtin; refine print_append_str (w0 := w) w.heap.size rfl (.tmp 80) _ 39 9 5 rfl Try.underlying39 Try.underlying9 info5 v223 y222 ((rd_T25 l0 x5_1).f2) rfl rfl ?aO ?aB ?aS ?aL ?_; (case aB => exact (by repeat (first | (with_reducible first | exact HB.out | apply below_alloc | apply pw_below_drewN | apply below_drew1 | refine below_set ?_ GE212.out) | exact HB.out))); (case aO => exact (Kd.own_of_R (by (with_reducible repeat (first | apply Kd.R_alloc | apply Kd.R_drewN | apply Kd.R_drew)); exact HO224.out))); (case aS => exact (below_size (by repeat (first | (with_reducible first | exact HB.out | apply below_alloc | apply pw_below_drewN | apply below_drew1 | refine below_set ?_ GE212.out) | exact HB.out)))); (case aL => have := LMc51.out; omega); intro v226 w64 ho0 hb hg; have ho := Kd.R_of_own (h1 := fun _ => rfl) (ok := fun _ => True) ho0 (fun _ _ => trivial); clear ho0; have hat := True.intro; rw [← Ny225.out] at ho; change Kd.R (Kd.int .u8) 5 w64 w.heap.size (fun _ => True) v226 y225 at ho; have n0_ := Aside0.mk (blk_grown (g := gb212) (o := .cells #[.int .i64 ((rd_T25 l0 x5_1).f0), .int .i64 ((rd_T25 l0 x5_1).f1), .string ((rd_T25 l0 x5_1).f2)] 25 (0, 0)) (by (with_reducible repeat (first | refine blk_drewN ?_ _ | refine blk_drew ?_ | refine blk_alloc ?_ _)); exact BK212.out) hg (Kd.R_ne HO224.out BK212.out (by decide))); have n1_ := Aside0.mk (hb); have n2_ := Aside0.mk (ho); clear BK212; clear HB; clear HO224; have BK212 := n0_; have HB := n1_; have HO227 := n2_; clear n0_ n1_ n2_; clear ho hb hg hat))
                  go_roundg k1
                  case measure => have := HK1.out; omega
                  case rel => exact ⟨(y225), (wrap64 (x5_1 + 1)), (by first | rfl | (simp; done) | (simp [*]; done)), H', ⟨by have := HK1.out; omega⟩, ⟨by (with_reducible repeat (first | apply Kd.R_alloc | apply Kd.R_drewN | apply Kd.R_drew)); exact HO227.out⟩, ⟨by repeat (first | (with_reducible first | exact HB.out | apply below_alloc | apply pw_below_drewN | apply below_drew1 | refine below_set ?_ GE212.out) | exact HB.out)⟩⟩
                 ·
                  rw [if_neg c51] at H
                  exact absurd H (by simp)
                ·
                 rw [if_neg c50] at H
                 exact absurd H (by simp)
               ·
                rw [if_neg c49] at H
                have c49b0 : (((rd_T25 l0 x5_1).f0) == 3) = false := beq_eq_false_iff_ne.mpr c49
                have c49b1 : (((rd_T25 l0 x5_1).f0) != 3) = true := bne_iff_ne.mpr c49
                have H' := Aside0.mk H
                clear H
                have p211 : 0 ≤ (x5_1 : Int) := of_decide_eq_true (by first | (with_reducible assumption) | assumption)
                have q211 : x5_1 < (l0.length : Int) := of_decide_eq_true (by first | (with_reducible assumption) | assumption)
                obtain ⟨ad211, e211, hx211_0, hx211_1, hx211_2⟩ := at_T25 HR0.out x5_1 p211 q211
                cases e211
                replace hx211_0 := (HB.out.cell (World.block_lt_of_cell? w _ hx211_0)).trans hx211_0
                replace hx211_1 := (HB.out.cell (World.block_lt_of_cell? w _ hx211_1)).trans hx211_1
                replace hx211_2 := (HB.out.cell (World.block_lt_of_cell? w _ hx211_2)).trans hx211_2
                replace p211 := eq_true p211
                replace q211 := eq_true q211
                try go_wp2_with (first | ((with_reducible refine gate_dst (N := 6) rfl ?_); refine box_event ?hg (N := 6) ?hd (cs := #[.int .i64 0, .int .i64 0, .string (⟨#[]⟩ : ByteArray)]) (t := 25) ?hr ?_; (case hd => rfl); (case hg => rfl); (case hr => first | (go_simp; done) | (go_simp; rfl)); intro gb212 hg w65 hbox hb; have n0_ := Aside0.mk (Kd.R_below (by (with_reducible repeat (first | apply Kd.R_alloc | apply Kd.R_drewN | apply Kd.R_drew)); exact HO_4.out) hb); have n1_ := Aside0.mk (below_step (by repeat (first | (with_reducible first | exact HB.out | apply below_alloc | apply pw_below_drewN | apply below_drew1) | exact HB.out)) hb); have n2_ := Aside0.mk (hbox); have n3_ := Aside0.mk ((by rw [hg]; exact (below_size (by repeat (first | (with_reducible first | exact HB.out | apply below_alloc | apply pw_below_drewN | apply below_drew1) | exact HB.out))) : w.heap.size ≤ gb212)); have n4_ := Aside0.mk ((by rw [hg]; exact (below_size (by repeat (first | (with_reducible first | exact HB.out | apply below_alloc | apply pw_below_drewN | apply below_drew1) | exact HB.out))) : w.heap.size ≤ gb212)); clear HO_4; clear HB; have HO_4 := n0_; have HB := n1_; have BK212 := n2_; have GW212 := n3_; have GE212 := n4_; clear n0_ n1_ n2_ n3_ n4_; clear hb hbox hg; have hcz66_0 : w65.cell? ⟨gb212, 0, none⟩ = some (.int .i64 0) := (blk_cell BK212.out 0).trans rfl; have hcz66_1 : w65.cell? ⟨gb212, 1, none⟩ = some (.int .i64 0) := (blk_cell BK212.out 1).trans rfl; have hcz66_2 : w65.cell? ⟨gb212, 2, none⟩ = some (.string (⟨#[]⟩ : ByteArray)) := (blk_cell BK212.out 2).trans rfl; have hfz66_0 := blk_frozen BK212.out 0; have hfz66_1 := blk_frozen BK212.out 1; have hfz66_2 := blk_frozen BK212.out 2) | ((with_reducible refine gate_store (t := 25) (p := 6) rfl ?_); refine store_event (t := 25) (p := 6) (v := ?vo_w67) (w1 := (((w65.setCell ⟨gb212, 0, none⟩ (.int .i64 ((rd_T25 l0 x5_1).f0))).setCell ⟨gb212, 1, none⟩ (.int .i64 ((rd_T25 l0 x5_1).f1))).setCell ⟨gb212, 2, none⟩ (.string ((rd_T25 l0 x5_1).f2)))) ?hg ?ho ?hn ?hr ?_; (case ho => rfl); (case hg => rfl); (case hn => rfl); (case hr => first | (go_simp; done) | (go_simp; rfl)); intro w67 hw; have n0_ : Aside0 (Kd.R (Kd.int .u8) 5 w67 w.heap.size (fun _ => True) u4 x4_1) := ⟨(by rw [hw]; exact (by (with_reducible repeat (first | apply Kd.R_alloc | apply Kd.R_drewN | apply Kd.R_drew)); exact Kd.R_mono (Kd.R_far (p := ⟨gb212, 2, none⟩) (Kd.R_far (p := ⟨gb212, 1, none⟩) (Kd.R_far (p := ⟨gb212, 0, none⟩) (Kd.R_types HO_4.out BK212.out (by decide)) (fun _ hk => hk.2) (.int .i64 ((rd_T25 l0 x5_1).f0))) (fun _ hk => hk.2) (.int .i64 ((rd_T25 l0 x5_1).f1))) (fun _ hk => hk.2) (.string ((rd_T25 l0 x5_1).f2))) (fun _ hk => trivial)))⟩; have n1_ : Aside0 (w67.heap[gb212]? = some (.cells #[.int .i64 ((rd_T25 l0 x5_1).f0), .int .i64 ((rd_T25 l0 x5_1).f1), .string ((rd_T25 l0 x5_1).f2)] 25 (0, 0))) := ⟨(by rw [hw]; exact (by (with_reducible repeat (first | refine blk_drewN ?_ _ | refine blk_drew ?_ | refine blk_alloc ?_ _)); refine blk_put (cs := #[.int .i64 ((rd_T25 l0 x5_1).f0), .int .i64 ((rd_T25 l0 x5_1).f1), .string (⟨#[]⟩ : ByteArray)]) ?_ 2 _ rfl; (with_reducible repeat (first | refine blk_drewN ?_ _ | refine blk_drew ?_ | refine blk_alloc ?_ _)); refine blk_put (cs := #[.int .i64 ((rd_T25 l0 x5_1).f0), .int .i64 0, .string (⟨#[]⟩ : ByteArray)]) ?_ 1 _ rfl; (with_reducible repeat (first | refine blk_drewN ?_ _ | refine blk_drew ?_ | refine blk_alloc ?_ _)); refine blk_put (cs := #[.int .i64 0, .int .i64 0, .string (⟨#[]⟩ : ByteArray)]) ?_ 0 _ rfl; (with_reducible repeat (first | refine blk_drewN ?_ _ | refine blk_drew ?_ | refine blk_alloc ?_ _)); exact BK212.out))⟩; have n2_ : Aside0 (Below w.heap.size w w67) := ⟨(by rw [hw]; exact (by repeat (first | (with_reducible first | exact HB.out | apply below_alloc | apply pw_below_drewN | apply below_drew1 | refine below_set ?_ GE212.out) | exact HB.out)))⟩; clear hw; clear HO_4; clear BK212; clear HB; have HO_4 := n0_; have BK212 := n1_; have HB := n2_; clear n0_ n1_ n2_; have hcz68_0 : w67.cell? ⟨gb212, 0, none⟩ = some (.int .i64 ((rd_T25 l0 x5_1).f0)) := (blk_cell BK212.out 0).trans rfl; have hcz68_1 : w67.cell? ⟨gb212, 1, none⟩ = some (.int .i64 ((rd_T25 l0 x5_1).f1)) := (blk_cell BK212.out 1).trans rfl; have hcz68_2 : w67.cell? ⟨gb212, 2, none⟩ = some (.string ((rd_T25 l0 x5_1).f2)) := (blk_cell BK212.out 2).trans rfl; have hfz68_0 := blk_frozen BK212.out 0; have hfz68_1 := blk_frozen BK212.out 1; have hfz68_2 := blk_frozen BK212.out 2) | ((with_reducible refine gate_callee (f := 17) rfl ?_); refine goesL_ (some 33) rfl rfl Try.func17 (by kernel_rfl) rfl #[.agg #[.int .i64 ((rd_T25 l0 x5_1).f0), .int .i64 ((rd_T25 l0 x5_1).f1), .string ((rd_T25 l0 x5_1).f2)]] rfl (by (try simp only [List.map_toArray, List.map_cons, List.map_nil]); first | done | rfl | (simp only [List.length_drop, List.length_take]; rfl)) ?_; (with_reducible refine (unisonref01_Right.calls ((rd_T25 l0 x5_1).f0) ((rd_T25 l0 x5_1).f1) ((rd_T25 l0 x5_1).f2) true _ A14.out).mono ?_); rintro e w69 ⟨rfl, hb⟩; refine ⟨_, rfl, ?_⟩; have n0_ := Aside0.mk (Kd.R_below (by (with_reducible repeat (first | apply Kd.R_alloc | apply Kd.R_drewN | apply Kd.R_drew)); exact HO_4.out) hb); have n1_ := Aside0.mk (blk_below (g := gb212) (o := .cells #[.int .i64 ((rd_T25 l0 x5_1).f0), .int .i64 ((rd_T25 l0 x5_1).f1), .string ((rd_T25 l0 x5_1).f2)] 25 (0, 0)) (by (with_reducible repeat (first | refine blk_drewN ?_ _ | refine blk_drew ?_ | refine blk_alloc ?_ _)); exact BK212.out) hb); have n2_ := Aside0.mk (below_step (by repeat (first | (with_reducible first | exact HB.out | apply below_alloc | apply pw_below_drewN | apply below_drew1 | refine below_set ?_ GE212.out) | exact HB.out)) hb); clear HO_4; clear BK212; clear HB; have HO_4 := n0_; have BK212 := n1_; have HB := n2_; clear n0_ n1_ n2_; (try clear hb); (try clear hb2); (try clear hk); (try clear hi)))
                have n0_ := Aside0.mk (Kd.R_drew HO_4.out)
                have n1_ := Aside0.mk (blk_drew BK212.out)
                have n2_ := Aside0.mk (below_drew1 HB.out)
                clear HO_4
                clear BK212
                clear HB
                have HO_4 := n0_
                have BK212 := n1_
                have HB := n2_
                clear n0_ n1_ n2_
                obtain ⟨Ao71, co71, eo71⟩ := Kd.R_slice HO_4.out
                (first | subst eo71 | (injection eo71 with f1_ f2_ f3_; have f4_ := f1_.symm; have f5_ := f3_.symm; clear f1_ f2_ f3_; subst f4_; subst f5_))
                have p214 : 0 ≤ ((ji16) : Int) := of_decide_eq_true (by first | (with_reducible assumption) | assumption)
                have q214 : (ji16) < (x4_1.length : Int) := of_decide_eq_true (by first | (with_reducible assumption) | assumption)
                obtain ⟨ad214, e214, hx214_0⟩ := Kd.at_int (Kd.R_reads' HO_4.out).2.2 (ji16) p214 q214
                cases e214
                replace p214 := eq_true p214
                replace q214 := eq_true q214
                have p22 : 0 ≤ ((ji16) : Int) := of_decide_eq_true (by first | (with_reducible assumption) | assumption)
                have q22 : ((ji16) : Int) < ((x4_1.length : Int) : Int) := of_decide_eq_true (by first | (with_reducible assumption) | assumption)
                obtain ⟨go22, co22, eo22, gb22, gl22, cl22, HG22⟩ := Kd.R_form HO_4.out (by omega)
                (first | cases eo22 | (injection eo22 with ea_ en_ ec_; (first | subst ea_ | (injection ea_ with ea_; subst ea_)); subst ec_; clear en_))
                have GB22 := Aside0.mk gb22
                have GG22 := Aside0.mk HG22
                clear gb22 gl22 HG22
                (first | simp only [add_plain] at hx214_0 | skip)
                obtain ⟨hx22_0, hf22_0⟩ := Kd.R_celln 0 HO_4.out ((ji16) : Int) p22 q22
                replace p22 := eq_true p22
                replace q22 := eq_true q22
                have HP72 := Kd.R_putn HO_4.out ((ji16) : Int) (((rd x4_1 (ji16)) + (ji21)) % 256)
                rw [← Ny215.out] at HP72
                have HQ72 := Aside0.mk HP72
                clear HP72
                refine start_ (n := 20) (S := fun w' => w'.cell? ⟨gb212, 0, none⟩ = some (.int .i64 ((rd_T25 l0 x5_1).f0)) ∧ w'.cell? ⟨gb212, 1, none⟩ = some (.int .i64 ((rd_T25 l0 x5_1).f1)) ∧ w'.cell? ⟨gb212, 2, none⟩ = some (.string ((rd_T25 l0 x5_1).f2)) ∧ w'.cell? ⟨go22, ((ji16)).toNat, none⟩ = some (.int .u8 (rd x4_1 (ji16)))) (ds := [19]) #[false, false, false, false, false, false, false, false, false, false, false, false, false, false, false, false, false, false, false, false] (by kernel_rfl) rfl rfl ⟨(blk_cell BK212.out 0).trans rfl, (blk_cell BK212.out 1).trans rfl, (blk_cell BK212.out 2).trans rfl, hx214_0⟩ (fun hHeld => ?_); refine with_tabW unisonref03_Encode.tab12 unisonref03_Encode.bits12 (fun HT_ HW_ => ?_)
                generalize w69.drew = w70 at HO_4 BK212 HB GG22 HQ72 hf22_0 hx214_0 hx22_0 hHeld ⊢
                refine pure_ (i := 0) (N := some 36) (v := ?_) (a' := ?_) #[true, false, false, false, false, false, false, false, false, false, false, false, false, false, false, false, false, false, false, false] rfl rfl (any_of HT_.out (by kernel_rfl)) (fun _ _ _ h => h) (Or.inl ⟨by rfl, ?_⟩) ?_ ?_
                rotate_left; focus (intro w'; go_simp; with_reducible rfl; done)
                rotate_left; focus (simp only [Act.put, List.setIfInBounds_toArray, List.set_cons_zero, List.set_cons_succ, i64_w, i32_w, u8_w, u32_w]; rfl; done)
                refine pure_ (i := 1) (N := some 37) (v := ?_) (a' := ?_) #[true, true, false, false, false, false, false, false, false, false, false, false, false, false, false, false, false, false, false, false] rfl rfl (any_of HT_.out (by kernel_rfl)) (fun _ _ _ h => h) (Or.inl ⟨by rfl, ?_⟩) ?_ ?_
                rotate_left; focus (intro w'; go_simp; with_reducible rfl; done)
                rotate_left; focus (simp only [Act.put, List.setIfInBounds_toArray, List.set_cons_zero, List.set_cons_succ, i64_w, i32_w, u8_w, u32_w]; rfl; done)
                refine pure_ (i := 2) (N := some 38) (v := ?_) (a' := ?_) #[true, true, true, false, false, false, false, false, false, false, false, false, false, false, false, false, false, false, false, false] rfl rfl (any_of HT_.out (by kernel_rfl)) (fun _ _ _ h => h) (Or.inl ⟨by rfl, ?_⟩) ?_ ?_
                rotate_left; focus (intro w'; go_simp; with_reducible rfl; done)
                rotate_left; focus (simp only [Act.put, List.setIfInBounds_toArray, List.set_cons_zero, List.set_cons_succ, i64_w, i32_w, u8_w, u32_w]; rfl; done)
                refine pure_ (i := 3) (N := some 39) (v := ?_) (a' := ?_) #[true, true, true, true, false, false, false, false, false, false, false, false, false, false, false, false, false, false, false, false] rfl rfl (any_of HT_.out (by kernel_rfl)) (fun _ _ _ h => h) (Or.inl ⟨by rfl, ?_⟩) ?_ ?_
                rotate_left; focus (intro w'; go_simp; with_reducible rfl; done)
                rotate_left; focus (simp only [Act.put, List.setIfInBounds_toArray, List.set_cons_zero, List.set_cons_succ, i64_w, i32_w, u8_w, u32_w]; rfl; done)
                refine pure_ (i := 4) (N := some 40) (v := ?_) (a' := ?_) #[true, true, true, true, true, false, false, false, false, false, false, false, false, false, false, false, false, false, false, false] rfl rfl (any_of HT_.out (by kernel_rfl)) (fun _ _ _ h => h) (Or.inl ⟨by rfl, ?_⟩) ?_ ?_
                rotate_left; focus (intro w'; go_simp; with_reducible rfl; done)
                rotate_left; focus (simp only [Act.put, List.setIfInBounds_toArray, List.set_cons_zero, List.set_cons_succ, i64_w, i32_w, u8_w, u32_w]; rfl; done)
                refine pure_ (i := 5) (N := some 41) (v := ?_) (a' := ?_) #[true, true, true, true, true, true, false, false, false, false, false, false, false, false, false, false, false, false, false, false] rfl rfl (any_of HT_.out (by kernel_rfl)) (fun _ _ _ h => h) (Or.inl ⟨by rfl, ?_⟩) ?_ ?_
                rotate_left; focus (intro w'; go_simp; with_reducible rfl; done)
                rotate_left; focus (simp only [Act.put, List.setIfInBounds_toArray, List.set_cons_zero, List.set_cons_succ, i64_w, i32_w, u8_w, u32_w]; rfl; done)
                refine pure_ (i := 6) (N := some 42) (v := ?_) (a' := ?_) #[true, true, true, true, true, true, true, false, false, false, false, false, false, false, false, false, false, false, false, false] rfl rfl (any_of HT_.out (by kernel_rfl)) (fun _ _ _ h => h) (Or.inl ⟨by rfl, ?_⟩) ?_ ?_
                rotate_left; focus (intro w'; go_simp; with_reducible rfl; done)
                rotate_left; focus (simp only [Act.put, List.setIfInBounds_toArray, List.set_cons_zero, List.set_cons_succ, i64_w, i32_w, u8_w, u32_w]; rfl; done)
                refine pure_ (i := 7) (N := some 43) (v := ?_) (a' := ?_) #[true, true, true, true, true, true, true, true, false, false, false, false, false, false, false, false, false, false, false, false] rfl rfl (any_of HT_.out (by kernel_rfl)) (fun _ _ _ h => h) (Or.inl ⟨by rfl, ?_⟩) ?_ ?_
                rotate_left; focus (intro w'; go_simp; with_reducible rfl; done)
                rotate_left; focus (simp only [Act.put, List.setIfInBounds_toArray, List.set_cons_zero, List.set_cons_succ, i64_w, i32_w, u8_w, u32_w]; rfl; done)
                refine pure_ (i := 8) (N := some 44) (v := ?_) (a' := ?_) #[true, true, true, true, true, true, true, true, true, false, false, false, false, false, false, false, false, false, false, false] rfl rfl (any_of HT_.out (by kernel_rfl)) (fun _ _ _ h => h) (Or.inl ⟨by rfl, ?_⟩) ?_ ?_
                rotate_left; focus (intro w'; go_simp; with_reducible rfl; done)
                rotate_left; focus (simp only [Act.put, List.setIfInBounds_toArray, List.set_cons_zero, List.set_cons_succ, i64_w, i32_w, u8_w, u32_w]; rfl; done)
                refine pure_ (i := 10) (N := some 46) (v := ?_) (a' := ?_) #[true, true, true, true, true, true, true, true, true, false, true, false, false, false, false, false, false, false, false, false] rfl rfl (any_of HT_.out (by kernel_rfl)) (fun _ _ _ h => h) (Or.inl ⟨by rfl, ?_⟩) ?_ ?_
                rotate_left; focus (intro w'; go_simp; with_reducible rfl; done)
                rotate_left; focus (simp only [Act.put, List.setIfInBounds_toArray, List.set_cons_zero, List.set_cons_succ, i64_w, i32_w, u8_w, u32_w]; rfl; done)
                refine pure_ (i := 13) (N := some 49) (v := ?_) (a' := ?_) #[true, true, true, true, true, true, true, true, true, false, true, false, false, true, false, false, false, false, false, false] rfl rfl (any_of HT_.out (by kernel_rfl)) (fun _ _ _ h => h) (Or.inl ⟨by rfl, ?_⟩) ?_ ?_
                rotate_left; focus (intro w'; go_simp; with_reducible rfl; done)
                rotate_left; focus (simp only [Act.put, List.setIfInBounds_toArray, List.set_cons_zero, List.set_cons_succ, i64_w, i32_w, u8_w, u32_w]; rfl; done)
                refine pure_ (i := 14) (N := some 50) (v := ?_) (a' := ?_) #[true, true, true, true, true, true, true, true, true, false, true, false, false, true, true, false, false, false, false, false] rfl rfl (any_of HT_.out (by kernel_rfl)) (fun _ _ _ h => h) (Or.inl ⟨by rfl, ?_⟩) ?_ ?_
                rotate_left; focus (intro w'; go_simp; with_reducible rfl; done)
                rotate_left; focus (simp only [Act.put, List.setIfInBounds_toArray, List.set_cons_zero, List.set_cons_succ, i64_w, i32_w, u8_w, u32_w]; rfl; done)
                refine pure_ (i := 15) (N := some 51) (v := ?_) (a' := ?_) #[true, true, true, true, true, true, true, true, true, false, true, false, false, true, true, true, false, false, false, false] rfl rfl (any_of HT_.out (by kernel_rfl)) (fun _ _ _ h => h) (Or.inl ⟨by rfl, ?_⟩) ?_ ?_
                rotate_left; focus (intro w'; go_simp; with_reducible rfl; done)
                rotate_left; focus (simp only [Act.put, List.setIfInBounds_toArray, List.set_cons_zero, List.set_cons_succ, i64_w, i32_w, u8_w, u32_w]; rfl; done)
                refine take_ (i := 9) (N := some 45) (v := ?_) (a' := ?_) #[true, true, true, true, true, true, true, true, true, true, true, false, false, true, true, true, false, false, false, false] rfl rfl (take_ofW HT_.out HW_.out (by kernel_rfl)) (fun _ _ _ h => h) (Or.inl ⟨by rfl, ?_⟩) hHeld ?_ ?_
                rotate_left; focus (rintro w' ⟨s0, s1, s2, s3⟩; go_simp; with_reducible rfl; done)
                rotate_left; focus (simp only [Act.put, List.setIfInBounds_toArray, List.set_cons_zero, List.set_cons_succ, i64_w, i32_w, u8_w, u32_w]; rfl; done)
                refine take_ (i := 11) (N := some 47) (v := ?_) (a' := ?_) #[true, true, true, true, true, true, true, true, true, true, true, true, false, true, true, true, false, false, false, false] rfl rfl (take_ofW HT_.out HW_.out (by kernel_rfl)) (fun _ _ _ h => h) (Or.inl ⟨by rfl, ?_⟩) hHeld ?_ ?_
                rotate_left; focus (rintro w' ⟨s0, s1, s2, s3⟩; go_simp; with_reducible rfl; done)
                rotate_left; focus (simp only [Act.put, List.setIfInBounds_toArray, List.set_cons_zero, List.set_cons_succ, i64_w, i32_w, u8_w, u32_w]; rfl; done)
                refine pure_ (i := 12) (N := some 48) (v := ?_) (a' := ?_) #[true, true, true, true, true, true, true, true, true, true, true, true, true, true, true, true, false, false, false, false] rfl rfl (any_of HT_.out (by kernel_rfl)) (fun _ _ _ h => h) (Or.inl ⟨by rfl, ?_⟩) ?_ ?_
                rotate_left; focus (intro w'; go_simp; with_reducible rfl; done)
                rotate_left; focus (simp only [Act.put, List.setIfInBounds_toArray, List.set_cons_zero, List.set_cons_succ, i64_w, i32_w, u8_w, u32_w]; rfl; done)
                refine pure_ (i := 16) (N := some 52) (v := ?_) (a' := ?_) #[true, true, true, true, true, true, true, true, true, true, true, true, true, true, true, true, true, false, false, false] rfl rfl (any_of HT_.out (by kernel_rfl)) (fun _ _ _ h => h) (Or.inl ⟨by rfl, ?_⟩) ?_ ?_
                rotate_left; focus (intro w'; go_simp; with_reducible rfl; done)
                rotate_left; focus (simp only [Act.put, List.setIfInBounds_toArray, List.set_cons_zero, List.set_cons_succ, i64_w, i32_w, u8_w, u32_w]; rfl; done)
                refine pure_ (i := 17) (N := some 53) (v := ?_) (a' := ?_) #[true, true, true, true, true, true, true, true, true, true, true, true, true, true, true, true, true, true, false, false] rfl rfl (any_of HT_.out (by kernel_rfl)) (fun _ _ _ h => h) (Or.inl ⟨by rfl, ?_⟩) ?_ ?_
                rotate_left; focus (intro w'; go_simp; with_reducible rfl; done)
                rotate_left; focus (simp only [Act.put, List.setIfInBounds_toArray, List.set_cons_zero, List.set_cons_succ, i64_w, i32_w, u8_w, u32_w]; rfl; done)
                refine pure_ (i := 18) (N := some 54) (v := ?_) (a' := ?_) #[true, true, true, true, true, true, true, true, true, true, true, true, true, true, true, true, true, true, true, false] rfl rfl (any_of HT_.out (by kernel_rfl)) (fun _ _ _ h => h) (Or.inl ⟨by rfl, ?_⟩) ?_ ?_
                rotate_left; focus (intro w'; go_simp; with_reducible rfl; done)
                rotate_left; focus (simp only [Act.put, List.setIfInBounds_toArray, List.set_cons_zero, List.set_cons_succ, i64_w, i32_w, u8_w, u32_w]; rfl; done)
                refine last_ (i := 19) (N := none) #[true, true, true, true, true, true, true, true, true, true, true, true, true, true, true, true, true, true, true, true] rfl rfl (one_of HT_.out (by kernel_rfl)) (by decide) (fun K hK => ?_)
                refine skip_ (w1 := ?_) (by rfl) rfl ?_ ?_
                rotate_left; focus (go_simp; rfl; done)
                refine hK.out _ _ ?_
                clear hK K
                refine done_ (done_of HT_.out (by kernel_rfl)) ?_
                have n0_ : Aside0 (Kd.R (Kd.int .u8) 5 (w70.setCell ⟨go22, ((ji16) : Int).toNat, none⟩ (.int .u8 (((rd x4_1 (ji16)) + (ji21)) % 256))) w.heap.size (fun _ => True) (.slice (some ⟨go22, 0, none⟩) x4_1.length co71) y215) := ⟨by (with_reducible repeat (first | apply Kd.R_alloc | apply Kd.R_drewN | apply Kd.R_drew)); exact HQ72.out⟩
                have n1_ : Aside0 ((w70.setCell ⟨go22, ((ji16) : Int).toNat, none⟩ (.int .u8 (((rd x4_1 (ji16)) + (ji21)) % 256))).heap[gb212]? = some (.cells #[.int .i64 ((rd_T25 l0 x5_1).f0), .int .i64 ((rd_T25 l0 x5_1).f1), .string ((rd_T25 l0 x5_1).f2)] 25 (0, 0))) := ⟨by (with_reducible repeat (first | refine blk_drewN ?_ _ | refine blk_drew ?_ | refine blk_alloc ?_ _)); refine blk_far ?_ (by have h_ := Kd.R_ne HO_4.out BK212.out (by decide); intro e_; exact h_ (by rw [e_]; rfl)) _; (with_reducible repeat (first | refine blk_drewN ?_ _ | refine blk_drew ?_ | refine blk_alloc ?_ _)); exact BK212.out⟩
                have n2_ : Aside0 (Below w.heap.size w (w70.setCell ⟨go22, ((ji16) : Int).toNat, none⟩ (.int .u8 (((rd x4_1 (ji16)) + (ji21)) % 256)))) := ⟨by repeat (first | (with_reducible first | exact HB.out | apply below_alloc | apply pw_below_drewN | apply below_drew1 | refine below_set ?_ GB22.out | refine below_set ?_ GE212.out) | exact HB.out)⟩
                (try clear HO_4)
                (try clear BK212)
                (try clear HB)
                generalize (w70.setCell ⟨go22, ((ji16) : Int).toNat, none⟩ (.int .u8 (((rd x4_1 (ji16)) + (ji21)) % 256))) = w73 at n0_ n1_ n2_ ⊢
                have HO_4 := n0_
                have BK212 := n1_
                have HB := n2_
                clear n0_ n1_ n2_
                have hcz74_0 : w73.cell? ⟨gb212, 0, none⟩ = some (.int .i64 ((rd_T25 l0 x5_1).f0)) := (blk_cell BK212.out 0).trans rfl
                have hcz74_1 : w73.cell? ⟨gb212, 1, none⟩ = some (.int .i64 ((rd_T25 l0 x5_1).f1)) := (blk_cell BK212.out 1).trans rfl
                have hcz74_2 : w73.cell? ⟨gb212, 2, none⟩ = some (.string ((rd_T25 l0 x5_1).f2)) := (blk_cell BK212.out 2).trans rfl
                have hfz74_0 := blk_frozen BK212.out 0
                have hfz74_1 := blk_frozen BK212.out 1
                have hfz74_2 := blk_frozen BK212.out 2
                try go_wp2
                go_roundg k1
                case measure => have := HK1.out; omega
                case rel => exact ⟨(y215), (wrap64 (x5_1 + 1)), (by first | rfl | (simp; done) | (simp [*]; done)), H', ⟨by have := HK1.out; omega⟩, ⟨by (with_reducible repeat (first | apply Kd.R_alloc | apply Kd.R_drewN | apply Kd.R_drew)); exact HO_4.out⟩, ⟨by repeat (first | (with_reducible first | exact HB.out | apply below_alloc | apply pw_below_drewN | apply below_drew1 | refine below_set ?_ GE212.out) | exact HB.out)⟩⟩
            ·
             rw [if_neg c20] at H
             exact absurd H (by simp)
           ·
            rw [if_neg c18] at H
            exact absurd H (by simp)
          ·
           rw [if_neg c17] at H
           exact absurd H (by simp)
         ·
          replace c15 := Bool.eq_false_iff.mpr c15
          subst c15
          have H1 : (some ((⟨#[]⟩ : ByteArray), 10)) = some (r1, r2) := by rw [if_neg (show ¬ (false = true) by decide)] at H; exact H
          clear H
          have H := H1
          clear H1
          simp only [Option.some.injEq, Prod.mk.injEq] at H
          obtain ⟨rfl, rfl⟩ := H
          have p211 : 0 ≤ (x5_1 : Int) := of_decide_eq_true (by first | (with_reducible assumption) | assumption)
          have q211 : x5_1 < (l0.length : Int) := of_decide_eq_true (by first | (with_reducible assumption) | assumption)
          obtain ⟨ad211, e211, hx211_0, hx211_1, hx211_2⟩ := at_T25 HR0.out x5_1 p211 q211
          cases e211
          replace hx211_0 := (HB.out.cell (World.block_lt_of_cell? w _ hx211_0)).trans hx211_0
          replace hx211_1 := (HB.out.cell (World.block_lt_of_cell? w _ hx211_1)).trans hx211_1
          replace hx211_2 := (HB.out.cell (World.block_lt_of_cell? w _ hx211_2)).trans hx211_2
          replace p211 := eq_true p211
          replace q211 := eq_true q211
          go_wp2_with (first | ((with_reducible refine gate_dst (N := 6) rfl ?_); refine box_event ?hg (N := 6) ?hd (cs := #[.int .i64 0, .int .i64 0, .string (⟨#[]⟩ : ByteArray)]) (t := 25) ?hr ?_; (case hd => rfl); (case hg => rfl); (case hr => first | (go_simp; done) | (go_simp; rfl)); intro gb212 hg w75 hbox hb; have n0_ := Aside0.mk (Kd.R_below (by (with_reducible repeat (first | apply Kd.R_alloc | apply Kd.R_drewN | apply Kd.R_drew)); exact HO_4.out) hb); have n1_ := Aside0.mk (below_step (by repeat (first | (with_reducible first | exact HB.out | apply below_alloc | apply pw_below_drewN | apply below_drew1) | exact HB.out)) hb); have n2_ := Aside0.mk (hbox); have n3_ := Aside0.mk ((by rw [hg]; exact (below_size (by repeat (first | (with_reducible first | exact HB.out | apply below_alloc | apply pw_below_drewN | apply below_drew1) | exact HB.out))) : w.heap.size ≤ gb212)); have n4_ := Aside0.mk ((by rw [hg]; exact (below_size (by repeat (first | (with_reducible first | exact HB.out | apply below_alloc | apply pw_below_drewN | apply below_drew1) | exact HB.out))) : w.heap.size ≤ gb212)); clear HO_4; clear HB; have HO_4 := n0_; have HB := n1_; have BK212 := n2_; have GW212 := n3_; have GE212 := n4_; clear n0_ n1_ n2_ n3_ n4_; clear hb hbox hg; have hcz76_0 : w75.cell? ⟨gb212, 0, none⟩ = some (.int .i64 0) := (blk_cell BK212.out 0).trans rfl; have hcz76_1 : w75.cell? ⟨gb212, 1, none⟩ = some (.int .i64 0) := (blk_cell BK212.out 1).trans rfl; have hcz76_2 : w75.cell? ⟨gb212, 2, none⟩ = some (.string (⟨#[]⟩ : ByteArray)) := (blk_cell BK212.out 2).trans rfl; have hfz76_0 := blk_frozen BK212.out 0; have hfz76_1 := blk_frozen BK212.out 1; have hfz76_2 := blk_frozen BK212.out 2) | ((with_reducible refine gate_store (t := 25) (p := 6) rfl ?_); refine store_event (t := 25) (p := 6) (v := ?vo_w77) (w1 := (((w75.setCell ⟨gb212, 0, none⟩ (.int .i64 ((rd_T25 l0 x5_1).f0))).setCell ⟨gb212, 1, none⟩ (.int .i64 ((rd_T25 l0 x5_1).f1))).setCell ⟨gb212, 2, none⟩ (.string ((rd_T25 l0 x5_1).f2)))) ?hg ?ho ?hn ?hr ?_; (case ho => rfl); (case hg => rfl); (case hn => rfl); (case hr => first | (go_simp; done) | (go_simp; rfl)); intro w77 hw; have n0_ : Aside0 (Kd.R (Kd.int .u8) 5 w77 w.heap.size (fun _ => True) u4 x4_1) := ⟨(by rw [hw]; exact (by (with_reducible repeat (first | apply Kd.R_alloc | apply Kd.R_drewN | apply Kd.R_drew)); exact Kd.R_mono (Kd.R_far (p := ⟨gb212, 2, none⟩) (Kd.R_far (p := ⟨gb212, 1, none⟩) (Kd.R_far (p := ⟨gb212, 0, none⟩) (Kd.R_types HO_4.out BK212.out (by decide)) (fun _ hk => hk.2) (.int .i64 ((rd_T25 l0 x5_1).f0))) (fun _ hk => hk.2) (.int .i64 ((rd_T25 l0 x5_1).f1))) (fun _ hk => hk.2) (.string ((rd_T25 l0 x5_1).f2))) (fun _ hk => trivial)))⟩; have n1_ : Aside0 (w77.heap[gb212]? = some (.cells #[.int .i64 ((rd_T25 l0 x5_1).f0), .int .i64 ((rd_T25 l0 x5_1).f1), .string ((rd_T25 l0 x5_1).f2)] 25 (0, 0))) := ⟨(by rw [hw]; exact (by (with_reducible repeat (first | refine blk_drewN ?_ _ | refine blk_drew ?_ | refine blk_alloc ?_ _)); refine blk_put (cs := #[.int .i64 ((rd_T25 l0 x5_1).f0), .int .i64 ((rd_T25 l0 x5_1).f1), .string (⟨#[]⟩ : ByteArray)]) ?_ 2 _ rfl; (with_reducible repeat (first | refine blk_drewN ?_ _ | refine blk_drew ?_ | refine blk_alloc ?_ _)); refine blk_put (cs := #[.int .i64 ((rd_T25 l0 x5_1).f0), .int .i64 0, .string (⟨#[]⟩ : ByteArray)]) ?_ 1 _ rfl; (with_reducible repeat (first | refine blk_drewN ?_ _ | refine blk_drew ?_ | refine blk_alloc ?_ _)); refine blk_put (cs := #[.int .i64 0, .int .i64 0, .string (⟨#[]⟩ : ByteArray)]) ?_ 0 _ rfl; (with_reducible repeat (first | refine blk_drewN ?_ _ | refine blk_drew ?_ | refine blk_alloc ?_ _)); exact BK212.out))⟩; have n2_ : Aside0 (Below w.heap.size w w77) := ⟨(by rw [hw]; exact (by repeat (first | (with_reducible first | exact HB.out | apply below_alloc | apply pw_below_drewN | apply below_drew1 | refine below_set ?_ GE212.out) | exact HB.out)))⟩; clear hw; clear HO_4; clear BK212; clear HB; have HO_4 := n0_; have BK212 := n1_; have HB := n2_; clear n0_ n1_ n2_; have hcz78_0 : w77.cell? ⟨gb212, 0, none⟩ = some (.int .i64 ((rd_T25 l0 x5_1).f0)) := (blk_cell BK212.out 0).trans rfl; have hcz78_1 : w77.cell? ⟨gb212, 1, none⟩ = some (.int .i64 ((rd_T25 l0 x5_1).f1)) := (blk_cell BK212.out 1).trans rfl; have hcz78_2 : w77.cell? ⟨gb212, 2, none⟩ = some (.string ((rd_T25 l0 x5_1).f2)) := (blk_cell BK212.out 2).trans rfl; have hfz78_0 := blk_frozen BK212.out 0; have hfz78_1 := blk_frozen BK212.out 1; have hfz78_2 := blk_frozen BK212.out 2) | ((with_reducible refine gate_callee (f := 17) rfl ?_); refine goesL_ (some 33) rfl rfl Try.func17 (by kernel_rfl) rfl #[.agg #[.int .i64 ((rd_T25 l0 x5_1).f0), .int .i64 ((rd_T25 l0 x5_1).f1), .string ((rd_T25 l0 x5_1).f2)]] rfl (by (try simp only [List.map_toArray, List.map_cons, List.map_nil]); first | done | rfl | (simp only [List.length_drop, List.length_take]; rfl)) ?_; (with_reducible refine (unisonref01_Right.calls ((rd_T25 l0 x5_1).f0) ((rd_T25 l0 x5_1).f1) ((rd_T25 l0 x5_1).f2) false _ A14.out).mono ?_); rintro e w79 ⟨rfl, hb⟩; refine ⟨_, rfl, ?_⟩; have n0_ := Aside0.mk (Kd.R_below (by (with_reducible repeat (first | apply Kd.R_alloc | apply Kd.R_drewN | apply Kd.R_drew)); exact HO_4.out) hb); have n1_ := Aside0.mk (blk_below (g := gb212) (o := .cells #[.int .i64 ((rd_T25 l0 x5_1).f0), .int .i64 ((rd_T25 l0 x5_1).f1), .string ((rd_T25 l0 x5_1).f2)] 25 (0, 0)) (by (with_reducible repeat (first | refine blk_drewN ?_ _ | refine blk_drew ?_ | refine blk_alloc ?_ _)); exact BK212.out) hb); have n2_ := Aside0.mk (below_step (by repeat (first | (with_reducible first | exact HB.out | apply below_alloc | apply pw_below_drewN | apply below_drew1 | refine below_set ?_ GE212.out) | exact HB.out)) hb); clear HO_4; clear BK212; clear HB; have HO_4 := n0_; have BK212 := n1_; have HB := n2_; clear n0_ n1_ n2_; (try clear hb); (try clear hb2); (try clear hk); (try clear hi)))
          go_ret2
          exact ⟨by first | rfl | (simp [errW_none, errW_some] <;> rfl) | (simp only [← hji3]; first | rfl | (simp [errW_none, errW_some] <;> rfl)) | (simp [*, errW_none, errW_some] <;> rfl), by repeat (first | (with_reducible first | exact HB.out | apply below_alloc | apply pw_below_drewN | apply below_drew1 | refine below_set ?_ GE212.out) | exact HB.out)⟩
        ·
         rw [if_neg c13] at H
         exact absurd H (by simp)
       ·
        rw [if_neg c12] at H
        have c12b0 : decide (x5_1 < (l0.length : Int)) = false := decide_eq_false c12
        clear c12
        simp only [Option.some.injEq, Prod.mk.injEq] at H
        obtain ⟨rfl, rfl⟩ := H
        have hcv80 := own_string (P := Try.prog) Try.underlying39 Try.underlying5 Try.underlying9 (Kd.own_of_R HO_4.out)
        go_wp2
        go_ret2
        exact ⟨by first | rfl | (simp [errW_none, errW_some] <;> rfl) | (simp only [← hji3]; first | rfl | (simp [errW_none, errW_some] <;> rfl)) | (simp [*, errW_none, errW_some] <;> rfl), by repeat (first | (with_reducible first | exact HB.out | apply below_alloc | apply pw_below_drewN | apply below_drew1) | exact HB.out)⟩
    ·
     rw [if_neg c6] at H
     exact absurd H (by simp)
   ·
    rw [if_neg c5] at H
    exact absurd H (by simp)
  ·
   rw [if_neg c4] at H
   exact absurd H (by simp)

end Go.Proofs.Ytlgobbofiingnaa.PA
