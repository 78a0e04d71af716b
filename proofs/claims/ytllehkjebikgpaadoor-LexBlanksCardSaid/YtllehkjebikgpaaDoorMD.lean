/- Several texts in one (merge.py): PFLSame, PFLAwake; no conditions beyond those in each theorem's head. -/
import Derived.Test.YtllehkjebikgpaaDoorPAx0
import Derived.Test.YtllehkjebikgpaaDoorPAxE
import Derived.Test.YtllehkjebikgpaaDoorXC
section
namespace Go.Proofs.YtllehkjebikgpaaDoor.PA
open Go.RowKit Go.Proofs.YtllehkjebikgpaaDoorW.PrintWords Go.Proofs.YtllehkjebikgpaaDoorW.PrintLast Go.Proofs.YtllehkjebikgpaaDoorW.PrintMore Go.Proofs.YtllehkjebikgpaaDoorX
attribute [local go_sem] max2_int min2_int max_two min_two max_three min_three max_four min_four   -- for this text's walks alone
set_option linter.unusedVariables false
set_option linter.unusedSimpArgs false
attribute [local go_sem high] eqA29

/-! ### unisonlaw10_same: function 17 -/
def unisonlaw10_same.l0 : Nat → List (S29) → List (S29) → Int → Option (Bool)
 | 0, _, _, _ => none
 | k + 1, x0, x1, x5 => if x5 < (x0.length : Int) then (if 0 ≤ x5 then (if x5 < (x1.length : Int) then (if (!(((rd_T29 x0 x5).f0) == ((rd_T29 x1 x5).f0)) || (!(((rd_T29 x0 x5).f1) == ((rd_T29 x1 x5).f1)) || (!((((rd_T29 x0 x5).f2).toList) == (((rd_T29 x1 x5).f2).toList)) || (!(((rd_T29 x0 x5).f3) == ((rd_T29 x1 x5).f3)))))) = true then (some false) else (unisonlaw10_same.l0 k x0 x1 (wrap64 (x5 + 1)))) else (none)) else (none)) else (some true)
def unisonlaw10_same.f (k : Nat) (l0 : List (S29)) (l1 : List (S29)) : Option (Bool) := if (l0.length : Int) = (l1.length : Int) then (unisonlaw10_same.l0 k l0 l1 0) else (some false)
theorem unisonlaw10_same.mono_l : ∀ k, (∀ y0 y1 y2, LeO (unisonlaw10_same.l0 k y0 y1 y2) (unisonlaw10_same.l0 (k + 1) y0 y1 y2))
 | 0 => fun _ _ _ r h => by simp [unisonlaw10_same.l0] at h
 | k + 1 => by
  have ih0 := unisonlaw10_same.mono_l k
  ·
   intro y0 y1 y2
   unfold unisonlaw10_same.l0
   repeat' first
   | (with_reducible exact ih0 _ _ _)
   | (with_reducible exact LeO.refl _)
   | (with_reducible exact LeO.none _)
   | (with_reducible refine LeO.ite ?_ ?_)
   | (with_reducible refine LeO.bind ?_ (fun _ => ?_))
   | exact ih0 _ _ _
   | exact LeO.none _
   | refine LeO.ite ?_ ?_
   | refine LeO.bind ?_ (fun _ => ?_)
theorem unisonlaw10_same.mono : ∀ a0 a1 k, LeO (unisonlaw10_same.f k a0 a1) (unisonlaw10_same.f (k + 1) a0 a1) := by
 intro a0 a1 k
 have ih0 := unisonlaw10_same.mono_l k
 unfold unisonlaw10_same.f
 repeat' first
   | (with_reducible exact ih0 _ _ _)
   | (with_reducible exact LeO.refl _)
   | (with_reducible exact LeO.none _)
   | (with_reducible refine LeO.ite ?_ ?_)
   | (with_reducible refine LeO.bind ?_ (fun _ => ?_))
   | exact ih0 _ _ _
   | exact LeO.none _
   | refine LeO.ite ?_ ?_
   | refine LeO.bind ?_ (fun _ => ?_)
set_option maxHeartbeats 8000000 in
set_option maxRecDepth 100000 in
theorem unisonlaw10_same.calls (k : Nat) (A0 : Option Addr) (c0 : Nat) (l0 : List (S29)) (A1 : Option Addr) (c1 : Nat) (l1 : List (S29)) (r : Bool) (w : World) (hr0 : Kd.C k29 w A0 l0.length l0) (hc0 : l0.length ≤ c0) (hr1 : Kd.C k29 w A1 l1.length l1) (hc1 : l1.length ≤ c1) (h : unisonlaw10_same.f k l0 l1 = some r) :
  Calls Tryd.prog 17 #[.slice A0 l0.length c0, .slice A1 l1.length c1] w fun e w' => e = .returned (.bool r) ∧ Drawn0 w w' := by
 have hu29 := Tryd.underlying29; have HR0 := Aside0.mk hr0; have HC0 := Aside0.mk hc0; clear hr0 hc0; have HR1 := Aside0.mk hr1; have HC1 := Aside0.mk hc1; clear hr1 hc1; have H : (if (l0.length : Int) = (l1.length : Int) then (unisonlaw10_same.l0 k l0 l1 0) else (some false)) = some r := h; clear h
 by_cases c3 : (l0.length : Int) = (l1.length : Int)
 ·
  rw [if_pos c3] at H
  have c3b0 : ((l0.length : Int) == (l1.length : Int)) = true := beq_iff_eq.mpr c3; have c3b1 : ((l0.length : Int) != (l1.length : Int)) = false := bne_eq_false_iff_eq.mpr c3
  have c3b2 : (l0.length == l1.length) = true := by first | simpa using c3 | (simp at c3 ⊢; omega)
  clear c3
  have H' := Aside0.mk H
  clear H
  go_enter Tryd.func17, Tryd.ntmps17
  go_wp2
  repeat (go_quiet (fail); try go_wp2)
  go_loopg [5] k (fun kq v5 w' => ∃ (x5_1 : Int), v5 = .int .i64 x5_1 ∧ Aside0 (unisonlaw10_same.l0 kq l0 l1 x5_1 = some r) ∧ Aside0 (kq ≤ k) ∧ Drawn0 w w')
  case atStart => exact ⟨(0), (by first | rfl | (simp; done) | (simp [*]; done)), H', ⟨Nat.le_refl _⟩, by repeat (first | exact Drawn0.refl _ | apply Drawn0.step)⟩
  case round =>
   clear H'
   (try clear c1); (try clear p2); (try clear c3); (try clear c3b0); (try clear c3b1); (try clear c3b2)
   obtain ⟨x5_1, rfl, HA, HK1, ⟨m1, rfl⟩⟩ := hrel
   cases gk with
   | zero => exact absurd HA.out (by simp [unisonlaw10_same.l0])
   | succ k1 =>
    have H := HA.out; clear HA
    simp only [unisonlaw10_same.l0] at H
    by_cases c4 : x5_1 < (l0.length : Int)
    ·
     rw [if_pos c4] at H
     have c4b0 : decide (x5_1 < (l0.length : Int)) = true := decide_eq_true c4; clear c4
     by_cases c5 : 0 ≤ x5_1
     ·
      rw [if_pos c5] at H
      have c5b0 : decide (0 ≤ x5_1) = true := decide_eq_true c5; clear c5
      by_cases c6 : x5_1 < (l1.length : Int)
      ·
       rw [if_pos c6] at H
       have c6b0 : decide (x5_1 < (l1.length : Int)) = true := decide_eq_true c6; clear c6
       by_cases c7 : (!(((rd_T29 l0 x5_1).f0) == ((rd_T29 l1 x5_1).f0)) || (!(((rd_T29 l0 x5_1).f1) == ((rd_T29 l1 x5_1).f1)) || (!((((rd_T29 l0 x5_1).f2).toList) == (((rd_T29 l1 x5_1).f2).toList)) || (!(((rd_T29 l0 x5_1).f3) == ((rd_T29 l1 x5_1).f3)))))) = true
       ·
        rw [if_pos c7] at H
        have c7b0 : (!(((rd_T29 l0 x5_1).f0) == ((rd_T29 l1 x5_1).f0)) || (!(((rd_T29 l0 x5_1).f1) == ((rd_T29 l1 x5_1).f1)) || (!((((rd_T29 l0 x5_1).f2).toList) == (((rd_T29 l1 x5_1).f2).toList)) || (!(((rd_T29 l0 x5_1).f3) == ((rd_T29 l1 x5_1).f3)))))) = true := c7; clear c7
        obtain rfl := Option.some.inj H
        have p101 : 0 ≤ (x5_1 : Int) := of_decide_eq_true (by first | (with_reducible assumption) | assumption); have q101 : x5_1 < (l0.length : Int) := of_decide_eq_true (by first | (with_reducible assumption) | assumption)
        obtain ⟨ad101, e101, hx101_0, hx101_1, hx101_2, hx101_3⟩ := at_T29 HR0.out x5_1 p101 q101
        cases e101
        replace p101 := eq_true p101; replace q101 := eq_true q101; have p102 : 0 ≤ (x5_1 : Int) := of_decide_eq_true (by first | (with_reducible assumption) | assumption); have q102 : x5_1 < (l1.length : Int) := of_decide_eq_true (by first | (with_reducible assumption) | assumption)
        obtain ⟨ad102, e102, hx102_0, hx102_1, hx102_2, hx102_3⟩ := at_T29 HR1.out x5_1 p102 q102
        cases e102
        replace p102 := eq_true p102; replace q102 := eq_true q102
        go_wp2
        repeat (go_quiet (fail); try go_wp2)
        go_ret
        exact ⟨by first | rfl | (simp; done) | (simp [*]; done), by repeat (first | exact Drawn0.refl _ | apply Drawn0.step)⟩
       ·
        rw [if_neg c7] at H
        have c7b0 : (!(((rd_T29 l0 x5_1).f0) == ((rd_T29 l1 x5_1).f0)) || (!(((rd_T29 l0 x5_1).f1) == ((rd_T29 l1 x5_1).f1)) || (!((((rd_T29 l0 x5_1).f2).toList) == (((rd_T29 l1 x5_1).f2).toList)) || (!(((rd_T29 l0 x5_1).f3) == ((rd_T29 l1 x5_1).f3)))))) = false := by simpa using c7
        clear c7
        have H' := Aside0.mk H
        clear H; have p101 : 0 ≤ (x5_1 : Int) := of_decide_eq_true (by first | (with_reducible assumption) | assumption); have q101 : x5_1 < (l0.length : Int) := of_decide_eq_true (by first | (with_reducible assumption) | assumption)
        obtain ⟨ad101, e101, hx101_0, hx101_1, hx101_2, hx101_3⟩ := at_T29 HR0.out x5_1 p101 q101
        cases e101
        replace p101 := eq_true p101; replace q101 := eq_true q101; have p102 : 0 ≤ (x5_1 : Int) := of_decide_eq_true (by first | (with_reducible assumption) | assumption); have q102 : x5_1 < (l1.length : Int) := of_decide_eq_true (by first | (with_reducible assumption) | assumption)
        obtain ⟨ad102, e102, hx102_0, hx102_1, hx102_2, hx102_3⟩ := at_T29 HR1.out x5_1 p102 q102
        cases e102
        replace p102 := eq_true p102; replace q102 := eq_true q102
        go_wp2
        repeat (go_quiet (fail); try go_wp2)
        go_roundg k1
        case measure => have := HK1.out; omega
        case rel => exact ⟨(wrap64 (x5_1 + 1)), (by first | rfl | (simp; done) | (simp [*]; done)), H', ⟨by have := HK1.out; omega⟩, by repeat (first | exact Drawn0.refl _ | apply Drawn0.step)⟩
      ·
       rw [if_neg c6] at H
       exact absurd H (by simp)
     ·
      rw [if_neg c5] at H
      exact absurd H (by simp)
    ·
     rw [if_neg c4] at H
     have c4b0 : decide (x5_1 < (l0.length : Int)) = false := decide_eq_false c4; clear c4
     obtain rfl := Option.some.inj H
     go_wp2
     repeat (go_quiet (fail); try go_wp2)
     go_ret
     exact ⟨by first | rfl | (simp; done) | (simp [*]; done), by repeat (first | exact Drawn0.refl _ | apply Drawn0.step)⟩
 ·
  rw [if_neg c3] at H
  have c3b0 : ((l0.length : Int) == (l1.length : Int)) = false := beq_eq_false_iff_ne.mpr c3; have c3b1 : ((l0.length : Int) != (l1.length : Int)) = true := bne_iff_ne.mpr c3
  have c3b2 : (l0.length == l1.length) = false := by first | simpa using c3 | (simp at c3 ⊢; omega)
  obtain rfl := Option.some.inj H
  go_enter Tryd.func17, Tryd.ntmps17
  go_wp2
  repeat (go_quiet (fail); try go_wp2)
  go_ret
  exact ⟨by first | rfl | (simp; done) | (simp [*]; done), by repeat (first | exact Drawn0.refl _ | apply Drawn0.step)⟩
end Go.Proofs.YtllehkjebikgpaaDoor.PA
end
section
namespace Go.Proofs.YtllehkjebikgpaaDoor.PA
open Go.RowKit Go.Proofs.YtllehkjebikgpaaDoorW.PrintWords Go.Proofs.YtllehkjebikgpaaDoorW.PrintLast Go.Proofs.YtllehkjebikgpaaDoorW.PrintMore Go.Proofs.YtllehkjebikgpaaDoorX
attribute [local go_sem] max2_int min2_int max_two min_two max_three min_three max_four min_four   -- for this text's walks alone
set_option linter.unusedVariables false
set_option linter.unusedSimpArgs false
attribute [local go_sem high] eqA29
/-! ### unisonlaw10_awake: function 8 -/
def unisonlaw10_awake.f (k : Nat)  : Option (Bool) := (lex_Scan.f k (⟨#[97, 60, 61, 58, 112, 32, 45, 45, 32, 120]⟩ : ByteArray)).bind fun bt103 => ((unisonlaw10_same.f k bt103.1 (([(⟨3, 0, (⟨#[97]⟩ : ByteArray), 0⟩ : S29), (⟨7, 0, (⟨#[60, 61]⟩ : ByteArray), 1⟩ : S29), (⟨6, 0, (⟨#[112]⟩ : ByteArray), 3⟩ : S29), (⟨1, 0, (⟨#[]⟩ : ByteArray), 10⟩ : S29)] : List (S29)))).bind fun t111 => ((lex_Scan.f k (⟨#[97, 32, 33, 32, 98]⟩ : ByteArray)).bind fun bt112 => (if t111 = true then (if bt103.2.1 = 0 then (if bt103.2.2 = 0 then (if bt112.2.1 = 2 then (some (bt112.2.2 == 100)) else (some false)) else (some false)) else (some false)) else (some false))))
theorem unisonlaw10_awake.mono : ∀ k, LeO (unisonlaw10_awake.f k ) (unisonlaw10_awake.f (k + 1) ) := by
 intro  k
 unfold unisonlaw10_awake.f
 repeat' first
   | (with_reducible exact lex_Scan.mono _ _)
   | (with_reducible exact unisonlaw10_same.mono _ _ _)
   | (with_reducible exact LeO.refl _)
   | (with_reducible exact LeO.none _)
   | (with_reducible refine LeO.ite ?_ ?_)
   | (with_reducible refine LeO.bind ?_ (fun _ => ?_))
   | exact lex_Scan.mono _ _
   | exact unisonlaw10_same.mono _ _ _
   | exact LeO.none _
   | refine LeO.ite ?_ ?_
   | refine LeO.bind ?_ (fun _ => ?_)
set_option maxHeartbeats 8000000 in
set_option maxRecDepth 100000 in
theorem unisonlaw10_awake.calls (k : Nat)  (r : Bool) (w : World) (h : unisonlaw10_awake.f k  = some r) (HG0 : Gw w) :
  Calls Tryd.prog 8 #[] w fun e w' => e = .returned (.bool r) ∧ Below w.heap.size w w' := by
 have HG := Aside0.mk HG0
 clear HG0
 have hu29 := Tryd.underlying29; have HB := Aside0.mk (Below.refl w.heap.size w); have H : ((lex_Scan.f k (⟨#[97, 60, 61, 58, 112, 32, 45, 45, 32, 120]⟩ : ByteArray)).bind fun bt103 => ((unisonlaw10_same.f k bt103.1 (([(⟨3, 0, (⟨#[97]⟩ : ByteArray), 0⟩ : S29), (⟨7, 0, (⟨#[60, 61]⟩ : ByteArray), 1⟩ : S29), (⟨6, 0, (⟨#[112]⟩ : ByteArray), 3⟩ : S29), (⟨1, 0, (⟨#[]⟩ : ByteArray), 10⟩ : S29)] : List (S29)))).bind fun t111 => ((lex_Scan.f k (⟨#[97, 32, 33, 32, 98]⟩ : ByteArray)).bind fun bt112 => (if t111 = true then (if bt103.2.1 = 0 then (if bt103.2.2 = 0 then (if bt112.2.1 = 2 then (some (bt112.2.2 == 100)) else (some false)) else (some false)) else (some false)) else (some false))))) = some r := h; clear h; replace H := Option.bind_eq_some_iff.mp H
 obtain ⟨⟨t103, t104, t105⟩, A10, H⟩ := H
 replace H : ((unisonlaw10_same.f k t103 (([(⟨3, 0, (⟨#[97]⟩ : ByteArray), 0⟩ : S29), (⟨7, 0, (⟨#[60, 61]⟩ : ByteArray), 1⟩ : S29), (⟨6, 0, (⟨#[112]⟩ : ByteArray), 3⟩ : S29), (⟨1, 0, (⟨#[]⟩ : ByteArray), 10⟩ : S29)] : List (S29)))).bind fun t111 => ((lex_Scan.f k (⟨#[97, 32, 33, 32, 98]⟩ : ByteArray)).bind fun bt112 => (if t111 = true then (if t104 = 0 then (if t105 = 0 then (if bt112.2.1 = 2 then (some (bt112.2.2 == 100)) else (some false)) else (some false)) else (some false)) else (some false)))) = some r := H; have A1 := Aside0.mk A10; clear A10
 obtain ⟨y108, hy108⟩ : ∃ y_ : List (S29), y_ = (([(⟨3, 0, (⟨#[97]⟩ : ByteArray), 0⟩ : S29), (⟨7, 0, (⟨#[60, 61]⟩ : ByteArray), 1⟩ : S29), (⟨6, 0, (⟨#[112]⟩ : ByteArray), 3⟩ : S29), (⟨1, 0, (⟨#[]⟩ : ByteArray), 10⟩ : S29)] : List (S29))) := ⟨_, rfl⟩
 replace H : ((unisonlaw10_same.f k t103 y108).bind fun t111 => ((lex_Scan.f k (⟨#[97, 32, 33, 32, 98]⟩ : ByteArray)).bind fun bt112 => (if t111 = true then (if t104 = 0 then (if t105 = 0 then (if bt112.2.1 = 2 then (some (bt112.2.2 == 100)) else (some false)) else (some false)) else (some false)) else (some false)))) = some r := by first | (rw [hy108]; with_reducible exact H) | (have H2_ := (Option.bind_some _ _).symm.trans H; rw [hy108]; with_reducible exact H2_) | (have H2_ := (Option.bind_some _ _).symm.trans H; with_reducible exact H2_) | with_reducible exact H | (rw [hy108]; exact H) | exact H
 have Ny108 := Aside0.mk hy108; clear hy108; replace H := Option.bind_eq_some_iff.mp H
 obtain ⟨t111, A20, H⟩ := H
 replace H : ((lex_Scan.f k (⟨#[97, 32, 33, 32, 98]⟩ : ByteArray)).bind fun bt112 => (if t111 = true then (if t104 = 0 then (if t105 = 0 then (if bt112.2.1 = 2 then (some (bt112.2.2 == 100)) else (some false)) else (some false)) else (some false)) else (some false))) = some r := H; have A2 := Aside0.mk A20; clear A20; replace H := Option.bind_eq_some_iff.mp H
 obtain ⟨⟨t112, t113, t114⟩, A30, H⟩ := H
 replace H : (if t111 = true then (if t104 = 0 then (if t105 = 0 then (if t113 = 2 then (some (t114 == 100)) else (some false)) else (some false)) else (some false)) else (some false)) = some r := H; have A3 := Aside0.mk A30; clear A30
 by_cases c4 : t111 = true
 ·
  subst c4
  have H1 : (if t104 = 0 then (if t105 = 0 then (if t113 = 2 then (some (t114 == 100)) else (some false)) else (some false)) else (some false)) = some r := by rw [if_pos rfl] at H; exact H
  clear H; have H := H1; clear H1
  by_cases c5 : t104 = 0
  ·
   rw [if_pos c5] at H
   have c5b0 : (t104 == 0) = true := beq_iff_eq.mpr c5; have c5b1 : (t104 != 0) = false := bne_eq_false_iff_eq.mpr c5; clear c5
   by_cases c6 : t105 = 0
   ·
    rw [if_pos c6] at H
    have c6b0 : (t105 == 0) = true := beq_iff_eq.mpr c6; have c6b1 : (t105 != 0) = false := bne_eq_false_iff_eq.mpr c6; clear c6
    by_cases c7 : t113 = 2
    ·
     rw [if_pos c7] at H
     have c7b0 : (t113 == 2) = true := beq_iff_eq.mpr c7; have c7b1 : (t113 != 2) = false := bne_eq_false_iff_eq.mpr c7; clear c7
     obtain rfl := Option.some.inj H
     go_enter Tryd.func8, Tryd.ntmps8
     go_wp2_with (first | ((with_reducible refine gate_callee (f := 13) rfl ?_); refine gL (some 10) Tryd.func13 #[.string (⟨#[97, 60, 61, 58, 112, 32, 45, 45, 32, 120]⟩ : ByteArray)] ?_; (with_reducible refine (lex_Scan.calls k (⟨#[97, 60, 61, 58, 112, 32, 45, 45, 32, 120]⟩ : ByteArray) t103 t104 t105 _ A1.out (gk HG)).mono ?_); rintro e w8 ⟨v106, rfl, ho0, hb⟩; refine ⟨_, rfl, ?_⟩; have HO107 := Aside0.mk (Kd.R_lower ho0 (below_size bel)); replace HB := bs hb; (try clear hb); (try clear hb2); (try clear hk); (try clear hi); (try clear ho0)) | ((with_reducible refine gate_dst (N := 18) rfl ?_); refine Kd.R_lit k29 _ 29 ?hg (N := 18) ?hd (xs := ([(⟨3, 0, (⟨#[97]⟩ : ByteArray), 0⟩ : S29), (⟨7, 0, (⟨#[60, 61]⟩ : ByteArray), 1⟩ : S29), (⟨6, 0, (⟨#[112]⟩ : ByteArray), 3⟩ : S29), (⟨1, 0, (⟨#[]⟩ : ByteArray), 10⟩ : S29)] : List (S29))) (inner := [.int .i64 3, .int .i64 0, .string (⟨#[97]⟩ : ByteArray), .int .i64 0, .int .i64 7, .int .i64 0, .string (⟨#[60, 61]⟩ : ByteArray), .int .i64 1, .int .i64 6, .int .i64 0, .string (⟨#[112]⟩ : ByteArray), .int .i64 3, .int .i64 1, .int .i64 0, .string (⟨#[]⟩ : ByteArray), .int .i64 10]) (ok := fun _ => True) (okp := fun _ => True) ?hr ?hp (fun _ hk => hk) trivial (Below.refl _ _) (Nat.le_refl _) (by simp) ?_; (case hd => rfl); (case hg => rfl); (case hr => first | (go_simp; done) | (go_simp; rfl)); (case hp => exact (Reps.c4 (show Kd.M k29 _ _ _ (⟨3, 0, (⟨#[97]⟩ : ByteArray), 0⟩ : S29) [.int .i64 3, .int .i64 0, .string (⟨#[97]⟩ : ByteArray), .int .i64 0] from (k29_mkM _ _ _ (⟨3, 0, (⟨#[97]⟩ : ByteArray), 0⟩ : S29) )) (Reps.c4 (show Kd.M k29 _ _ _ (⟨7, 0, (⟨#[60, 61]⟩ : ByteArray), 1⟩ : S29) [.int .i64 7, .int .i64 0, .string (⟨#[60, 61]⟩ : ByteArray), .int .i64 1] from (k29_mkM _ _ _ (⟨7, 0, (⟨#[60, 61]⟩ : ByteArray), 1⟩ : S29) )) (Reps.c4 (show Kd.M k29 _ _ _ (⟨6, 0, (⟨#[112]⟩ : ByteArray), 3⟩ : S29) [.int .i64 6, .int .i64 0, .string (⟨#[112]⟩ : ByteArray), .int .i64 3] from (k29_mkM _ _ _ (⟨6, 0, (⟨#[112]⟩ : ByteArray), 3⟩ : S29) )) (Reps.c4 (show Kd.M k29 _ _ _ (⟨1, 0, (⟨#[]⟩ : ByteArray), 10⟩ : S29) [.int .i64 1, .int .i64 0, .string (⟨#[]⟩ : ByteArray), .int .i64 10] from (k29_mkM _ _ _ (⟨1, 0, (⟨#[]⟩ : ByteArray), 10⟩ : S29) )) (Reps.none _ _)))))); intro v109 w9 ho10 hb hg_ hnew_; clear hg_ hnew_; (first | rw [← Ny108.out] at ho10 | (simp only [Int.reduceToNat] at ho10; rw [← Ny108.out] at ho10)); have HO110 := Aside0.mk (Kd.R_lower (Kd.R_new' ho10 (Kd.R_lt (by (with_reducible repeat (first | apply Kd.R_alloc | apply Kd.R_drewN | apply Kd.R_drew)); exact HO107.out))) (below_size bel)); replace HO107 := Aside0.mk (Kd.R_elder' (by (with_reducible repeat (first | apply Kd.R_alloc | apply Kd.R_drewN | apply Kd.R_drew)); exact HO107.out) (Kd.R_base ho10) hb); replace HB := bs hb; clear hb ho10; obtain ⟨Ao11, co11, eo11⟩ := Kd.R_slice HO107.out; subst eo11; obtain ⟨Ao12, co12, eo12⟩ := Kd.R_slice HO110.out; subst eo12) | ((with_reducible refine gate_callee (f := 17) rfl ?_); refine gL (some 21) Tryd.func17 #[.slice Ao11 t103.length co11, .slice Ao12 y108.length co12] ?_; (with_reducible refine (unisonlaw10_same.calls k _ _ t103 _ _ y108 true _ ?side1 ?side2 ?side3 ?side4 A2.out).mono ?_); (case side1 => repeat (first | exact (Kd.R_reads' HO107.out).2.2 | (with_reducible refine Kd.C_alloc ?_ _) | (with_reducible refine Kd.C_drewN ?_ _) | (with_reducible refine Kd.C_drew ?_))); (case side2 => exact (Kd.R_reads' HO107.out).2.1); (case side3 => repeat (first | exact (Kd.R_reads' HO110.out).2.2 | (with_reducible refine Kd.C_alloc ?_ _) | (with_reducible refine Kd.C_drewN ?_ _) | (with_reducible refine Kd.C_drew ?_))); (case side4 => exact (Kd.R_reads' HO110.out).2.1); rintro e w' ⟨rfl, ⟨nd, rfl⟩⟩; refine ⟨_, rfl, ?_⟩) | ((with_reducible refine gate_callee (f := 13) rfl ?_); refine gL (some 23) Tryd.func13 #[.string (⟨#[97, 32, 33, 32, 98]⟩ : ByteArray)] ?_; (with_reducible refine (lex_Scan.calls k (⟨#[97, 32, 33, 32, 98]⟩ : ByteArray) t112 t113 t114 _ A3.out (gk HG)).mono ?_); rintro e w13 ⟨v115, rfl, ho0, hb⟩; refine ⟨_, rfl, ?_⟩; have HO116 := Aside0.mk (Kd.R_lower (Kd.R_new' (Kd.R_new' ho0 (Kd.R_lt (by (with_reducible repeat (first | apply Kd.R_alloc | apply Kd.R_drewN | apply Kd.R_drew)); exact HO107.out))) (Kd.R_lt (by (with_reducible repeat (first | apply Kd.R_alloc | apply Kd.R_drewN | apply Kd.R_drew)); exact HO110.out))) (below_size bel)); replace HO107 := Aside0.mk (Kd.R_elder' (by (with_reducible repeat (first | apply Kd.R_alloc | apply Kd.R_drewN | apply Kd.R_drew)); exact HO107.out) (Kd.R_base ho0) hb); replace HO110 := Aside0.mk (Kd.R_elder' (by (with_reducible repeat (first | apply Kd.R_alloc | apply Kd.R_drewN | apply Kd.R_drew)); exact HO110.out) (Kd.R_base ho0) hb); replace HB := bs hb; (try clear hb); (try clear hb2); (try clear hk); (try clear hi); (try clear ho0)))
     go_ret
     exact ⟨by first | rfl | (simp [errW_none, errW_some] <;> rfl) | (simp [*, errW_none, errW_some] <;> rfl), by repeat (first | (with_reducible first | exact HB.out | apply below_alloc | apply pw_below_drewN | apply below_drew1) | exact HB.out)⟩
    ·
     rw [if_neg c7] at H
     have c7b0 : (t113 == 2) = false := beq_eq_false_iff_ne.mpr c7; have c7b1 : (t113 != 2) = true := bne_iff_ne.mpr c7
     obtain rfl := Option.some.inj H
     go_enter Tryd.func8, Tryd.ntmps8
     go_wp2_with (first | ((with_reducible refine gate_callee (f := 13) rfl ?_); refine gL (some 10) Tryd.func13 #[.string (⟨#[97, 60, 61, 58, 112, 32, 45, 45, 32, 120]⟩ : ByteArray)] ?_; (with_reducible refine (lex_Scan.calls k (⟨#[97, 60, 61, 58, 112, 32, 45, 45, 32, 120]⟩ : ByteArray) t103 t104 t105 _ A1.out (gk HG)).mono ?_); rintro e w14 ⟨v106, rfl, ho0, hb⟩; refine ⟨_, rfl, ?_⟩; have HO107 := Aside0.mk (Kd.R_lower ho0 (below_size bel)); replace HB := bs hb; (try clear hb); (try clear hb2); (try clear hk); (try clear hi); (try clear ho0)) | ((with_reducible refine gate_dst (N := 18) rfl ?_); refine Kd.R_lit k29 _ 29 ?hg (N := 18) ?hd (xs := ([(⟨3, 0, (⟨#[97]⟩ : ByteArray), 0⟩ : S29), (⟨7, 0, (⟨#[60, 61]⟩ : ByteArray), 1⟩ : S29), (⟨6, 0, (⟨#[112]⟩ : ByteArray), 3⟩ : S29), (⟨1, 0, (⟨#[]⟩ : ByteArray), 10⟩ : S29)] : List (S29))) (inner := [.int .i64 3, .int .i64 0, .string (⟨#[97]⟩ : ByteArray), .int .i64 0, .int .i64 7, .int .i64 0, .string (⟨#[60, 61]⟩ : ByteArray), .int .i64 1, .int .i64 6, .int .i64 0, .string (⟨#[112]⟩ : ByteArray), .int .i64 3, .int .i64 1, .int .i64 0, .string (⟨#[]⟩ : ByteArray), .int .i64 10]) (ok := fun _ => True) (okp := fun _ => True) ?hr ?hp (fun _ hk => hk) trivial (Below.refl _ _) (Nat.le_refl _) (by simp) ?_; (case hd => rfl); (case hg => rfl); (case hr => first | (go_simp; done) | (go_simp; rfl)); (case hp => exact (Reps.c4 (show Kd.M k29 _ _ _ (⟨3, 0, (⟨#[97]⟩ : ByteArray), 0⟩ : S29) [.int .i64 3, .int .i64 0, .string (⟨#[97]⟩ : ByteArray), .int .i64 0] from (k29_mkM _ _ _ (⟨3, 0, (⟨#[97]⟩ : ByteArray), 0⟩ : S29) )) (Reps.c4 (show Kd.M k29 _ _ _ (⟨7, 0, (⟨#[60, 61]⟩ : ByteArray), 1⟩ : S29) [.int .i64 7, .int .i64 0, .string (⟨#[60, 61]⟩ : ByteArray), .int .i64 1] from (k29_mkM _ _ _ (⟨7, 0, (⟨#[60, 61]⟩ : ByteArray), 1⟩ : S29) )) (Reps.c4 (show Kd.M k29 _ _ _ (⟨6, 0, (⟨#[112]⟩ : ByteArray), 3⟩ : S29) [.int .i64 6, .int .i64 0, .string (⟨#[112]⟩ : ByteArray), .int .i64 3] from (k29_mkM _ _ _ (⟨6, 0, (⟨#[112]⟩ : ByteArray), 3⟩ : S29) )) (Reps.c4 (show Kd.M k29 _ _ _ (⟨1, 0, (⟨#[]⟩ : ByteArray), 10⟩ : S29) [.int .i64 1, .int .i64 0, .string (⟨#[]⟩ : ByteArray), .int .i64 10] from (k29_mkM _ _ _ (⟨1, 0, (⟨#[]⟩ : ByteArray), 10⟩ : S29) )) (Reps.none _ _)))))); intro v109 w15 ho16 hb hg_ hnew_; clear hg_ hnew_; (first | rw [← Ny108.out] at ho16 | (simp only [Int.reduceToNat] at ho16; rw [← Ny108.out] at ho16)); have HO110 := Aside0.mk (Kd.R_lower (Kd.R_new' ho16 (Kd.R_lt (by (with_reducible repeat (first | apply Kd.R_alloc | apply Kd.R_drewN | apply Kd.R_drew)); exact HO107.out))) (below_size bel)); replace HO107 := Aside0.mk (Kd.R_elder' (by (with_reducible repeat (first | apply Kd.R_alloc | apply Kd.R_drewN | apply Kd.R_drew)); exact HO107.out) (Kd.R_base ho16) hb); replace HB := bs hb; clear hb ho16; obtain ⟨Ao17, co17, eo17⟩ := Kd.R_slice HO107.out; subst eo17; obtain ⟨Ao18, co18, eo18⟩ := Kd.R_slice HO110.out; subst eo18) | ((with_reducible refine gate_callee (f := 17) rfl ?_); refine gL (some 21) Tryd.func17 #[.slice Ao17 t103.length co17, .slice Ao18 y108.length co18] ?_; (with_reducible refine (unisonlaw10_same.calls k _ _ t103 _ _ y108 true _ ?side1 ?side2 ?side3 ?side4 A2.out).mono ?_); (case side1 => repeat (first | exact (Kd.R_reads' HO107.out).2.2 | (with_reducible refine Kd.C_alloc ?_ _) | (with_reducible refine Kd.C_drewN ?_ _) | (with_reducible refine Kd.C_drew ?_))); (case side2 => exact (Kd.R_reads' HO107.out).2.1); (case side3 => repeat (first | exact (Kd.R_reads' HO110.out).2.2 | (with_reducible refine Kd.C_alloc ?_ _) | (with_reducible refine Kd.C_drewN ?_ _) | (with_reducible refine Kd.C_drew ?_))); (case side4 => exact (Kd.R_reads' HO110.out).2.1); rintro e w' ⟨rfl, ⟨nd, rfl⟩⟩; refine ⟨_, rfl, ?_⟩) | ((with_reducible refine gate_callee (f := 13) rfl ?_); refine gL (some 23) Tryd.func13 #[.string (⟨#[97, 32, 33, 32, 98]⟩ : ByteArray)] ?_; (with_reducible refine (lex_Scan.calls k (⟨#[97, 32, 33, 32, 98]⟩ : ByteArray) t112 t113 t114 _ A3.out (gk HG)).mono ?_); rintro e w19 ⟨v115, rfl, ho0, hb⟩; refine ⟨_, rfl, ?_⟩; have HO116 := Aside0.mk (Kd.R_lower (Kd.R_new' (Kd.R_new' ho0 (Kd.R_lt (by (with_reducible repeat (first | apply Kd.R_alloc | apply Kd.R_drewN | apply Kd.R_drew)); exact HO107.out))) (Kd.R_lt (by (with_reducible repeat (first | apply Kd.R_alloc | apply Kd.R_drewN | apply Kd.R_drew)); exact HO110.out))) (below_size bel)); replace HO107 := Aside0.mk (Kd.R_elder' (by (with_reducible repeat (first | apply Kd.R_alloc | apply Kd.R_drewN | apply Kd.R_drew)); exact HO107.out) (Kd.R_base ho0) hb); replace HO110 := Aside0.mk (Kd.R_elder' (by (with_reducible repeat (first | apply Kd.R_alloc | apply Kd.R_drewN | apply Kd.R_drew)); exact HO110.out) (Kd.R_base ho0) hb); replace HB := bs hb; (try clear hb); (try clear hb2); (try clear hk); (try clear hi); (try clear ho0)))
     go_ret
     exact ⟨by first | rfl | (simp [errW_none, errW_some] <;> rfl) | (simp [*, errW_none, errW_some] <;> rfl), by repeat (first | (with_reducible first | exact HB.out | apply below_alloc | apply pw_below_drewN | apply below_drew1) | exact HB.out)⟩
   ·
    rw [if_neg c6] at H
    have c6b0 : (t105 == 0) = false := beq_eq_false_iff_ne.mpr c6; have c6b1 : (t105 != 0) = true := bne_iff_ne.mpr c6
    obtain rfl := Option.some.inj H
    go_enter Tryd.func8, Tryd.ntmps8
    go_wp2_with (first | ((with_reducible refine gate_callee (f := 13) rfl ?_); refine gL (some 10) Tryd.func13 #[.string (⟨#[97, 60, 61, 58, 112, 32, 45, 45, 32, 120]⟩ : ByteArray)] ?_; (with_reducible refine (lex_Scan.calls k (⟨#[97, 60, 61, 58, 112, 32, 45, 45, 32, 120]⟩ : ByteArray) t103 t104 t105 _ A1.out (gk HG)).mono ?_); rintro e w20 ⟨v106, rfl, ho0, hb⟩; refine ⟨_, rfl, ?_⟩; have HO107 := Aside0.mk (Kd.R_lower ho0 (below_size bel)); replace HB := bs hb; (try clear hb); (try clear hb2); (try clear hk); (try clear hi); (try clear ho0)) | ((with_reducible refine gate_dst (N := 18) rfl ?_); refine Kd.R_lit k29 _ 29 ?hg (N := 18) ?hd (xs := ([(⟨3, 0, (⟨#[97]⟩ : ByteArray), 0⟩ : S29), (⟨7, 0, (⟨#[60, 61]⟩ : ByteArray), 1⟩ : S29), (⟨6, 0, (⟨#[112]⟩ : ByteArray), 3⟩ : S29), (⟨1, 0, (⟨#[]⟩ : ByteArray), 10⟩ : S29)] : List (S29))) (inner := [.int .i64 3, .int .i64 0, .string (⟨#[97]⟩ : ByteArray), .int .i64 0, .int .i64 7, .int .i64 0, .string (⟨#[60, 61]⟩ : ByteArray), .int .i64 1, .int .i64 6, .int .i64 0, .string (⟨#[112]⟩ : ByteArray), .int .i64 3, .int .i64 1, .int .i64 0, .string (⟨#[]⟩ : ByteArray), .int .i64 10]) (ok := fun _ => True) (okp := fun _ => True) ?hr ?hp (fun _ hk => hk) trivial (Below.refl _ _) (Nat.le_refl _) (by simp) ?_; (case hd => rfl); (case hg => rfl); (case hr => first | (go_simp; done) | (go_simp; rfl)); (case hp => exact (Reps.c4 (show Kd.M k29 _ _ _ (⟨3, 0, (⟨#[97]⟩ : ByteArray), 0⟩ : S29) [.int .i64 3, .int .i64 0, .string (⟨#[97]⟩ : ByteArray), .int .i64 0] from (k29_mkM _ _ _ (⟨3, 0, (⟨#[97]⟩ : ByteArray), 0⟩ : S29) )) (Reps.c4 (show Kd.M k29 _ _ _ (⟨7, 0, (⟨#[60, 61]⟩ : ByteArray), 1⟩ : S29) [.int .i64 7, .int .i64 0, .string (⟨#[60, 61]⟩ : ByteArray), .int .i64 1] from (k29_mkM _ _ _ (⟨7, 0, (⟨#[60, 61]⟩ : ByteArray), 1⟩ : S29) )) (Reps.c4 (show Kd.M k29 _ _ _ (⟨6, 0, (⟨#[112]⟩ : ByteArray), 3⟩ : S29) [.int .i64 6, .int .i64 0, .string (⟨#[112]⟩ : ByteArray), .int .i64 3] from (k29_mkM _ _ _ (⟨6, 0, (⟨#[112]⟩ : ByteArray), 3⟩ : S29) )) (Reps.c4 (show Kd.M k29 _ _ _ (⟨1, 0, (⟨#[]⟩ : ByteArray), 10⟩ : S29) [.int .i64 1, .int .i64 0, .string (⟨#[]⟩ : ByteArray), .int .i64 10] from (k29_mkM _ _ _ (⟨1, 0, (⟨#[]⟩ : ByteArray), 10⟩ : S29) )) (Reps.none _ _)))))); intro v109 w21 ho22 hb hg_ hnew_; clear hg_ hnew_; (first | rw [← Ny108.out] at ho22 | (simp only [Int.reduceToNat] at ho22; rw [← Ny108.out] at ho22)); have HO110 := Aside0.mk (Kd.R_lower (Kd.R_new' ho22 (Kd.R_lt (by (with_reducible repeat (first | apply Kd.R_alloc | apply Kd.R_drewN | apply Kd.R_drew)); exact HO107.out))) (below_size bel)); replace HO107 := Aside0.mk (Kd.R_elder' (by (with_reducible repeat (first | apply Kd.R_alloc | apply Kd.R_drewN | apply Kd.R_drew)); exact HO107.out) (Kd.R_base ho22) hb); replace HB := bs hb; clear hb ho22; obtain ⟨Ao23, co23, eo23⟩ := Kd.R_slice HO107.out; subst eo23; obtain ⟨Ao24, co24, eo24⟩ := Kd.R_slice HO110.out; subst eo24) | ((with_reducible refine gate_callee (f := 17) rfl ?_); refine gL (some 21) Tryd.func17 #[.slice Ao23 t103.length co23, .slice Ao24 y108.length co24] ?_; (with_reducible refine (unisonlaw10_same.calls k _ _ t103 _ _ y108 true _ ?side1 ?side2 ?side3 ?side4 A2.out).mono ?_); (case side1 => repeat (first | exact (Kd.R_reads' HO107.out).2.2 | (with_reducible refine Kd.C_alloc ?_ _) | (with_reducible refine Kd.C_drewN ?_ _) | (with_reducible refine Kd.C_drew ?_))); (case side2 => exact (Kd.R_reads' HO107.out).2.1); (case side3 => repeat (first | exact (Kd.R_reads' HO110.out).2.2 | (with_reducible refine Kd.C_alloc ?_ _) | (with_reducible refine Kd.C_drewN ?_ _) | (with_reducible refine Kd.C_drew ?_))); (case side4 => exact (Kd.R_reads' HO110.out).2.1); rintro e w' ⟨rfl, ⟨nd, rfl⟩⟩; refine ⟨_, rfl, ?_⟩) | ((with_reducible refine gate_callee (f := 13) rfl ?_); refine gL (some 23) Tryd.func13 #[.string (⟨#[97, 32, 33, 32, 98]⟩ : ByteArray)] ?_; (with_reducible refine (lex_Scan.calls k (⟨#[97, 32, 33, 32, 98]⟩ : ByteArray) t112 t113 t114 _ A3.out (gk HG)).mono ?_); rintro e w25 ⟨v115, rfl, ho0, hb⟩; refine ⟨_, rfl, ?_⟩; have HO116 := Aside0.mk (Kd.R_lower (Kd.R_new' (Kd.R_new' ho0 (Kd.R_lt (by (with_reducible repeat (first | apply Kd.R_alloc | apply Kd.R_drewN | apply Kd.R_drew)); exact HO107.out))) (Kd.R_lt (by (with_reducible repeat (first | apply Kd.R_alloc | apply Kd.R_drewN | apply Kd.R_drew)); exact HO110.out))) (below_size bel)); replace HO107 := Aside0.mk (Kd.R_elder' (by (with_reducible repeat (first | apply Kd.R_alloc | apply Kd.R_drewN | apply Kd.R_drew)); exact HO107.out) (Kd.R_base ho0) hb); replace HO110 := Aside0.mk (Kd.R_elder' (by (with_reducible repeat (first | apply Kd.R_alloc | apply Kd.R_drewN | apply Kd.R_drew)); exact HO110.out) (Kd.R_base ho0) hb); replace HB := bs hb; (try clear hb); (try clear hb2); (try clear hk); (try clear hi); (try clear ho0)))
    go_ret
    exact ⟨by first | rfl | (simp [errW_none, errW_some] <;> rfl) | (simp [*, errW_none, errW_some] <;> rfl), by repeat (first | (with_reducible first | exact HB.out | apply below_alloc | apply pw_below_drewN | apply below_drew1) | exact HB.out)⟩
  ·
   rw [if_neg c5] at H
   have c5b0 : (t104 == 0) = false := beq_eq_false_iff_ne.mpr c5; have c5b1 : (t104 != 0) = true := bne_iff_ne.mpr c5
   obtain rfl := Option.some.inj H
   go_enter Tryd.func8, Tryd.ntmps8
   go_wp2_with (first | ((with_reducible refine gate_callee (f := 13) rfl ?_); refine gL (some 10) Tryd.func13 #[.string (⟨#[97, 60, 61, 58, 112, 32, 45, 45, 32, 120]⟩ : ByteArray)] ?_; (with_reducible refine (lex_Scan.calls k (⟨#[97, 60, 61, 58, 112, 32, 45, 45, 32, 120]⟩ : ByteArray) t103 t104 t105 _ A1.out (gk HG)).mono ?_); rintro e w26 ⟨v106, rfl, ho0, hb⟩; refine ⟨_, rfl, ?_⟩; have HO107 := Aside0.mk (Kd.R_lower ho0 (below_size bel)); replace HB := bs hb; (try clear hb); (try clear hb2); (try clear hk); (try clear hi); (try clear ho0)) | ((with_reducible refine gate_dst (N := 18) rfl ?_); refine Kd.R_lit k29 _ 29 ?hg (N := 18) ?hd (xs := ([(⟨3, 0, (⟨#[97]⟩ : ByteArray), 0⟩ : S29), (⟨7, 0, (⟨#[60, 61]⟩ : ByteArray), 1⟩ : S29), (⟨6, 0, (⟨#[112]⟩ : ByteArray), 3⟩ : S29), (⟨1, 0, (⟨#[]⟩ : ByteArray), 10⟩ : S29)] : List (S29))) (inner := [.int .i64 3, .int .i64 0, .string (⟨#[97]⟩ : ByteArray), .int .i64 0, .int .i64 7, .int .i64 0, .string (⟨#[60, 61]⟩ : ByteArray), .int .i64 1, .int .i64 6, .int .i64 0, .string (⟨#[112]⟩ : ByteArray), .int .i64 3, .int .i64 1, .int .i64 0, .string (⟨#[]⟩ : ByteArray), .int .i64 10]) (ok := fun _ => True) (okp := fun _ => True) ?hr ?hp (fun _ hk => hk) trivial (Below.refl _ _) (Nat.le_refl _) (by simp) ?_; (case hd => rfl); (case hg => rfl); (case hr => first | (go_simp; done) | (go_simp; rfl)); (case hp => exact (Reps.c4 (show Kd.M k29 _ _ _ (⟨3, 0, (⟨#[97]⟩ : ByteArray), 0⟩ : S29) [.int .i64 3, .int .i64 0, .string (⟨#[97]⟩ : ByteArray), .int .i64 0] from (k29_mkM _ _ _ (⟨3, 0, (⟨#[97]⟩ : ByteArray), 0⟩ : S29) )) (Reps.c4 (show Kd.M k29 _ _ _ (⟨7, 0, (⟨#[60, 61]⟩ : ByteArray), 1⟩ : S29) [.int .i64 7, .int .i64 0, .string (⟨#[60, 61]⟩ : ByteArray), .int .i64 1] from (k29_mkM _ _ _ (⟨7, 0, (⟨#[60, 61]⟩ : ByteArray), 1⟩ : S29) )) (Reps.c4 (show Kd.M k29 _ _ _ (⟨6, 0, (⟨#[112]⟩ : ByteArray), 3⟩ : S29) [.int .i64 6, .int .i64 0, .string (⟨#[112]⟩ : ByteArray), .int .i64 3] from (k29_mkM _ _ _ (⟨6, 0, (⟨#[112]⟩ : ByteArray), 3⟩ : S29) )) (Reps.c4 (show Kd.M k29 _ _ _ (⟨1, 0, (⟨#[]⟩ : ByteArray), 10⟩ : S29) [.int .i64 1, .int .i64 0, .string (⟨#[]⟩ : ByteArray), .int .i64 10] from (k29_mkM _ _ _ (⟨1, 0, (⟨#[]⟩ : ByteArray), 10⟩ : S29) )) (Reps.none _ _)))))); intro v109 w27 ho28 hb hg_ hnew_; clear hg_ hnew_; (first | rw [← Ny108.out] at ho28 | (simp only [Int.reduceToNat] at ho28; rw [← Ny108.out] at ho28)); have HO110 := Aside0.mk (Kd.R_lower (Kd.R_new' ho28 (Kd.R_lt (by (with_reducible repeat (first | apply Kd.R_alloc | apply Kd.R_drewN | apply Kd.R_drew)); exact HO107.out))) (below_size bel)); replace HO107 := Aside0.mk (Kd.R_elder' (by (with_reducible repeat (first | apply Kd.R_alloc | apply Kd.R_drewN | apply Kd.R_drew)); exact HO107.out) (Kd.R_base ho28) hb); replace HB := bs hb; clear hb ho28; obtain ⟨Ao29, co29, eo29⟩ := Kd.R_slice HO107.out; subst eo29; obtain ⟨Ao30, co30, eo30⟩ := Kd.R_slice HO110.out; subst eo30) | ((with_reducible refine gate_callee (f := 17) rfl ?_); refine gL (some 21) Tryd.func17 #[.slice Ao29 t103.length co29, .slice Ao30 y108.length co30] ?_; (with_reducible refine (unisonlaw10_same.calls k _ _ t103 _ _ y108 true _ ?side1 ?side2 ?side3 ?side4 A2.out).mono ?_); (case side1 => repeat (first | exact (Kd.R_reads' HO107.out).2.2 | (with_reducible refine Kd.C_alloc ?_ _) | (with_reducible refine Kd.C_drewN ?_ _) | (with_reducible refine Kd.C_drew ?_))); (case side2 => exact (Kd.R_reads' HO107.out).2.1); (case side3 => repeat (first | exact (Kd.R_reads' HO110.out).2.2 | (with_reducible refine Kd.C_alloc ?_ _) | (with_reducible refine Kd.C_drewN ?_ _) | (with_reducible refine Kd.C_drew ?_))); (case side4 => exact (Kd.R_reads' HO110.out).2.1); rintro e w' ⟨rfl, ⟨nd, rfl⟩⟩; refine ⟨_, rfl, ?_⟩) | ((with_reducible refine gate_callee (f := 13) rfl ?_); refine gL (some 23) Tryd.func13 #[.string (⟨#[97, 32, 33, 32, 98]⟩ : ByteArray)] ?_; (with_reducible refine (lex_Scan.calls k (⟨#[97, 32, 33, 32, 98]⟩ : ByteArray) t112 t113 t114 _ A3.out (gk HG)).mono ?_); rintro e w31 ⟨v115, rfl, ho0, hb⟩; refine ⟨_, rfl, ?_⟩; have HO116 := Aside0.mk (Kd.R_lower (Kd.R_new' (Kd.R_new' ho0 (Kd.R_lt (by (with_reducible repeat (first | apply Kd.R_alloc | apply Kd.R_drewN | apply Kd.R_drew)); exact HO107.out))) (Kd.R_lt (by (with_reducible repeat (first | apply Kd.R_alloc | apply Kd.R_drewN | apply Kd.R_drew)); exact HO110.out))) (below_size bel)); replace HO107 := Aside0.mk (Kd.R_elder' (by (with_reducible repeat (first | apply Kd.R_alloc | apply Kd.R_drewN | apply Kd.R_drew)); exact HO107.out) (Kd.R_base ho0) hb); replace HO110 := Aside0.mk (Kd.R_elder' (by (with_reducible repeat (first | apply Kd.R_alloc | apply Kd.R_drewN | apply Kd.R_drew)); exact HO110.out) (Kd.R_base ho0) hb); replace HB := bs hb; (try clear hb); (try clear hb2); (try clear hk); (try clear hi); (try clear ho0)))
   go_ret
   exact ⟨by first | rfl | (simp [errW_none, errW_some] <;> rfl) | (simp [*, errW_none, errW_some] <;> rfl), by repeat (first | (with_reducible first | exact HB.out | apply below_alloc | apply pw_below_drewN | apply below_drew1) | exact HB.out)⟩
 ·
  replace c4 := Bool.eq_false_iff.mpr c4
  subst c4
  have H1 : (some false) = some r := by rw [if_neg (show ¬ (false = true) by decide)] at H; exact H
  clear H; have H := H1; clear H1
  obtain rfl := Option.some.inj H
  go_enter Tryd.func8, Tryd.ntmps8
  go_wp2_with (first | ((with_reducible refine gate_callee (f := 13) rfl ?_); refine gL (some 10) Tryd.func13 #[.string (⟨#[97, 60, 61, 58, 112, 32, 45, 45, 32, 120]⟩ : ByteArray)] ?_; (with_reducible refine (lex_Scan.calls k (⟨#[97, 60, 61, 58, 112, 32, 45, 45, 32, 120]⟩ : ByteArray) t103 t104 t105 _ A1.out (gk HG)).mono ?_); rintro e w32 ⟨v106, rfl, ho0, hb⟩; refine ⟨_, rfl, ?_⟩; have HO107 := Aside0.mk (Kd.R_lower ho0 (below_size bel)); replace HB := bs hb; (try clear hb); (try clear hb2); (try clear hk); (try clear hi); (try clear ho0)) | ((with_reducible refine gate_dst (N := 18) rfl ?_); refine Kd.R_lit k29 _ 29 ?hg (N := 18) ?hd (xs := ([(⟨3, 0, (⟨#[97]⟩ : ByteArray), 0⟩ : S29), (⟨7, 0, (⟨#[60, 61]⟩ : ByteArray), 1⟩ : S29), (⟨6, 0, (⟨#[112]⟩ : ByteArray), 3⟩ : S29), (⟨1, 0, (⟨#[]⟩ : ByteArray), 10⟩ : S29)] : List (S29))) (inner := [.int .i64 3, .int .i64 0, .string (⟨#[97]⟩ : ByteArray), .int .i64 0, .int .i64 7, .int .i64 0, .string (⟨#[60, 61]⟩ : ByteArray), .int .i64 1, .int .i64 6, .int .i64 0, .string (⟨#[112]⟩ : ByteArray), .int .i64 3, .int .i64 1, .int .i64 0, .string (⟨#[]⟩ : ByteArray), .int .i64 10]) (ok := fun _ => True) (okp := fun _ => True) ?hr ?hp (fun _ hk => hk) trivial (Below.refl _ _) (Nat.le_refl _) (by simp) ?_; (case hd => rfl); (case hg => rfl); (case hr => first | (go_simp; done) | (go_simp; rfl)); (case hp => exact (Reps.c4 (show Kd.M k29 _ _ _ (⟨3, 0, (⟨#[97]⟩ : ByteArray), 0⟩ : S29) [.int .i64 3, .int .i64 0, .string (⟨#[97]⟩ : ByteArray), .int .i64 0] from (k29_mkM _ _ _ (⟨3, 0, (⟨#[97]⟩ : ByteArray), 0⟩ : S29) )) (Reps.c4 (show Kd.M k29 _ _ _ (⟨7, 0, (⟨#[60, 61]⟩ : ByteArray), 1⟩ : S29) [.int .i64 7, .int .i64 0, .string (⟨#[60, 61]⟩ : ByteArray), .int .i64 1] from (k29_mkM _ _ _ (⟨7, 0, (⟨#[60, 61]⟩ : ByteArray), 1⟩ : S29) )) (Reps.c4 (show Kd.M k29 _ _ _ (⟨6, 0, (⟨#[112]⟩ : ByteArray), 3⟩ : S29) [.int .i64 6, .int .i64 0, .string (⟨#[112]⟩ : ByteArray), .int .i64 3] from (k29_mkM _ _ _ (⟨6, 0, (⟨#[112]⟩ : ByteArray), 3⟩ : S29) )) (Reps.c4 (show Kd.M k29 _ _ _ (⟨1, 0, (⟨#[]⟩ : ByteArray), 10⟩ : S29) [.int .i64 1, .int .i64 0, .string (⟨#[]⟩ : ByteArray), .int .i64 10] from (k29_mkM _ _ _ (⟨1, 0, (⟨#[]⟩ : ByteArray), 10⟩ : S29) )) (Reps.none _ _)))))); intro v109 w33 ho34 hb hg_ hnew_; clear hg_ hnew_; (first | rw [← Ny108.out] at ho34 | (simp only [Int.reduceToNat] at ho34; rw [← Ny108.out] at ho34)); have HO110 := Aside0.mk (Kd.R_lower (Kd.R_new' ho34 (Kd.R_lt (by (with_reducible repeat (first | apply Kd.R_alloc | apply Kd.R_drewN | apply Kd.R_drew)); exact HO107.out))) (below_size bel)); replace HO107 := Aside0.mk (Kd.R_elder' (by (with_reducible repeat (first | apply Kd.R_alloc | apply Kd.R_drewN | apply Kd.R_drew)); exact HO107.out) (Kd.R_base ho34) hb); replace HB := bs hb; clear hb ho34; obtain ⟨Ao35, co35, eo35⟩ := Kd.R_slice HO107.out; subst eo35; obtain ⟨Ao36, co36, eo36⟩ := Kd.R_slice HO110.out; subst eo36) | ((with_reducible refine gate_callee (f := 17) rfl ?_); refine gL (some 21) Tryd.func17 #[.slice Ao35 t103.length co35, .slice Ao36 y108.length co36] ?_; (with_reducible refine (unisonlaw10_same.calls k _ _ t103 _ _ y108 false _ ?side1 ?side2 ?side3 ?side4 A2.out).mono ?_); (case side1 => repeat (first | exact (Kd.R_reads' HO107.out).2.2 | (with_reducible refine Kd.C_alloc ?_ _) | (with_reducible refine Kd.C_drewN ?_ _) | (with_reducible refine Kd.C_drew ?_))); (case side2 => exact (Kd.R_reads' HO107.out).2.1); (case side3 => repeat (first | exact (Kd.R_reads' HO110.out).2.2 | (with_reducible refine Kd.C_alloc ?_ _) | (with_reducible refine Kd.C_drewN ?_ _) | (with_reducible refine Kd.C_drew ?_))); (case side4 => exact (Kd.R_reads' HO110.out).2.1); rintro e w' ⟨rfl, ⟨nd, rfl⟩⟩; refine ⟨_, rfl, ?_⟩) | ((with_reducible refine gate_callee (f := 13) rfl ?_); refine gL (some 23) Tryd.func13 #[.string (⟨#[97, 32, 33, 32, 98]⟩ : ByteArray)] ?_; (with_reducible refine (lex_Scan.calls k (⟨#[97, 32, 33, 32, 98]⟩ : ByteArray) t112 t113 t114 _ A3.out (gk HG)).mono ?_); rintro e w37 ⟨v115, rfl, ho0, hb⟩; refine ⟨_, rfl, ?_⟩; have HO116 := Aside0.mk (Kd.R_lower (Kd.R_new' (Kd.R_new' ho0 (Kd.R_lt (by (with_reducible repeat (first | apply Kd.R_alloc | apply Kd.R_drewN | apply Kd.R_drew)); exact HO107.out))) (Kd.R_lt (by (with_reducible repeat (first | apply Kd.R_alloc | apply Kd.R_drewN | apply Kd.R_drew)); exact HO110.out))) (below_size bel)); replace HO107 := Aside0.mk (Kd.R_elder' (by (with_reducible repeat (first | apply Kd.R_alloc | apply Kd.R_drewN | apply Kd.R_drew)); exact HO107.out) (Kd.R_base ho0) hb); replace HO110 := Aside0.mk (Kd.R_elder' (by (with_reducible repeat (first | apply Kd.R_alloc | apply Kd.R_drewN | apply Kd.R_drew)); exact HO110.out) (Kd.R_base ho0) hb); replace HB := bs hb; (try clear hb); (try clear hb2); (try clear hk); (try clear hi); (try clear ho0)))
  go_ret
  exact ⟨by first | rfl | (simp [errW_none, errW_some] <;> rfl) | (simp [*, errW_none, errW_some] <;> rfl), by repeat (first | (with_reducible first | exact HB.out | apply below_alloc | apply pw_below_drewN | apply below_drew1) | exact HB.out)⟩
end Go.Proofs.YtllehkjebikgpaaDoor.PA
end
