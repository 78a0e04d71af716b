-- Laid by a program of ours (wip/gen/xprint.py). Not trusted: Lean checks it.
import Derived.Test.YtohknmlcleifpaaDoorX2
import Derived.Test.YtohknmlcleifpaaDoorPAx0
import Derived.Test.YtohknmlcleifpaaDoorPAx7
import Derived.Test.YtohknmlcleifpaaDoorPAx8
namespace Go.Proofs.YtohknmlcleifpaaDoor.PA
open Go.RowKit Go.Proofs.YtohknmlcleifpaaDoorW.PrintWords Go.Proofs.YtohknmlcleifpaaDoorW.PrintLast Go.Proofs.YtohknmlcleifpaaDoorW.PrintMore Go.Proofs.YtohknmlcleifpaaDoorX
attribute [local go_sem] max2_int min2_int max_two min_two max_three min_three max_four min_four   -- for this text's walks alone
set_option linter.unusedVariables false
set_option linter.unusedSimpArgs false

/-! ### unisonlaw02_KeyNexts: function 8 -/
mutual
def unisonlaw02_KeyNexts.j0 : Nat → ByteArray → ByteArray → Bool → Option (Bool)
 | 0, _, _, _ => none
 | k + 1, x0, x1, x19 => if x19 = true then (some true) else ((unisonlaw02_awake.f k).bind fun t380 => ((key_Next.f k x0).bind fun bt381 => (if (x1.size : Int) ≥ (x0.size : Int) then (if 0 ≤ (x0.size : Int) then (if (x0.size : Int) ≤ (x1.size : Int) then (unisonlaw02_KeyNexts.j1 k x0 x1 t380 bt381.1 bt381.2 ((x1.extract 0 ((x0.size : Int) : Int).toNat).toList == x0.toList)) else (none)) else (none)) else (unisonlaw02_KeyNexts.j1 k x0 x1 t380 bt381.1 bt381.2 false))))
def unisonlaw02_KeyNexts.j1 : Nat → ByteArray → ByteArray → Bool → ByteArray → Bool → Bool → Option (Bool)
 | 0, _, _, _, _, _, _ => none
 | k + 1, x0, x1, x5, x6, x7, x8 => if ((Op.bytesLess x1.toList x0.toList) = true) then (unisonlaw02_KeyNexts.j2 k x0 x5 x7 x8 false) else (if x7 = true then (unisonlaw02_KeyNexts.j2 k x0 x5 x7 x8 (Op.bytesLess x1.toList x6.toList)) else (unisonlaw02_KeyNexts.j2 k x0 x5 x7 x8 true))
def unisonlaw02_KeyNexts.j2 : Nat → ByteArray → Bool → Bool → Bool → Bool → Option (Bool)
 | 0, _, _, _, _, _ => none
 | k + 1, x0, x5, x7, x8, x9 => unisonlaw02_KeyNexts.l0 k x0 x5 x7 x8 x9 true 0
def unisonlaw02_KeyNexts.l0 : Nat → ByteArray → Bool → Bool → Bool → Bool → Bool → Int → Option (Bool)
 | 0, _, _, _, _, _, _, _ => none
 | k + 1, x0, x5, x7, x8, x9, x10, x11 => if x11 < (x0.size : Int) then (if 0 ≤ x11 then (if (bt x0 x11) = 255 then (unisonlaw02_KeyNexts.l0 k x0 x5 x7 x8 x9 x10 (wrap64 (x11 + 1))) else (unisonlaw02_KeyNexts.l0 k x0 x5 x7 x8 x9 false (wrap64 (x11 + 1)))) else (none)) else (if x5 = true then (if (x8 == x9) = true then (some (x7 == (!x10))) else (none)) else (none))
end
def unisonlaw02_KeyNexts.f (k : Nat) (a0 : ByteArray) (a1 : ByteArray) : Option (Bool) := if (a0.size : Int) > 2147483647 then (unisonlaw02_KeyNexts.j0 k a0 a1 true) else (unisonlaw02_KeyNexts.j0 k a0 a1 (decide ((a1.size : Int) > 2147483647)))
theorem unisonlaw02_KeyNexts.mono_l : ∀ k, (∀ y0 y1 y2, LeO (unisonlaw02_KeyNexts.j0 k y0 y1 y2) (unisonlaw02_KeyNexts.j0 (k + 1) y0 y1 y2)) ∧ (∀ y0 y1 y2 y3 y4 y5, LeO (unisonlaw02_KeyNexts.j1 k y0 y1 y2 y3 y4 y5) (unisonlaw02_KeyNexts.j1 (k + 1) y0 y1 y2 y3 y4 y5)) ∧ (∀ y0 y1 y2 y3 y4, LeO (unisonlaw02_KeyNexts.j2 k y0 y1 y2 y3 y4) (unisonlaw02_KeyNexts.j2 (k + 1) y0 y1 y2 y3 y4)) ∧ (∀ y0 y1 y2 y3 y4 y5 y6, LeO (unisonlaw02_KeyNexts.l0 k y0 y1 y2 y3 y4 y5 y6) (unisonlaw02_KeyNexts.l0 (k + 1) y0 y1 y2 y3 y4 y5 y6))
 | 0 => ⟨fun _ _ _ r h => by simp [unisonlaw02_KeyNexts.j0] at h, fun _ _ _ _ _ _ r h => by simp [unisonlaw02_KeyNexts.j1] at h, fun _ _ _ _ _ r h => by simp [unisonlaw02_KeyNexts.j2] at h, fun _ _ _ _ _ _ _ r h => by simp [unisonlaw02_KeyNexts.l0] at h⟩
 | k + 1 => by
  obtain ⟨ih0, ih1, ih2, ih3⟩ := unisonlaw02_KeyNexts.mono_l k
  refine ⟨?_, ?_, ?_, ?_⟩
  ·
   intro y0 y1 y2
   unfold unisonlaw02_KeyNexts.j0
   repeat' first
   | (with_reducible exact ih0 _ _ _)
   | (with_reducible exact ih1 _ _ _ _ _ _)
   | (with_reducible exact ih2 _ _ _ _ _)
   | (with_reducible exact ih3 _ _ _ _ _ _ _)
   | (with_reducible exact key_Next.mono _ _)
   | (with_reducible exact unisonlaw02_awake.mono _)
   | (with_reducible exact LeO.refl _)
   | (with_reducible exact LeO.none _)
   | (with_reducible refine LeO.ite ?_ ?_)
   | (with_reducible refine LeO.bind ?_ (fun _ => ?_))
   | exact ih0 _ _ _
   | exact ih1 _ _ _ _ _ _
   | exact ih2 _ _ _ _ _
   | exact ih3 _ _ _ _ _ _ _
   | exact key_Next.mono _ _
   | exact unisonlaw02_awake.mono _
   | exact LeO.none _
   | refine LeO.ite ?_ ?_
   | refine LeO.bind ?_ (fun _ => ?_)
  ·
   intro y0 y1 y2 y3 y4 y5
   unfold unisonlaw02_KeyNexts.j1
   repeat' first
   | (with_reducible exact ih0 _ _ _)
   | (with_reducible exact ih1 _ _ _ _ _ _)
   | (with_reducible exact ih2 _ _ _ _ _)
   | (with_reducible exact ih3 _ _ _ _ _ _ _)
   | (with_reducible exact key_Next.mono _ _)
   | (with_reducible exact unisonlaw02_awake.mono _)
   | (with_reducible exact LeO.refl _)
   | (with_reducible exact LeO.none _)
   | (with_reducible refine LeO.ite ?_ ?_)
   | (with_reducible refine LeO.bind ?_ (fun _ => ?_))
   | exact ih0 _ _ _
   | exact ih1 _ _ _ _ _ _
   | exact ih2 _ _ _ _ _
   | exact ih3 _ _ _ _ _ _ _
   | exact key_Next.mono _ _
   | exact unisonlaw02_awake.mono _
   | exact LeO.none _
   | refine LeO.ite ?_ ?_
   | refine LeO.bind ?_ (fun _ => ?_)
  ·
   intro y0 y1 y2 y3 y4
   unfold unisonlaw02_KeyNexts.j2
   repeat' first
   | (with_reducible exact ih0 _ _ _)
   | (with_reducible exact ih1 _ _ _ _ _ _)
   | (with_reducible exact ih2 _ _ _ _ _)
   | (with_reducible exact ih3 _ _ _ _ _ _ _)
   | (with_reducible exact key_Next.mono _ _)
   | (with_reducible exact unisonlaw02_awake.mono _)
   | (with_reducible exact LeO.refl _)
   | (with_reducible exact LeO.none _)
   | (with_reducible refine LeO.ite ?_ ?_)
   | (with_reducible refine LeO.bind ?_ (fun _ => ?_))
   | exact ih0 _ _ _
   | exact ih1 _ _ _ _ _ _
   | exact ih2 _ _ _ _ _
   | exact ih3 _ _ _ _ _ _ _
   | exact key_Next.mono _ _
   | exact unisonlaw02_awake.mono _
   | exact LeO.none _
   | refine LeO.ite ?_ ?_
   | refine LeO.bind ?_ (fun _ => ?_)
  ·
   intro y0 y1 y2 y3 y4 y5 y6
   unfold unisonlaw02_KeyNexts.l0
   repeat' first
   | (with_reducible exact ih0 _ _ _)
   | (with_reducible exact ih1 _ _ _ _ _ _)
   | (with_reducible exact ih2 _ _ _ _ _)
   | (with_reducible exact ih3 _ _ _ _ _ _ _)
   | (with_reducible exact key_Next.mono _ _)
   | (with_reducible exact unisonlaw02_awake.mono _)
   | (with_reducible exact LeO.refl _)
   | (with_reducible exact LeO.none _)
   | (with_reducible refine LeO.ite ?_ ?_)
   | (with_reducible refine LeO.bind ?_ (fun _ => ?_))
   | exact ih0 _ _ _
   | exact ih1 _ _ _ _ _ _
   | exact ih2 _ _ _ _ _
   | exact ih3 _ _ _ _ _ _ _
   | exact key_Next.mono _ _
   | exact unisonlaw02_awake.mono _
   | exact LeO.none _
   | refine LeO.ite ?_ ?_
   | refine LeO.bind ?_ (fun _ => ?_)
theorem unisonlaw02_KeyNexts.mono : ∀ a0 a1 k, LeO (unisonlaw02_KeyNexts.f k a0 a1) (unisonlaw02_KeyNexts.f (k + 1) a0 a1) := by
 intro a0 a1 k
 obtain ⟨ih0, ih1, ih2, ih3⟩ := unisonlaw02_KeyNexts.mono_l k
 unfold unisonlaw02_KeyNexts.f
 repeat' first
   | (with_reducible exact ih0 _ _ _)
   | (with_reducible exact ih1 _ _ _ _ _ _)
   | (with_reducible exact ih2 _ _ _ _ _)
   | (with_reducible exact ih3 _ _ _ _ _ _ _)
   | (with_reducible exact key_Next.mono _ _)
   | (with_reducible exact unisonlaw02_awake.mono _)
   | (with_reducible exact LeO.refl _)
   | (with_reducible exact LeO.none _)
   | (with_reducible refine LeO.ite ?_ ?_)
   | (with_reducible refine LeO.bind ?_ (fun _ => ?_))
   | exact ih0 _ _ _
   | exact ih1 _ _ _ _ _ _
   | exact ih2 _ _ _ _ _
   | exact ih3 _ _ _ _ _ _ _
   | exact key_Next.mono _ _
   | exact unisonlaw02_awake.mono _
   | exact LeO.none _
   | refine LeO.ite ?_ ?_
   | refine LeO.bind ?_ (fun _ => ?_)
set_option maxHeartbeats 8000000 in
set_option maxRecDepth 100000 in
theorem unisonlaw02_KeyNexts.calls (k : Nat) (a0 : ByteArray) (a1 : ByteArray) (r : Bool) (w : World) (h : unisonlaw02_KeyNexts.f k a0 a1 = some r) :
  Calls Tryd.prog 8 #[.string a0, .string a1] w fun e w' => e = .returned (.bool r) ∧ Below w.heap.size w w' := by
 have HB := Aside0.mk (Below.refl w.heap.size w)
 have H : (if (a0.size : Int) > 2147483647 then (unisonlaw02_KeyNexts.j0 k a0 a1 true) else (unisonlaw02_KeyNexts.j0 k a0 a1 (decide ((a1.size : Int) > 2147483647)))) = some r := h
 clear h
 have HC3 := Aside0.mk H
 clear H
 go_enter Tryd.func8, Tryd.ntmps8
 go_upto_region 1 with (fail)
 go_cut [19] (fun v19 wc => ∃ (kq : Nat) (x19_2 : Bool), v19 = .bool x19_2 ∧ Aside0 (unisonlaw02_KeyNexts.j0 kq a0 a1 x19_2 = some r) ∧ Aside0 (kq ≤ k) ∧ Aside0 (Below w.heap.size w wc))
 case first =>
  have H := HC3.out
  clear HC3
  by_cases c4 : (a0.size : Int) > 2147483647
  ·
   rw [if_pos c4] at H
   have c4b0 : decide (2147483647 < (a0.size : Int)) = true := decide_eq_true c4
   have c4b1 : decide (2147483647 < a0.size) = true := decide_eq_true (by omega)
   clear c4
   (first | rw [c4b0] | (simp only [i64_w, i32_w, u8_w, u32_w]; rw [c4b0]) | rw [c4b1] | skip)
   have H' := Aside0.mk H
   clear H
   go_wp2
   go_meet
   case rel => exact ⟨_, (true), (by first | rfl | (simp; done) | (simp [*]; done)), H', ⟨by first | omega | exact Nat.le_refl _⟩, ⟨by repeat (first | (with_reducible first | exact HB.out | apply below_alloc | apply pw_below_drewN | apply below_drew1) | exact HB.out)⟩⟩
  ·
   rw [if_neg c4] at H
   have c4b0 : decide (2147483647 < (a0.size : Int)) = false := decide_eq_false c4
   have c4b1 : decide (2147483647 < a0.size) = false := decide_eq_false (by omega)
   clear c4
   (first | rw [c4b0] | (simp only [i64_w, i32_w, u8_w, u32_w]; rw [c4b0]) | rw [c4b1] | skip)
   have H' := Aside0.mk H
   clear H
   go_wp2
   go_meet
   case rel => exact ⟨_, (decide ((a1.size : Int) > 2147483647)), (by first | rfl | (simp; done) | (simp [*]; done)), H', ⟨by first | omega | exact Nat.le_refl _⟩, ⟨by repeat (first | (with_reducible first | exact HB.out | apply below_alloc | apply pw_below_drewN | apply below_drew1) | exact HB.out)⟩⟩
 case rest =>
  clear HC3
  try clear p2
  try clear c4
  try clear c4b0
  try clear c4b1
  obtain ⟨kq, x19_2, rfl, HA, HJ2, HB⟩ := hcut
  cases kq with
  | zero => exact absurd HA.out (by simp [unisonlaw02_KeyNexts.j0])
  | succ kj2 =>
   have H := HA.out
   clear HA
   simp only [unisonlaw02_KeyNexts.j0] at H
   by_cases c5 : x19_2 = true
   ·
    subst c5
    have H1 : (some true) = some r := by (first | rw [if_pos rfl] at H | rw [if_pos True.intro] at H | skip); exact H
    clear H
    have H := H1
    clear H1
    obtain rfl := Option.some.inj H
    go_wp2
    go_ret
    exact ⟨by first | (simp only [ByteArray.size_extract, Nat.min_self]; rfl) | rfl | (simp [errW_none, errW_some] <;> rfl) | (simp [*, errW_none, errW_some] <;> rfl), by repeat (first | (with_reducible first | exact HB.out | apply below_alloc | apply pw_below_drewN | apply below_drew1) | exact HB.out)⟩
   ·
    replace c5 := Bool.eq_false_iff.mpr c5
    subst c5
    have H1 : ((unisonlaw02_awake.f kj2).bind fun t380 => ((key_Next.f kj2 a0).bind fun bt381 => (if (a1.size : Int) ≥ (a0.size : Int) then (if 0 ≤ (a0.size : Int) then (if (a0.size : Int) ≤ (a1.size : Int) then (unisonlaw02_KeyNexts.j1 kj2 a0 a1 t380 bt381.1 bt381.2 ((a1.extract 0 ((a0.size : Int) : Int).toNat).toList == a0.toList)) else (none)) else (none)) else (unisonlaw02_KeyNexts.j1 kj2 a0 a1 t380 bt381.1 bt381.2 false)))) = some r := by rw [if_neg (show ¬ (false = true) by decide)] at H; exact H
    clear H
    have H := H1
    clear H1
    replace H := Option.bind_eq_some_iff.mp H
    obtain ⟨t380, A60, H⟩ := H
    replace H : ((key_Next.f kj2 a0).bind fun bt381 => (if (a1.size : Int) ≥ (a0.size : Int) then (if 0 ≤ (a0.size : Int) then (if (a0.size : Int) ≤ (a1.size : Int) then (unisonlaw02_KeyNexts.j1 kj2 a0 a1 t380 bt381.1 bt381.2 ((a1.extract 0 ((a0.size : Int) : Int).toNat).toList == a0.toList)) else (none)) else (none)) else (unisonlaw02_KeyNexts.j1 kj2 a0 a1 t380 bt381.1 bt381.2 false))) = some r := H
    have A6 := Aside0.mk A60
    clear A60
    replace H := Option.bind_eq_some_iff.mp H
    obtain ⟨⟨t381, t382⟩, A70, H⟩ := H
    replace H : (if (a1.size : Int) ≥ (a0.size : Int) then (if 0 ≤ (a0.size : Int) then (if (a0.size : Int) ≤ (a1.size : Int) then (unisonlaw02_KeyNexts.j1 kj2 a0 a1 t380 t381 t382 ((a1.extract 0 ((a0.size : Int) : Int).toNat).toList == a0.toList)) else (none)) else (none)) else (unisonlaw02_KeyNexts.j1 kj2 a0 a1 t380 t381 t382 false)) = some r := H
    have A7 := Aside0.mk A70
    clear A70
    have HC8 := Aside0.mk H
    clear H
    go_upto_region 5 with (first | ((with_reducible refine gate_callee (f := 10) rfl ?_); refine goesL_ (some 20) rfl rfl Tryd.func10 (by kernel_rfl) rfl #[] rfl (by (try simp only [List.map_toArray, List.map_cons, List.map_nil]); first | done | rfl | (simp only [List.length_drop, List.length_take]; rfl)) ?_; (with_reducible refine (unisonlaw02_awake.calls kj2  t380 _ A6.out).mono ?_); rintro e w9 ⟨rfl, hb⟩; refine ⟨_, rfl, ?_⟩; have n0_ := Aside0.mk (below_step (by repeat (first | (with_reducible first | exact HB.out | apply below_alloc | apply pw_below_drewN | apply below_drew1) | exact HB.out)) hb); clear HB; have HB := n0_; clear n0_; (try clear hb); (try clear hb2); (try clear hk); (try clear hi)) | ((with_reducible refine gate_callee (f := 19) rfl ?_); refine goesL_ (some 23) rfl rfl Tryd.func19 (by kernel_rfl) rfl #[.string a0] rfl (by (try simp only [List.map_toArray, List.map_cons, List.map_nil]); first | done | rfl | (simp only [List.length_drop, List.length_take]; rfl)) ?_; (with_reducible refine (key_Next.calls kj2 a0 t381 t382 _ A7.out).mono ?_); rintro e w10 ⟨rfl, hb⟩; refine ⟨_, rfl, ?_⟩; have n0_ := Aside0.mk (below_step (by repeat (first | (with_reducible first | exact HB.out | apply below_alloc | apply pw_below_drewN | apply below_drew1) | exact HB.out)) hb); clear HB; have HB := n0_; clear n0_; (try clear hb); (try clear hb2); (try clear hk); (try clear hi)))
    (try simp only [Act.put, List.setIfInBounds_toArray, List.set_cons_zero, List.set_cons_succ])
    go_cut [8] (fun v8 wc => ∃ (kq : Nat) (x8_7 : Bool), v8 = .bool x8_7 ∧ Aside0 (unisonlaw02_KeyNexts.j1 kq a0 a1 t380 t381 t382 x8_7 = some r) ∧ Aside0 (kq ≤ kj2) ∧ Aside0 (Below w.heap.size w wc))
    case first =>
     have H := HC8.out
     clear HC8
     by_cases c11 : (a1.size : Int) ≥ (a0.size : Int)
     ·
      rw [if_pos c11] at H
      have c11b0 : decide ((a0.size : Int) ≤ (a1.size : Int)) = true := decide_eq_true c11
      have c11b1 : decide (a0.size ≤ a1.size) = true := decide_eq_true (Int.ofNat_le.mp c11)
      clear c11
      (first | rw [c11b0] | (simp only [i64_w, i32_w, u8_w, u32_w]; rw [c11b0]) | rw [c11b1] | skip)
      by_cases c12 : 0 ≤ (a0.size : Int)
      ·
       rw [if_pos c12] at H
       have c12b0 := eq_true c12
       have c12b1 : decide (0 ≤ (a0.size : Int)) = true := decide_eq_true c12
       clear c12
       by_cases c13 : (a0.size : Int) ≤ (a1.size : Int)
       ·
        rw [if_pos c13] at H
        have c13b0 := eq_true c13
        have c13b1 : decide ((a0.size : Int) ≤ (a1.size : Int)) = true := decide_eq_true c13
        clear c13
        have H' := Aside0.mk H
        clear H
        go_wp2
        go_meet
        case rel => exact ⟨_, (((a1.extract 0 ((a0.size : Int) : Int).toNat).toList == a0.toList)), (by first | rfl | (simp; done) | (simp [*]; done)), H', ⟨by have := HJ2.out; first | omega | exact Nat.le_refl _⟩, ⟨by repeat (first | (with_reducible first | exact HB.out | apply below_alloc | apply pw_below_drewN | apply below_drew1) | exact HB.out)⟩⟩
       ·
        rw [if_neg c13] at H
        exact absurd H (by simp)
      ·
       rw [if_neg c12] at H
       exact absurd H (by simp)
     ·
      rw [if_neg c11] at H
      have c11b0 : decide ((a0.size : Int) ≤ (a1.size : Int)) = false := decide_eq_false c11
      have c11b1 : decide (a0.size ≤ a1.size) = false := decide_eq_false (fun h => c11 (Int.ofNat_le.mpr h))
      clear c11
      (first | rw [c11b0] | (simp only [i64_w, i32_w, u8_w, u32_w]; rw [c11b0]) | rw [c11b1] | skip)
      have H' := Aside0.mk H
      clear H
      go_wp2
      go_meet
      case rel => exact ⟨_, (false), (by first | rfl | (simp; done) | (simp [*]; done)), H', ⟨by have := HJ2.out; first | omega | exact Nat.le_refl _⟩, ⟨by repeat (first | (with_reducible first | exact HB.out | apply below_alloc | apply pw_below_drewN | apply below_drew1) | exact HB.out)⟩⟩
    case rest =>
     clear HC8
     try clear c1
     try clear p2
     try clear c4
     try clear c4b0
     try clear c4b1
     try clear c5
     try clear c8
     try clear c10
     try clear c11
     try clear c11b0
     try clear c11b1
     try clear c12
     try clear c12b0
     try clear c12b1
     try clear c13
     try clear c13b0
     try clear c13b1
     try clear p2
     obtain ⟨kq, x8_7, rfl, HA, HJ7, HB⟩ := hcut
     cases kq with
     | zero => exact absurd HA.out (by simp [unisonlaw02_KeyNexts.j1])
     | succ kj7 =>
      have H := HA.out
      clear HA
      simp only [unisonlaw02_KeyNexts.j1] at H
      have HC14 := Aside0.mk H
      clear H
      go_upto_region 6 with (fail)
      go_cut [9] (fun v9 wc => ∃ (kq : Nat) (x9_13 : Bool), v9 = .bool x9_13 ∧ Aside0 (unisonlaw02_KeyNexts.j2 kq a0 t380 t382 x8_7 x9_13 = some r) ∧ Aside0 (kq ≤ kj7) ∧ Aside0 (Below w.heap.size w wc))
      case first =>
       have H := HC14.out
       clear HC14
       by_cases c15 : ((Op.bytesLess a1.toList a0.toList) = true)
       ·
        rw [if_pos c15] at H
        have c15b0 : (Op.bytesLess a1.toList a0.toList) = true := c15
        have c15bn : (!Op.bytesLess a1.toList a0.toList) = false := by rw [c15b0]; rfl
        have c15be : (a1.toList == a0.toList) = false := bl_ne c15b0
        have c15bf : (a0.toList == a1.toList) = false := bl_ne' c15b0
        have c15bg : Op.bytesLess a0.toList a1.toList = false := bl_asymm c15b0
        clear c15
        (first | rw [c15b0] | (simp only [i64_w, i32_w, u8_w, u32_w]; rw [c15b0]) | rw [c15b1] | skip)
        have H' := Aside0.mk H
        clear H
        go_wp2
        go_meet
        case rel => exact ⟨_, (false), (by first | rfl | (simp; done) | (simp [*]; done)), H', ⟨by have := HJ2.out; have := HJ7.out; first | omega | exact Nat.le_refl _⟩, ⟨by repeat (first | (with_reducible first | exact HB.out | apply below_alloc | apply pw_below_drewN | apply below_drew1) | exact HB.out)⟩⟩
       ·
        rw [if_neg c15] at H
        have c15b0 : (Op.bytesLess a1.toList a0.toList) = false := by simpa using c15
        have c15bn : (!Op.bytesLess a1.toList a0.toList) = true := by rw [c15b0]; rfl
        try (have c15be : (a1.toList == a0.toList) = true := bl_eq c15b0 (by assumption))
        try (have c15bf : (a0.toList == a1.toList) = true := bl_eq (by assumption) c15b0)
        clear c15
        (first | rw [c15b0] | (simp only [i64_w, i32_w, u8_w, u32_w]; rw [c15b0]) | rw [c15b1] | skip)
        by_cases c16 : t382 = true
        ·
         subst c16
         have H1 : (unisonlaw02_KeyNexts.j2 kj7 a0 t380 true x8_7 (Op.bytesLess a1.toList t381.toList)) = some r := by (first | rw [if_pos rfl] at H | rw [if_pos True.intro] at H | skip); exact H
         clear H
         have H := H1
         clear H1
         have H' := Aside0.mk H
         clear H
         go_wp2
         go_meet
         case rel => exact ⟨_, ((Op.bytesLess a1.toList t381.toList)), (by first | rfl | (simp; done) | (simp [*]; done)), H', ⟨by have := HJ2.out; have := HJ7.out; first | omega | exact Nat.le_refl _⟩, ⟨by repeat (first | (with_reducible first | exact HB.out | apply below_alloc | apply pw_below_drewN | apply below_drew1) | exact HB.out)⟩⟩
        ·
         replace c16 := Bool.eq_false_iff.mpr c16
         subst c16
         have H1 : (unisonlaw02_KeyNexts.j2 kj7 a0 t380 false x8_7 true) = some r := by rw [if_neg (show ¬ (false = true) by decide)] at H; exact H
         clear H
         have H := H1
         clear H1
         have H' := Aside0.mk H
         clear H
         go_wp2
         go_meet
         case rel => exact ⟨_, (true), (by first | rfl | (simp; done) | (simp [*]; done)), H', ⟨by have := HJ2.out; have := HJ7.out; first | omega | exact Nat.le_refl _⟩, ⟨by repeat (first | (with_reducible first | exact HB.out | apply below_alloc | apply pw_below_drewN | apply below_drew1) | exact HB.out)⟩⟩
      case rest =>
       clear HC14
       try clear c1
       try clear p2
       try clear c4
       try clear c4b0
       try clear c4b1
       try clear c5
       try clear c8
       try clear c10
       try clear c11
       try clear c11b0
       try clear c11b1
       try clear c12
       try clear c12b0
       try clear c12b1
       try clear c13
       try clear c13b0
       try clear c13b1
       try clear c15
       try clear c15b0
       try clear c15b1
       try clear c16
       try clear p2
       obtain ⟨kq, x9_13, rfl, HA, HJ13, HB⟩ := hcut
       cases kq with
       | zero => exact absurd HA.out (by simp [unisonlaw02_KeyNexts.j2])
       | succ kj13 =>
        have H := HA.out
        clear HA
        simp only [unisonlaw02_KeyNexts.j2] at H
        have H' := Aside0.mk H
        clear H
        go_wp2
        go_loopg [10, 11] kj13 (fun kq v10 v11 w' => ∃ (x10_4 : Bool) (x11_4 : Int), v10 = .bool x10_4 ∧ v11 = .int .i64 x11_4 ∧ Aside0 (unisonlaw02_KeyNexts.l0 kq a0 t380 t382 x8_7 x9_13 x10_4 x11_4 = some r) ∧ Aside0 (kq ≤ kj13) ∧ Aside0 (Below w.heap.size w w'))
        case atStart => exact ⟨(true), (0), (by first | rfl | (simp; done) | (simp [*]; done)), (by first | rfl | (simp; done) | (simp [*]; done)), H', ⟨Nat.le_refl _⟩, ⟨by repeat (first | (with_reducible first | exact HB.out | apply below_alloc | apply pw_below_drewN | apply below_drew1) | exact HB.out)⟩⟩
        case round =>
         clear H'
         try clear c1
         try clear p2
         try clear c4
         try clear c4b0
         try clear c4b1
         try clear c5
         try clear c8
         try clear c10
         try clear c11
         try clear c11b0
         try clear c11b1
         try clear c12
         try clear c12b0
         try clear c12b1
         try clear c13
         try clear c13b0
         try clear c13b1
         try clear c15
         try clear c15b0
         try clear c15b1
         try clear c16
         try clear p2
         obtain ⟨x10_4, x11_4, rfl, rfl, HA, HK4, HB⟩ := hrel
         cases gk with
         | zero => exact absurd HA.out (by simp [unisonlaw02_KeyNexts.l0])
         | succ k4 =>
          have H := HA.out
          clear HA
          simp only [unisonlaw02_KeyNexts.l0] at H
          by_cases c17 : x11_4 < (a0.size : Int)
          ·
           rw [if_pos c17] at H
           have c17b0 : decide (x11_4 < (a0.size : Int)) = true := decide_eq_true c17
           clear c17
           by_cases c18 : 0 ≤ x11_4
           ·
            rw [if_pos c18] at H
            have c18b0 : decide (0 ≤ x11_4) = true := decide_eq_true c18
            clear c18
            by_cases c20 : (bt a0 x11_4) = 255
            ·
             rw [if_pos c20] at H
             have c20b0 : ((bt a0 x11_4) == 255) = true := beq_iff_eq.mpr c20
             have c20b1 : ((bt a0 x11_4) != 255) = false := bne_eq_false_iff_eq.mpr c20
             clear c20
             have H' := Aside0.mk H
             clear H
             have p19 : 0 ≤ (x11_4 : Int) := of_decide_eq_true (by first | (with_reducible assumption) | assumption)
             have q19 : x11_4 < (a0.size : Int) := of_decide_eq_true (by first | (with_reducible assumption) | assumption)
             have hx19 := bt_at a0 x11_4
             replace p19 := eq_true p19
             replace q19 := eq_true q19
             go_wp2
             go_roundg k4
             case measure => have := HJ2.out; have := HJ7.out; have := HJ13.out; have := HK4.out; omega
             case rel => exact ⟨(x10_4), (wrap64 (x11_4 + 1)), (by first | rfl | (simp; done) | (simp [*]; done)), (by first | rfl | (simp; done) | (simp [*]; done)), H', ⟨by have := HJ2.out; have := HJ7.out; have := HJ13.out; have := HK4.out; omega⟩, ⟨by repeat (first | (with_reducible first | exact HB.out | apply below_alloc | apply pw_below_drewN | apply below_drew1) | exact HB.out)⟩⟩
            ·
             rw [if_neg c20] at H
             have c20b0 : ((bt a0 x11_4) == 255) = false := beq_eq_false_iff_ne.mpr c20
             have c20b1 : ((bt a0 x11_4) != 255) = true := bne_iff_ne.mpr c20
             have H' := Aside0.mk H
             clear H
             have p19 : 0 ≤ (x11_4 : Int) := of_decide_eq_true (by first | (with_reducible assumption) | assumption)
             have q19 : x11_4 < (a0.size : Int) := of_decide_eq_true (by first | (with_reducible assumption) | assumption)
             have hx19 := bt_at a0 x11_4
             replace p19 := eq_true p19
             replace q19 := eq_true q19
             go_wp2
             go_roundg k4
             case measure => have := HJ2.out; have := HJ7.out; have := HJ13.out; have := HK4.out; omega
             case rel => exact ⟨(false), (wrap64 (x11_4 + 1)), (by first | rfl | (simp; done) | (simp [*]; done)), (by first | rfl | (simp; done) | (simp [*]; done)), H', ⟨by have := HJ2.out; have := HJ7.out; have := HJ13.out; have := HK4.out; omega⟩, ⟨by repeat (first | (with_reducible first | exact HB.out | apply below_alloc | apply pw_below_drewN | apply below_drew1) | exact HB.out)⟩⟩
           ·
            rw [if_neg c18] at H
            exact absurd H (by simp)
          ·
           rw [if_neg c17] at H
           have c17b0 : decide (x11_4 < (a0.size : Int)) = false := decide_eq_false c17
           clear c17
           by_cases c21 : t380 = true
           ·
            subst c21
            have H1 : (if (x8_7 == x9_13) = true then (some (t382 == (!x10_4))) else (none)) = some r := by (first | rw [if_pos rfl] at H | rw [if_pos True.intro] at H | skip); exact H
            clear H
            have H := H1
            clear H1
            by_cases c22 : (x8_7 == x9_13) = true
            ·
             rw [if_pos c22] at H
             have c22b0 : (x8_7 == x9_13) = true := c22
             (try (have c22b1 : decide (x8_7 = x9_13) = true := by simpa using c22))
             (try (have c22b2 : (x8_7 == x9_13) = true := by simpa using c22))
             clear c22
             obtain rfl := Option.some.inj H
             go_wp2
             go_ret
             exact ⟨by first | (simp only [ByteArray.size_extract, Nat.min_self]; rfl) | rfl | (simp [errW_none, errW_some] <;> rfl) | (simp [*, errW_none, errW_some] <;> rfl), by repeat (first | (with_reducible first | exact HB.out | apply below_alloc | apply pw_below_drewN | apply below_drew1) | exact HB.out)⟩
            ·
             rw [if_neg c22] at H
             exact absurd H (by simp)
           ·
            replace c21 := Bool.eq_false_iff.mpr c21
            subst c21
            have H1 : (none) = some r := by rw [if_neg (show ¬ (false = true) by decide)] at H; exact H
            clear H
            have H := H1
            clear H1
            exact absurd H (by simp)

/-- THE ONE PURE STATEMENT of unisonlaw02_KeyNexts: yours. -/
def unisonlaw02_KeyNexts.Pure : Prop := ∀ (a0 : ByteArray) (a1 : ByteArray), a0.size ≤ 140737488351232 → a1.size ≤ 140737488351232 → ∃ k, unisonlaw02_KeyNexts.f k a0 a1 = some true
theorem unisonlaw02_KeyNexts.walk (P : unisonlaw02_KeyNexts.Pure) (a0 : ByteArray) (a1 : ByteArray) (w : World) (w0 : a0.size ≤ 140737488351232) (w1 : a1.size ≤ 140737488351232) :
  Calls Tryd.prog 8 #[.string a0, .string a1] w fun e w' => e = .returned (.bool true) ∧ Below w.heap.size w w' := by
 obtain ⟨k, h⟩ := P a0 a1 w0 w1
 refine (unisonlaw02_KeyNexts.calls k a0 a1 true w h).mono ?_
 rintro e w' ⟨rfl, hd⟩
 exact ⟨rfl, hd⟩

-- NOT PRINTED: function 9 (unisonlaw02_KeySorted)

end Go.Proofs.YtohknmlcleifpaaDoor.PA
