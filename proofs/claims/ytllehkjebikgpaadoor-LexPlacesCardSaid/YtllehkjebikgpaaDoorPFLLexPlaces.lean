-- Laid by a program of ours (wip/gen/xprint.py). Not trusted: Lean checks it.
import Derived.Test.YtllehkjebikgpaaDoorPAx0
import Derived.Test.YtllehkjebikgpaaDoorPAxE
import Derived.Test.YtllehkjebikgpaaDoorMD
import Derived.Test.YtllehkjebikgpaaDoorXC
namespace Go.Proofs.YtllehkjebikgpaaDoor.PA
open Go.RowKit Go.Proofs.YtllehkjebikgpaaDoorW.PrintWords Go.Proofs.YtllehkjebikgpaaDoorW.PrintLast Go.Proofs.YtllehkjebikgpaaDoorW.PrintMore Go.Proofs.YtllehkjebikgpaaDoorX
attribute [local go_sem] max2_int min2_int max_two min_two max_three min_three max_four min_four   -- for this text's walks alone
set_option linter.unusedVariables false
set_option linter.unusedSimpArgs false
attribute [local go_sem high] eqA29
/-! ### unisonlaw10_LexPlaces: function 4 -/
mutual
def unisonlaw10_LexPlaces.j0 : Nat → ByteArray → Bool → List (S29) → Bool → Option (Bool)
 | 0, _, _, _, _ => none
 | k + 1, x0, x3, x4, x50 => if x50 = true then (none) else (unisonlaw10_LexPlaces.l0 k x0 x3 x4 0)
def unisonlaw10_LexPlaces.l0 : Nat → ByteArray → Bool → List (S29) → Int → Option (Bool)
 | 0, _, _, _, _ => none
 | k + 1, x0, x3, x4, x7 => if (wrap64 (x7 + 1)) < (x4.length : Int) then (if 0 ≤ x7 then (if x7 < (x4.length : Int) then (if ((rd_T29 x4 x7).f3) < 0 then (unisonlaw10_LexPlaces.j2 k x0 x3 x4 x7 true ((rd_T29 x4 x7).f0) ((rd_T29 x4 x7).f1) ((rd_T29 x4 x7).f2) ((rd_T29 x4 x7).f3)) else (if 0 ≤ (wrap64 (x7 + 1)) then (if ((rd_T29 x4 x7).f3) ≥ ((rd_T29 x4 (wrap64 (x7 + 1))).f3) then (unisonlaw10_LexPlaces.j2 k x0 x3 x4 x7 true ((rd_T29 x4 x7).f0) ((rd_T29 x4 x7).f1) ((rd_T29 x4 x7).f2) ((rd_T29 x4 x7).f3)) else (if ((rd_T29 x4 (wrap64 (x7 + 1))).f3) > (x0.size : Int) then (unisonlaw10_LexPlaces.j2 k x0 x3 x4 x7 true ((rd_T29 x4 x7).f0) ((rd_T29 x4 x7).f1) ((rd_T29 x4 x7).f2) ((rd_T29 x4 x7).f3)) else (if ((rd_T29 x4 x7).f0) < 2 then (unisonlaw10_LexPlaces.j2 k x0 x3 x4 x7 true ((rd_T29 x4 x7).f0) ((rd_T29 x4 x7).f1) ((rd_T29 x4 x7).f2) ((rd_T29 x4 x7).f3)) else (unisonlaw10_LexPlaces.j2 k x0 x3 x4 x7 (decide (((rd_T29 x4 x7).f0) > 7)) ((rd_T29 x4 x7).f0) ((rd_T29 x4 x7).f1) ((rd_T29 x4 x7).f2) ((rd_T29 x4 x7).f3))))) else (none))) else (none)) else (none)) else (some x3)
def unisonlaw10_LexPlaces.j2 : Nat → ByteArray → Bool → List (S29) → Int → Bool → Int → Int → ByteArray → Int → Option (Bool)
 | 0, _, _, _, _, _, _, _, _, _ => none
 | k + 1, x0, x3, x4, x7, x96, x145000, x145001, x145002, x145003 => if x96 = true then (none) else (if x145000 = 6 then (if 1 + x145002.size ≤ 9223372036854775807 then (if 0 ≤ (wrap64 (x7 + 1)) then (if (wrap64 (x7 + 1)) < (x4.length : Int) then (if 0 ≤ x145003 then (if x145003 ≤ ((rd_T29 x4 (wrap64 (x7 + 1))).f3) then (if ((rd_T29 x4 (wrap64 (x7 + 1))).f3) ≤ (x0.size : Int) then (unisonlaw10_LexPlaces.j3 k x0 x3 x4 x7 ((⟨#[58]⟩ : ByteArray) ++ x145002) (x0.extract (x145003 : Int).toNat (((rd_T29 x4 (wrap64 (x7 + 1))).f3) : Int).toNat) x145000 x145001 x145002 x145003) else (none)) else (none)) else (none)) else (none)) else (none)) else (none)) else (if 0 ≤ (wrap64 (x7 + 1)) then (if (wrap64 (x7 + 1)) < (x4.length : Int) then (if 0 ≤ x145003 then (if x145003 ≤ ((rd_T29 x4 (wrap64 (x7 + 1))).f3) then (if ((rd_T29 x4 (wrap64 (x7 + 1))).f3) ≤ (x0.size : Int) then (unisonlaw10_LexPlaces.j4 k x0 x3 x4 x7 x145002 (x0.extract (x145003 : Int).toNat (((rd_T29 x4 (wrap64 (x7 + 1))).f3) : Int).toNat) x145000 x145001 x145002 x145003) else (none)) else (none)) else (none)) else (none)) else (none)))
def unisonlaw10_LexPlaces.j3 : Nat → ByteArray → Bool → List (S29) → Int → ByteArray → ByteArray → Int → Int → ByteArray → Int → Option (Bool)
 | 0, _, _, _, _, _, _, _, _, _, _ => none
 | k + 1, x0, x3, x4, x7, x9, x10, x145000, x145001, x145002, x145003 => if x145000 = 2 then (unisonlaw10_LexPlaces.l0 k x0 x3 x4 (wrap64 (x7 + 1))) else (if x145000 = 5 then (unisonlaw10_LexPlaces.l0 k x0 x3 x4 (wrap64 (x7 + 1))) else (if (x10.size : Int) < (x9.size : Int) then (none) else (if 0 ≤ (x9.size : Int) then (if (x9.size : Int) ≤ (x10.size : Int) then (if (x10.extract 0 ((x9.size : Int) : Int).toNat).toList = x9.toList then (unisonlaw10_LexPlaces.l0 k x0 x3 x4 (wrap64 (x7 + 1))) else (none)) else (none)) else (none))))
def unisonlaw10_LexPlaces.j4 : Nat → ByteArray → Bool → List (S29) → Int → ByteArray → ByteArray → Int → Int → ByteArray → Int → Option (Bool)
 | 0, _, _, _, _, _, _, _, _, _, _ => none
 | k + 1, x0, x3, x4, x7, x9, x10, x145000, x145001, x145002, x145003 => if x145000 = 2 then (unisonlaw10_LexPlaces.l0 k x0 x3 x4 (wrap64 (x7 + 1))) else (if x145000 = 5 then (unisonlaw10_LexPlaces.l0 k x0 x3 x4 (wrap64 (x7 + 1))) else (if (x10.size : Int) < (x9.size : Int) then (none) else (if 0 ≤ (x9.size : Int) then (if (x9.size : Int) ≤ (x10.size : Int) then (if (x10.extract 0 ((x9.size : Int) : Int).toNat).toList = x9.toList then (unisonlaw10_LexPlaces.l0 k x0 x3 x4 (wrap64 (x7 + 1))) else (none)) else (none)) else (none))))
end
def unisonlaw10_LexPlaces.f (k : Nat) (a0 : ByteArray) : Option (Bool) := (unisonlaw10_awake.f k).bind fun t136 => ((lex_Scan.f k a0).bind fun bt137 => (if bt137.2.2 = 0 then (if (bt137.1.length : Int) = 0 then (unisonlaw10_LexPlaces.j0 k a0 t136 bt137.1 true) else (if 0 ≤ (wrap64 ((bt137.1.length : Int) - 1)) then (if (wrap64 ((bt137.1.length : Int) - 1)) < (bt137.1.length : Int) then (unisonlaw10_LexPlaces.j0 k a0 t136 bt137.1 (!(((rd_T29 bt137.1 (wrap64 ((bt137.1.length : Int) - 1))).f0) == 1) || (!(((rd_T29 bt137.1 (wrap64 ((bt137.1.length : Int) - 1))).f1) == 0) || (!((((rd_T29 bt137.1 (wrap64 ((bt137.1.length : Int) - 1))).f2).toList) == ([] : List UInt8)) || (!(((rd_T29 bt137.1 (wrap64 ((bt137.1.length : Int) - 1))).f3) == (a0.size : Int))))))) else (none)) else (none))) else (if t136 = true then (if (bt137.1.length : Int) = 0 then (if bt137.2.1 ≥ 0 then (some (decide (bt137.2.1 ≤ (a0.size : Int)))) else (none)) else (none)) else (none))))
theorem unisonlaw10_LexPlaces.mono_l : ∀ k, (∀ y0 y1 y2 y3, LeO (unisonlaw10_LexPlaces.j0 k y0 y1 y2 y3) (unisonlaw10_LexPlaces.j0 (k + 1) y0 y1 y2 y3)) ∧ (∀ y0 y1 y2 y3, LeO (unisonlaw10_LexPlaces.l0 k y0 y1 y2 y3) (unisonlaw10_LexPlaces.l0 (k + 1) y0 y1 y2 y3)) ∧ (∀ y0 y1 y2 y3 y4 y5 y6 y7 y8, LeO (unisonlaw10_LexPlaces.j2 k y0 y1 y2 y3 y4 y5 y6 y7 y8) (unisonlaw10_LexPlaces.j2 (k + 1) y0 y1 y2 y3 y4 y5 y6 y7 y8)) ∧ (∀ y0 y1 y2 y3 y4 y5 y6 y7 y8 y9, LeO (unisonlaw10_LexPlaces.j3 k y0 y1 y2 y3 y4 y5 y6 y7 y8 y9) (unisonlaw10_LexPlaces.j3 (k + 1) y0 y1 y2 y3 y4 y5 y6 y7 y8 y9)) ∧ (∀ y0 y1 y2 y3 y4 y5 y6 y7 y8 y9, LeO (unisonlaw10_LexPlaces.j4 k y0 y1 y2 y3 y4 y5 y6 y7 y8 y9) (unisonlaw10_LexPlaces.j4 (k + 1) y0 y1 y2 y3 y4 y5 y6 y7 y8 y9))
 | 0 => ⟨fun _ _ _ _ r h => by simp [unisonlaw10_LexPlaces.j0] at h, fun _ _ _ _ r h => by simp [unisonlaw10_LexPlaces.l0] at h, fun _ _ _ _ _ _ _ _ _ r h => by simp [unisonlaw10_LexPlaces.j2] at h, fun _ _ _ _ _ _ _ _ _ _ r h => by simp [unisonlaw10_LexPlaces.j3] at h, fun _ _ _ _ _ _ _ _ _ _ r h => by simp [unisonlaw10_LexPlaces.j4] at h⟩
 | k + 1 => by
  obtain ⟨ih0, ih1, ih2, ih3, ih4⟩ := unisonlaw10_LexPlaces.mono_l k
  refine ⟨?_, ?_, ?_, ?_, ?_⟩
  ·
   intro y0 y1 y2 y3
   unfold unisonlaw10_LexPlaces.j0
   repeat' first
   | (with_reducible exact ih0 _ _ _ _)
   | (with_reducible exact ih1 _ _ _ _)
   | (with_reducible exact ih2 _ _ _ _ _ _ _ _ _)
   | (with_reducible exact ih3 _ _ _ _ _ _ _ _ _ _)
   | (with_reducible exact ih4 _ _ _ _ _ _ _ _ _ _)
   | (with_reducible exact lex_Scan.mono _ _)
   | (with_reducible exact unisonlaw10_awake.mono _)
   | (with_reducible exact LeO.refl _)
   | (with_reducible exact LeO.none _)
   | (with_reducible refine LeO.ite ?_ ?_)
   | (with_reducible refine LeO.bind ?_ (fun _ => ?_))
   | exact ih0 _ _ _ _
   | exact ih1 _ _ _ _
   | exact ih2 _ _ _ _ _ _ _ _ _
   | exact ih3 _ _ _ _ _ _ _ _ _ _
   | exact ih4 _ _ _ _ _ _ _ _ _ _
   | exact lex_Scan.mono _ _
   | exact unisonlaw10_awake.mono _
   | exact LeO.none _
   | refine LeO.ite ?_ ?_
   | refine LeO.bind ?_ (fun _ => ?_)
  ·
   intro y0 y1 y2 y3
   unfold unisonlaw10_LexPlaces.l0
   repeat' first
   | (with_reducible exact ih0 _ _ _ _)
   | (with_reducible exact ih1 _ _ _ _)
   | (with_reducible exact ih2 _ _ _ _ _ _ _ _ _)
   | (with_reducible exact ih3 _ _ _ _ _ _ _ _ _ _)
   | (with_reducible exact ih4 _ _ _ _ _ _ _ _ _ _)
   | (with_reducible exact lex_Scan.mono _ _)
   | (with_reducible exact unisonlaw10_awake.mono _)
   | (with_reducible exact LeO.refl _)
   | (with_reducible exact LeO.none _)
   | (with_reducible refine LeO.ite ?_ ?_)
   | (with_reducible refine LeO.bind ?_ (fun _ => ?_))
   | exact ih0 _ _ _ _
   | exact ih1 _ _ _ _
   | exact ih2 _ _ _ _ _ _ _ _ _
   | exact ih3 _ _ _ _ _ _ _ _ _ _
   | exact ih4 _ _ _ _ _ _ _ _ _ _
   | exact lex_Scan.mono _ _
   | exact unisonlaw10_awake.mono _
   | exact LeO.none _
   | refine LeO.ite ?_ ?_
   | refine LeO.bind ?_ (fun _ => ?_)
  ·
   intro y0 y1 y2 y3 y4 y5 y6 y7 y8
   unfold unisonlaw10_LexPlaces.j2
   repeat' first
   | (with_reducible exact ih0 _ _ _ _)
   | (with_reducible exact ih1 _ _ _ _)
   | (with_reducible exact ih2 _ _ _ _ _ _ _ _ _)
   | (with_reducible exact ih3 _ _ _ _ _ _ _ _ _ _)
   | (with_reducible exact ih4 _ _ _ _ _ _ _ _ _ _)
   | (with_reducible exact lex_Scan.mono _ _)
   | (with_reducible exact unisonlaw10_awake.mono _)
   | (with_reducible exact LeO.refl _)
   | (with_reducible exact LeO.none _)
   | (with_reducible refine LeO.ite ?_ ?_)
   | (with_reducible refine LeO.bind ?_ (fun _ => ?_))
   | exact ih0 _ _ _ _
   | exact ih1 _ _ _ _
   | exact ih2 _ _ _ _ _ _ _ _ _
   | exact ih3 _ _ _ _ _ _ _ _ _ _
   | exact ih4 _ _ _ _ _ _ _ _ _ _
   | exact lex_Scan.mono _ _
   | exact unisonlaw10_awake.mono _
   | exact LeO.none _
   | refine LeO.ite ?_ ?_
   | refine LeO.bind ?_ (fun _ => ?_)
  ·
   intro y0 y1 y2 y3 y4 y5 y6 y7 y8 y9
   unfold unisonlaw10_LexPlaces.j3
   repeat' first
   | (with_reducible exact ih0 _ _ _ _)
   | (with_reducible exact ih1 _ _ _ _)
   | (with_reducible exact ih2 _ _ _ _ _ _ _ _ _)
   | (with_reducible exact ih3 _ _ _ _ _ _ _ _ _ _)
   | (with_reducible exact ih4 _ _ _ _ _ _ _ _ _ _)
   | (with_reducible exact lex_Scan.mono _ _)
   | (with_reducible exact unisonlaw10_awake.mono _)
   | (with_reducible exact LeO.refl _)
   | (with_reducible exact LeO.none _)
   | (with_reducible refine LeO.ite ?_ ?_)
   | (with_reducible refine LeO.bind ?_ (fun _ => ?_))
   | exact ih0 _ _ _ _
   | exact ih1 _ _ _ _
   | exact ih2 _ _ _ _ _ _ _ _ _
   | exact ih3 _ _ _ _ _ _ _ _ _ _
   | exact ih4 _ _ _ _ _ _ _ _ _ _
   | exact lex_Scan.mono _ _
   | exact unisonlaw10_awake.mono _
   | exact LeO.none _
   | refine LeO.ite ?_ ?_
   | refine LeO.bind ?_ (fun _ => ?_)
  ·
   intro y0 y1 y2 y3 y4 y5 y6 y7 y8 y9
   unfold unisonlaw10_LexPlaces.j4
   repeat' first
   | (with_reducible exact ih0 _ _ _ _)
   | (with_reducible exact ih1 _ _ _ _)
   | (with_reducible exact ih2 _ _ _ _ _ _ _ _ _)
   | (with_reducible exact ih3 _ _ _ _ _ _ _ _ _ _)
   | (with_reducible exact ih4 _ _ _ _ _ _ _ _ _ _)
   | (with_reducible exact lex_Scan.mono _ _)
   | (with_reducible exact unisonlaw10_awake.mono _)
   | (with_reducible exact LeO.refl _)
   | (with_reducible exact LeO.none _)
   | (with_reducible refine LeO.ite ?_ ?_)
   | (with_reducible refine LeO.bind ?_ (fun _ => ?_))
   | exact ih0 _ _ _ _
   | exact ih1 _ _ _ _
   | exact ih2 _ _ _ _ _ _ _ _ _
   | exact ih3 _ _ _ _ _ _ _ _ _ _
   | exact ih4 _ _ _ _ _ _ _ _ _ _
   | exact lex_Scan.mono _ _
   | exact unisonlaw10_awake.mono _
   | exact LeO.none _
   | refine LeO.ite ?_ ?_
   | refine LeO.bind ?_ (fun _ => ?_)
theorem unisonlaw10_LexPlaces.mono : ∀ a0 k, LeO (unisonlaw10_LexPlaces.f k a0) (unisonlaw10_LexPlaces.f (k + 1) a0) := by
 intro a0 k
 obtain ⟨ih0, ih1, ih2, ih3, ih4⟩ := unisonlaw10_LexPlaces.mono_l k
 unfold unisonlaw10_LexPlaces.f
 repeat' first
   | (with_reducible exact ih0 _ _ _ _)
   | (with_reducible exact ih1 _ _ _ _)
   | (with_reducible exact ih2 _ _ _ _ _ _ _ _ _)
   | (with_reducible exact ih3 _ _ _ _ _ _ _ _ _ _)
   | (with_reducible exact ih4 _ _ _ _ _ _ _ _ _ _)
   | (with_reducible exact lex_Scan.mono _ _)
   | (with_reducible exact unisonlaw10_awake.mono _)
   | (with_reducible exact LeO.refl _)
   | (with_reducible exact LeO.none _)
   | (with_reducible refine LeO.ite ?_ ?_)
   | (with_reducible refine LeO.bind ?_ (fun _ => ?_))
   | exact ih0 _ _ _ _
   | exact ih1 _ _ _ _
   | exact ih2 _ _ _ _ _ _ _ _ _
   | exact ih3 _ _ _ _ _ _ _ _ _ _
   | exact ih4 _ _ _ _ _ _ _ _ _ _
   | exact lex_Scan.mono _ _
   | exact unisonlaw10_awake.mono _
   | exact LeO.none _
   | refine LeO.ite ?_ ?_
   | refine LeO.bind ?_ (fun _ => ?_)
set_option maxHeartbeats 8000000 in
set_option maxRecDepth 100000 in
theorem unisonlaw10_LexPlaces.calls (k : Nat) (a0 : ByteArray) (r : Bool) (w : World) (h : unisonlaw10_LexPlaces.f k a0 = some r) (HG0 : Gw w) :
  Calls Tryd.prog 4 #[.string a0] w fun e w' => e = .returned (.bool r) ∧ Below w.heap.size w w' := by
 have HG := Aside0.mk HG0
 clear HG0
 have hu29 := Tryd.underlying29; have HB := Aside0.mk (Below.refl w.heap.size w); have H : ((unisonlaw10_awake.f k).bind fun t136 => ((lex_Scan.f k a0).bind fun bt137 => (if bt137.2.2 = 0 then (if (bt137.1.length : Int) = 0 then (unisonlaw10_LexPlaces.j0 k a0 t136 bt137.1 true) else (if 0 ≤ (wrap64 ((bt137.1.length : Int) - 1)) then (if (wrap64 ((bt137.1.length : Int) - 1)) < (bt137.1.length : Int) then (unisonlaw10_LexPlaces.j0 k a0 t136 bt137.1 (!(((rd_T29 bt137.1 (wrap64 ((bt137.1.length : Int) - 1))).f0) == 1) || (!(((rd_T29 bt137.1 (wrap64 ((bt137.1.length : Int) - 1))).f1) == 0) || (!((((rd_T29 bt137.1 (wrap64 ((bt137.1.length : Int) - 1))).f2).toList) == ([] : List UInt8)) || (!(((rd_T29 bt137.1 (wrap64 ((bt137.1.length : Int) - 1))).f3) == (a0.size : Int))))))) else (none)) else (none))) else (if t136 = true then (if (bt137.1.length : Int) = 0 then (if bt137.2.1 ≥ 0 then (some (decide (bt137.2.1 ≤ (a0.size : Int)))) else (none)) else (none)) else (none))))) = some r := h; clear h; replace H := Option.bind_eq_some_iff.mp H
 obtain ⟨t136, A20, H⟩ := H
 replace H : ((lex_Scan.f k a0).bind fun bt137 => (if bt137.2.2 = 0 then (if (bt137.1.length : Int) = 0 then (unisonlaw10_LexPlaces.j0 k a0 t136 bt137.1 true) else (if 0 ≤ (wrap64 ((bt137.1.length : Int) - 1)) then (if (wrap64 ((bt137.1.length : Int) - 1)) < (bt137.1.length : Int) then (unisonlaw10_LexPlaces.j0 k a0 t136 bt137.1 (!(((rd_T29 bt137.1 (wrap64 ((bt137.1.length : Int) - 1))).f0) == 1) || (!(((rd_T29 bt137.1 (wrap64 ((bt137.1.length : Int) - 1))).f1) == 0) || (!((((rd_T29 bt137.1 (wrap64 ((bt137.1.length : Int) - 1))).f2).toList) == ([] : List UInt8)) || (!(((rd_T29 bt137.1 (wrap64 ((bt137.1.length : Int) - 1))).f3) == (a0.size : Int))))))) else (none)) else (none))) else (if t136 = true then (if (bt137.1.length : Int) = 0 then (if bt137.2.1 ≥ 0 then (some (decide (bt137.2.1 ≤ (a0.size : Int)))) else (none)) else (none)) else (none)))) = some r := H; have A2 := Aside0.mk A20; clear A20; replace H := Option.bind_eq_some_iff.mp H
 obtain ⟨⟨t137, t138, t139⟩, A30, H⟩ := H
 replace H : (if t139 = 0 then (if (t137.length : Int) = 0 then (unisonlaw10_LexPlaces.j0 k a0 t136 t137 true) else (if 0 ≤ (wrap64 ((t137.length : Int) - 1)) then (if (wrap64 ((t137.length : Int) - 1)) < (t137.length : Int) then (unisonlaw10_LexPlaces.j0 k a0 t136 t137 (!(((rd_T29 t137 (wrap64 ((t137.length : Int) - 1))).f0) == 1) || (!(((rd_T29 t137 (wrap64 ((t137.length : Int) - 1))).f1) == 0) || (!((((rd_T29 t137 (wrap64 ((t137.length : Int) - 1))).f2).toList) == ([] : List UInt8)) || (!(((rd_T29 t137 (wrap64 ((t137.length : Int) - 1))).f3) == (a0.size : Int))))))) else (none)) else (none))) else (if t136 = true then (if (t137.length : Int) = 0 then (if t138 ≥ 0 then (some (decide (t138 ≤ (a0.size : Int)))) else (none)) else (none)) else (none))) = some r := H; have A3 := Aside0.mk A30; clear A30
 by_cases c4 : t139 = 0
 ·
  rw [if_pos c4] at H
  have c4b0 : (t139 == 0) = true := beq_iff_eq.mpr c4; have c4b1 : (t139 != 0) = false := bne_eq_false_iff_eq.mpr c4; clear c4; have HC5 := Aside0.mk H; clear H
  go_enter Tryd.func4, Tryd.ntmps4
  go_upto_region 5 with (first | (go_at_call 8; (with_reducible refine (unisonlaw10_awake.calls k  t136 _ A2.out (gk HG)).mono ?_); rintro e w6 ⟨rfl, hb⟩; replace HB := bs hb; (try clear hb); (try clear hb2); (try clear hk); (try clear hi)) | (go_at_call 13; (with_reducible refine (lex_Scan.calls k a0 t137 t138 t139 _ A3.out (gk HG)).mono ?_); rintro e w7 ⟨v140, rfl, ho0, hb⟩; have HO141 := Aside0.mk (Kd.R_lower ho0 (below_size bel)); replace HB := bs hb; (try clear hb); (try clear hb2); (try clear hk); (try clear hi); (try clear ho0)))
  repeat (go_quiet (first | (go_at_call 8; (with_reducible refine (unisonlaw10_awake.calls k  t136 _ A2.out (gk HG)).mono ?_); rintro e w6 ⟨rfl, hb⟩; replace HB := bs hb; (try clear hb); (try clear hb2); (try clear hk); (try clear hi)) | (go_at_call 13; (with_reducible refine (lex_Scan.calls k a0 t137 t138 t139 _ A3.out (gk HG)).mono ?_); rintro e w7 ⟨v140, rfl, ho0, hb⟩; have HO141 := Aside0.mk (Kd.R_lower ho0 (below_size bel)); replace HB := bs hb; (try clear hb); (try clear hb2); (try clear hk); (try clear hi); (try clear ho0))); go_upto_region 5 with (first | (go_at_call 8; (with_reducible refine (unisonlaw10_awake.calls k  t136 _ A2.out (gk HG)).mono ?_); rintro e w6 ⟨rfl, hb⟩; replace HB := bs hb; (try clear hb); (try clear hb2); (try clear hk); (try clear hi)) | (go_at_call 13; (with_reducible refine (lex_Scan.calls k a0 t137 t138 t139 _ A3.out (gk HG)).mono ?_); rintro e w7 ⟨v140, rfl, ho0, hb⟩; have HO141 := Aside0.mk (Kd.R_lower ho0 (below_size bel)); replace HB := bs hb; (try clear hb); (try clear hb2); (try clear hk); (try clear hi); (try clear ho0))))
  (try simp only [Act.put, List.setIfInBounds_toArray, List.set_cons_zero, List.set_cons_succ])
  go_cut [50] (fun v50 wc => ∃ (kq : Nat) (x50_4 : Bool), v50 = .bool x50_4 ∧ Aside0 (unisonlaw10_LexPlaces.j0 kq a0 t136 t137 x50_4 = some r) ∧ Aside0 (kq ≤ k) ∧ Aside0 (Kd.R k29 29 wc w.heap.size (fun _ => True) v140 t137) ∧ Aside0 (Below w.heap.size w wc))
  case first =>
   have H := HC5.out; clear HC5
   by_cases c8 : (t137.length : Int) = 0
   ·
    rw [if_pos c8] at H
    have c8b0 : ((t137.length : Int) == 0) = true := beq_iff_eq.mpr c8; have c8b1 : ((t137.length : Int) != 0) = false := bne_eq_false_iff_eq.mpr c8; clear c8
    (first | rw [c8b0] | (simp only [i64_w, i32_w, u8_w, u32_w]; rw [c8b0]) | rw [c8b1] | skip)
    have H' := Aside0.mk H
    clear H
    obtain ⟨Ao9, co9, eo9⟩ := Kd.R_slice HO141.out
    subst eo9
    go_wp2
    repeat (go_quiet (fail); try go_wp2)
    go_meet
    case rel => exact ⟨_, (true), (by first | rfl | (simp; done) | (simp [*]; done)), H', ⟨by first | omega | exact Nat.le_refl _⟩, ⟨by (with_reducible repeat (first | apply Kd.R_alloc | apply Kd.R_drewN | apply Kd.R_drew)); exact HO141.out⟩, ⟨by repeat (first | (with_reducible first | exact HB.out | apply below_alloc | apply pw_below_drewN | apply below_drew1) | exact HB.out)⟩⟩
   ·
    rw [if_neg c8] at H
    have c8b0 : ((t137.length : Int) == 0) = false := beq_eq_false_iff_ne.mpr c8; have c8b1 : ((t137.length : Int) != 0) = true := bne_iff_ne.mpr c8
    have c8b2 : ¬ (t137 = []) := fun h_ => c8 (by rw [h_]; rfl)
    (first | rw [c8b0] | (simp only [i64_w, i32_w, u8_w, u32_w]; rw [c8b0]) | rw [c8b1] | skip)
    obtain ⟨ji10, hji10⟩ : ∃ j_ : Int, (wrap64 ((t137.length : Int) - 1)) = j_ := ⟨_, rfl⟩
    replace H : (if 0 ≤ (ji10) then (if (ji10) < (t137.length : Int) then (unisonlaw10_LexPlaces.j0 k a0 t136 t137 (!(((rd_T29 t137 (ji10)).f0) == 1) || (!(((rd_T29 t137 (ji10)).f1) == 0) || (!((((rd_T29 t137 (ji10)).f2).toList) == ([] : List UInt8)) || (!(((rd_T29 t137 (ji10)).f3) == (a0.size : Int))))))) else (none)) else (none)) = some r := by first | (rw [hji10] at H; exact H) | (simp only [hji10] at H ⊢; exact H)
    have hji10w : (IntKind.i64.wrap ((t137.length : Int) - 1)) = ji10 := (i64_w _).trans hji10
    by_cases c11 : 0 ≤ (ji10)
    ·
     rw [if_pos c11] at H
     have c11b0 : decide (0 ≤ (ji10)) = true := decide_eq_true c11; clear c11
     by_cases c12 : (ji10) < (t137.length : Int)
     ·
      rw [if_pos c12] at H
      have c12b0 : decide ((ji10) < (t137.length : Int)) = true := decide_eq_true c12; clear c12
      have H' := Aside0.mk H
      clear H
      obtain ⟨Ao13, co13, eo13⟩ := Kd.R_slice HO141.out
      subst eo13
      have p142 : 0 ≤ ((ji10) : Int) := of_decide_eq_true (by first | (with_reducible assumption) | assumption); have q142 : (ji10) < (t137.length : Int) := of_decide_eq_true (by first | (with_reducible assumption) | assumption)
      obtain ⟨ad142, e142, hx142_0, hx142_1, hx142_2, hx142_3⟩ := at_T29 (Kd.R_reads' HO141.out).2.2 (ji10) p142 q142
      cases e142
      replace p142 := eq_true p142; replace q142 := eq_true q142
      go_wp2
      repeat (go_quiet (fail); try go_wp2)
      go_meet
      case rel => exact ⟨_, ((!(((rd_T29 t137 (ji10)).f0) == 1) || (!(((rd_T29 t137 (ji10)).f1) == 0) || (!((((rd_T29 t137 (ji10)).f2).toList) == ([] : List UInt8)) || (!(((rd_T29 t137 (ji10)).f3) == (a0.size : Int))))))), (by first | rfl | (simp; done) | (simp only [← hji10] <;> (first | rfl | simp)) | (simp [*]; done)), H', ⟨by first | omega | exact Nat.le_refl _⟩, ⟨by (with_reducible repeat (first | apply Kd.R_alloc | apply Kd.R_drewN | apply Kd.R_drew)); exact HO141.out⟩, ⟨by repeat (first | (with_reducible first | exact HB.out | apply below_alloc | apply pw_below_drewN | apply below_drew1) | exact HB.out)⟩⟩
     ·
      rw [if_neg c12] at H
      exact absurd H (by simp)
    ·
     rw [if_neg c11] at H
     exact absurd H (by simp)
  case rest =>
   clear HC5; (try clear c1); (try clear p1); (try clear q1); (try clear hx1); (try clear p2); (try clear c4); (try clear c4b0); (try clear c4b1); (try clear p6); (try clear c8); (try clear c8b0); (try clear c8b1); (try clear c8b2); (try clear c11); (try clear c11b0); (try clear c12); (try clear c12b0); (try clear hx142_0); (try clear hx142_1); (try clear hx142_2); (try clear hx142_3); (try clear p142); (try clear q142)
   obtain ⟨kq, x50_4, rfl, HA, HJ4, HO_4, HB⟩ := hcut
   cases kq with
   | zero => exact absurd HA.out (by simp [unisonlaw10_LexPlaces.j0])
   | succ kj4 =>
    have H := HA.out; clear HA
    simp only [unisonlaw10_LexPlaces.j0] at H
    by_cases c14 : x50_4 = true
    ·
     subst c14
     have H1 : (none) = some r := by rw [if_pos rfl] at H; exact H
     clear H; have H := H1; clear H1
     exact absurd H (by simp)
    ·
     replace c14 := Bool.eq_false_iff.mpr c14
     subst c14
     have H1 : (unisonlaw10_LexPlaces.l0 kj4 a0 t136 t137 0) = some r := by rw [if_neg (show ¬ (false = true) by decide)] at H; exact H
     clear H; have H := H1; clear H1
     have H' := Aside0.mk H
     clear H
     go_wp2
     repeat (go_quiet (fail); try go_wp2)
     go_loopg [7] kj4 (fun kq v7 w' => ∃ (x7_2 : Int), v7 = .int .i64 x7_2 ∧ Aside0 (unisonlaw10_LexPlaces.l0 kq a0 t136 t137 x7_2 = some r) ∧ Aside0 (kq ≤ kj4) ∧ Aside0 (Kd.R k29 29 w' w.heap.size (fun _ => True) v140 t137) ∧ Aside0 (Below w.heap.size w w'))
     case atStart => exact ⟨(0), (by first | rfl | (simp; done) | (simp [*]; done)), H', ⟨Nat.le_refl _⟩, ⟨by (with_reducible repeat (first | apply Kd.R_alloc | apply Kd.R_drewN | apply Kd.R_drew)); exact HO_4.out⟩, ⟨by repeat (first | (with_reducible first | exact HB.out | apply below_alloc | apply pw_below_drewN | apply below_drew1) | exact HB.out)⟩⟩
     case round =>
      clear H'
      (try clear c1); (try clear p1); (try clear q1); (try clear hx1); (try clear p2); (try clear c4); (try clear c4b0); (try clear c4b1); (try clear p6); (try clear c8); (try clear c8b0); (try clear c8b1); (try clear c8b2); (try clear c11); (try clear c11b0); (try clear c12); (try clear c12b0); (try clear c14); (try clear p14); (try clear q14); (try clear hx14); (try clear hx142_0); (try clear hx142_1); (try clear hx142_2); (try clear hx142_3); (try clear p1); (try clear p142); (try clear p2); (try clear p6); (try clear q1); (try clear q142)
      obtain ⟨x7_2, rfl, HA, HK2, HO_4, HB⟩ := hrel
      cases gk with
      | zero => exact absurd HA.out (by simp [unisonlaw10_LexPlaces.l0])
      | succ k2 =>
       have H := HA.out; clear HA
       simp only [unisonlaw10_LexPlaces.l0] at H
       by_cases c15 : (wrap64 (x7_2 + 1)) < (t137.length : Int)
       ·
        rw [if_pos c15] at H
        have c15b0 : decide ((wrap64 (x7_2 + 1)) < (t137.length : Int)) = true := decide_eq_true c15; clear c15
        by_cases c16 : 0 ≤ x7_2
        ·
         rw [if_pos c16] at H
         have c16b0 : decide (0 ≤ x7_2) = true := decide_eq_true c16; clear c16
         by_cases c17 : x7_2 < (t137.length : Int)
         ·
          rw [if_pos c17] at H
          have c17b0 : decide (x7_2 < (t137.length : Int)) = true := decide_eq_true c17; clear c17; have HC18 := Aside0.mk H; clear H
          obtain ⟨Ao19, co19, eo19⟩ := Kd.R_slice HO_4.out
          subst eo19
          have p143 : 0 ≤ (x7_2 : Int) := of_decide_eq_true (by first | (with_reducible assumption) | assumption); have q143 : x7_2 < (t137.length : Int) := of_decide_eq_true (by first | (with_reducible assumption) | assumption)
          obtain ⟨ad143, e143, hx143_0, hx143_1, hx143_2, hx143_3⟩ := at_T29 (Kd.R_reads' HO_4.out).2.2 x7_2 p143 q143
          cases e143
          replace p143 := eq_true p143; replace q143 := eq_true q143
          go_upto_region 11 with (first | ((with_reducible refine gate_dst (N := 8) rfl ?_); (try (refine gate_guard (by rfl) ?_; dsimp only)); refine box_event ?hg (N := 8) ?hd (cs := #[.int .i64 0, .int .i64 0, .string (⟨#[]⟩ : ByteArray), .int .i64 0]) (t := 29) ?hr ?_; (case hd => rfl); (case hg => rfl); (case hr => first | (go_simp; done) | (go_simp; rfl)); intro gb144 hg w20 hbox hb; have BK144 := Aside0.mk (hbox); have GW144 := bz hg; have GE144 := bz hg; replace HO_4 := Aside0.mk (Kd.R_below (Kd.R_elderB (by (with_reducible repeat (first | apply Kd.R_alloc | apply Kd.R_drewN | apply Kd.R_drew)); exact HO_4.out) gb144 (Nat.le_of_eq hg.symm)) hb); replace HB := bs hb; clear hb hbox hg; have hcz21_0 : w20.cell? ⟨gb144, 0, none⟩ = some (.int .i64 0) := (blk_cell BK144.out 0).trans rfl; have hcz21_1 : w20.cell? ⟨gb144, 1, none⟩ = some (.int .i64 0) := (blk_cell BK144.out 1).trans rfl; have hcz21_2 : w20.cell? ⟨gb144, 2, none⟩ = some (.string (⟨#[]⟩ : ByteArray)) := (blk_cell BK144.out 2).trans rfl; have hcz21_3 : w20.cell? ⟨gb144, 3, none⟩ = some (.int .i64 0) := (blk_cell BK144.out 3).trans rfl; have hfz21_0 := blk_frozen BK144.out 0; have hfz21_1 := blk_frozen BK144.out 1; have hfz21_2 := blk_frozen BK144.out 2; have hfz21_3 := blk_frozen BK144.out 3) | ((with_reducible refine gate_store (t := 29) (p := 8) rfl ?_); (try (rw [drewN_self w20]; generalize hq_ : World.drewN w20 _ = w20; replace HO_4 := Aside0.mk (Kd.R_at hq_ HO_4.out); replace BK144 := Aside0.mk (blk_at hq_ BK144.out); replace HB := Aside0.mk (below_at hq_ HB.out); clear hq_)); refine store_event (t := 29) (p := 8) (v := ?vo_w22) (w1 := ((((w20.setCell ⟨gb144, 0, none⟩ (.int .i64 ((rd_T29 t137 x7_2).f0))).setCell ⟨gb144, 1, none⟩ (.int .i64 ((rd_T29 t137 x7_2).f1))).setCell ⟨gb144, 2, none⟩ (.string ((rd_T29 t137 x7_2).f2))).setCell ⟨gb144, 3, none⟩ (.int .i64 ((rd_T29 t137 x7_2).f3)))) ?hg ?ho ?hn ?hr ?_; (case ho => rfl); (case hg => rfl); (case hn => rfl); (case hr => first | (go_simp; done) | (go_simp; rfl)); intro w22 hw; replace HO_4 : Aside0 (Kd.R k29 29 w22 w.heap.size (fun k_ => k_ ≠ gb144) (.slice (some ad143) t137.length co19) t137) := ⟨(by rw [hw]; exact (by (with_reducible repeat (first | apply Kd.R_alloc | apply Kd.R_drewN | apply Kd.R_drew)); exact Kd.R_mono (Kd.R_far (p := ⟨gb144, 3, none⟩) (Kd.R_far (p := ⟨gb144, 2, none⟩) (Kd.R_far (p := ⟨gb144, 1, none⟩) (Kd.R_far (p := ⟨gb144, 0, none⟩) (Kd.R_mono HO_4.out (fun k_ hk => (⟨hk, hk.2⟩ : _ ∧ k_ ≠ gb144))) (fun _ hk => hk.2) (.int .i64 ((rd_T29 t137 x7_2).f0))) (fun _ hk => hk.2) (.int .i64 ((rd_T29 t137 x7_2).f1))) (fun _ hk => hk.2) (.string ((rd_T29 t137 x7_2).f2))) (fun _ hk => hk.2) (.int .i64 ((rd_T29 t137 x7_2).f3))) (fun _ hk => hk.1.2)))⟩; replace BK144 : Aside0 (w22.heap[gb144]? = some (.cells #[.int .i64 ((rd_T29 t137 x7_2).f0), .int .i64 ((rd_T29 t137 x7_2).f1), .string ((rd_T29 t137 x7_2).f2), .int .i64 ((rd_T29 t137 x7_2).f3)] 29 (0, 0))) := bp BK144 hw; replace HB := bv hw; clear hw))
          repeat (go_quiet (first | ((with_reducible refine gate_dst (N := 8) rfl ?_); (try (refine gate_guard (by rfl) ?_; dsimp only)); refine box_event ?hg (N := 8) ?hd (cs := #[.int .i64 0, .int .i64 0, .string (⟨#[]⟩ : ByteArray), .int .i64 0]) (t := 29) ?hr ?_; (case hd => rfl); (case hg => rfl); (case hr => first | (go_simp; done) | (go_simp; rfl)); intro gb144 hg w20 hbox hb; have BK144 := Aside0.mk (hbox); have GW144 := bz hg; have GE144 := bz hg; replace HO_4 := Aside0.mk (Kd.R_below (Kd.R_elderB (by (with_reducible repeat (first | apply Kd.R_alloc | apply Kd.R_drewN | apply Kd.R_drew)); exact HO_4.out) gb144 (Nat.le_of_eq hg.symm)) hb); replace HB := bs hb; clear hb hbox hg; have hcz21_0 : w20.cell? ⟨gb144, 0, none⟩ = some (.int .i64 0) := (blk_cell BK144.out 0).trans rfl; have hcz21_1 : w20.cell? ⟨gb144, 1, none⟩ = some (.int .i64 0) := (blk_cell BK144.out 1).trans rfl; have hcz21_2 : w20.cell? ⟨gb144, 2, none⟩ = some (.string (⟨#[]⟩ : ByteArray)) := (blk_cell BK144.out 2).trans rfl; have hcz21_3 : w20.cell? ⟨gb144, 3, none⟩ = some (.int .i64 0) := (blk_cell BK144.out 3).trans rfl; have hfz21_0 := blk_frozen BK144.out 0; have hfz21_1 := blk_frozen BK144.out 1; have hfz21_2 := blk_frozen BK144.out 2; have hfz21_3 := blk_frozen BK144.out 3) | ((with_reducible refine gate_store (t := 29) (p := 8) rfl ?_); (try (rw [drewN_self w20]; generalize hq_ : World.drewN w20 _ = w20; replace HO_4 := Aside0.mk (Kd.R_at hq_ HO_4.out); replace BK144 := Aside0.mk (blk_at hq_ BK144.out); replace HB := Aside0.mk (below_at hq_ HB.out); clear hq_)); refine store_event (t := 29) (p := 8) (v := ?vo_w22) (w1 := ((((w20.setCell ⟨gb144, 0, none⟩ (.int .i64 ((rd_T29 t137 x7_2).f0))).setCell ⟨gb144, 1, none⟩ (.int .i64 ((rd_T29 t137 x7_2).f1))).setCell ⟨gb144, 2, none⟩ (.string ((rd_T29 t137 x7_2).f2))).setCell ⟨gb144, 3, none⟩ (.int .i64 ((rd_T29 t137 x7_2).f3)))) ?hg ?ho ?hn ?hr ?_; (case ho => rfl); (case hg => rfl); (case hn => rfl); (case hr => first | (go_simp; done) | (go_simp; rfl)); intro w22 hw; replace HO_4 : Aside0 (Kd.R k29 29 w22 w.heap.size (fun k_ => k_ ≠ gb144) (.slice (some ad143) t137.length co19) t137) := ⟨(by rw [hw]; exact (by (with_reducible repeat (first | apply Kd.R_alloc | apply Kd.R_drewN | apply Kd.R_drew)); exact Kd.R_mono (Kd.R_far (p := ⟨gb144, 3, none⟩) (Kd.R_far (p := ⟨gb144, 2, none⟩) (Kd.R_far (p := ⟨gb144, 1, none⟩) (Kd.R_far (p := ⟨gb144, 0, none⟩) (Kd.R_mono HO_4.out (fun k_ hk => (⟨hk, hk.2⟩ : _ ∧ k_ ≠ gb144))) (fun _ hk => hk.2) (.int .i64 ((rd_T29 t137 x7_2).f0))) (fun _ hk => hk.2) (.int .i64 ((rd_T29 t137 x7_2).f1))) (fun _ hk => hk.2) (.string ((rd_T29 t137 x7_2).f2))) (fun _ hk => hk.2) (.int .i64 ((rd_T29 t137 x7_2).f3))) (fun _ hk => hk.1.2)))⟩; replace BK144 : Aside0 (w22.heap[gb144]? = some (.cells #[.int .i64 ((rd_T29 t137 x7_2).f0), .int .i64 ((rd_T29 t137 x7_2).f1), .string ((rd_T29 t137 x7_2).f2), .int .i64 ((rd_T29 t137 x7_2).f3)] 29 (0, 0))) := bp BK144 hw; replace HB := bv hw; clear hw)); go_upto_region 11 with (first | ((with_reducible refine gate_dst (N := 8) rfl ?_); (try (refine gate_guard (by rfl) ?_; dsimp only)); refine box_event ?hg (N := 8) ?hd (cs := #[.int .i64 0, .int .i64 0, .string (⟨#[]⟩ : ByteArray), .int .i64 0]) (t := 29) ?hr ?_; (case hd => rfl); (case hg => rfl); (case hr => first | (go_simp; done) | (go_simp; rfl)); intro gb144 hg w20 hbox hb; have BK144 := Aside0.mk (hbox); have GW144 := bz hg; have GE144 := bz hg; replace HO_4 := Aside0.mk (Kd.R_below (Kd.R_elderB (by (with_reducible repeat (first | apply Kd.R_alloc | apply Kd.R_drewN | apply Kd.R_drew)); exact HO_4.out) gb144 (Nat.le_of_eq hg.symm)) hb); replace HB := bs hb; clear hb hbox hg; have hcz21_0 : w20.cell? ⟨gb144, 0, none⟩ = some (.int .i64 0) := (blk_cell BK144.out 0).trans rfl; have hcz21_1 : w20.cell? ⟨gb144, 1, none⟩ = some (.int .i64 0) := (blk_cell BK144.out 1).trans rfl; have hcz21_2 : w20.cell? ⟨gb144, 2, none⟩ = some (.string (⟨#[]⟩ : ByteArray)) := (blk_cell BK144.out 2).trans rfl; have hcz21_3 : w20.cell? ⟨gb144, 3, none⟩ = some (.int .i64 0) := (blk_cell BK144.out 3).trans rfl; have hfz21_0 := blk_frozen BK144.out 0; have hfz21_1 := blk_frozen BK144.out 1; have hfz21_2 := blk_frozen BK144.out 2; have hfz21_3 := blk_frozen BK144.out 3) | ((with_reducible refine gate_store (t := 29) (p := 8) rfl ?_); (try (rw [drewN_self w20]; generalize hq_ : World.drewN w20 _ = w20; replace HO_4 := Aside0.mk (Kd.R_at hq_ HO_4.out); replace BK144 := Aside0.mk (blk_at hq_ BK144.out); replace HB := Aside0.mk (below_at hq_ HB.out); clear hq_)); refine store_event (t := 29) (p := 8) (v := ?vo_w22) (w1 := ((((w20.setCell ⟨gb144, 0, none⟩ (.int .i64 ((rd_T29 t137 x7_2).f0))).setCell ⟨gb144, 1, none⟩ (.int .i64 ((rd_T29 t137 x7_2).f1))).setCell ⟨gb144, 2, none⟩ (.string ((rd_T29 t137 x7_2).f2))).setCell ⟨gb144, 3, none⟩ (.int .i64 ((rd_T29 t137 x7_2).f3)))) ?hg ?ho ?hn ?hr ?_; (case ho => rfl); (case hg => rfl); (case hn => rfl); (case hr => first | (go_simp; done) | (go_simp; rfl)); intro w22 hw; replace HO_4 : Aside0 (Kd.R k29 29 w22 w.heap.size (fun k_ => k_ ≠ gb144) (.slice (some ad143) t137.length co19) t137) := ⟨(by rw [hw]; exact (by (with_reducible repeat (first | apply Kd.R_alloc | apply Kd.R_drewN | apply Kd.R_drew)); exact Kd.R_mono (Kd.R_far (p := ⟨gb144, 3, none⟩) (Kd.R_far (p := ⟨gb144, 2, none⟩) (Kd.R_far (p := ⟨gb144, 1, none⟩) (Kd.R_far (p := ⟨gb144, 0, none⟩) (Kd.R_mono HO_4.out (fun k_ hk => (⟨hk, hk.2⟩ : _ ∧ k_ ≠ gb144))) (fun _ hk => hk.2) (.int .i64 ((rd_T29 t137 x7_2).f0))) (fun _ hk => hk.2) (.int .i64 ((rd_T29 t137 x7_2).f1))) (fun _ hk => hk.2) (.string ((rd_T29 t137 x7_2).f2))) (fun _ hk => hk.2) (.int .i64 ((rd_T29 t137 x7_2).f3))) (fun _ hk => hk.1.2)))⟩; replace BK144 : Aside0 (w22.heap[gb144]? = some (.cells #[.int .i64 ((rd_T29 t137 x7_2).f0), .int .i64 ((rd_T29 t137 x7_2).f1), .string ((rd_T29 t137 x7_2).f2), .int .i64 ((rd_T29 t137 x7_2).f3)] 29 (0, 0))) := bp BK144 hw; replace HB := bv hw; clear hw)))
          (try simp only [Act.put, List.setIfInBounds_toArray, List.set_cons_zero, List.set_cons_succ])
          go_cut [96] (fun v96 wc => ∃ (kq : Nat) (x96_17 : Bool), v96 = .bool x96_17 ∧ Aside0 (unisonlaw10_LexPlaces.j2 kq a0 t136 t137 x7_2 x96_17 ((rd_T29 t137 x7_2).f0) ((rd_T29 t137 x7_2).f1) ((rd_T29 t137 x7_2).f2) ((rd_T29 t137 x7_2).f3) = some r) ∧ Aside0 (kq ≤ k2) ∧ Aside0 (Kd.R k29 29 wc w.heap.size (fun k_ => k_ ≠ gb144) (.slice (some ad143) t137.length co19) t137) ∧ Aside0 (wc.heap[gb144]? = some (.cells #[.int .i64 ((rd_T29 t137 x7_2).f0), .int .i64 ((rd_T29 t137 x7_2).f1), .string ((rd_T29 t137 x7_2).f2), .int .i64 ((rd_T29 t137 x7_2).f3)] 29 (0, 0))) ∧ Aside0 (Below w.heap.size w wc))
          case first =>
           have H := HC18.out; clear HC18
           by_cases c23 : ((rd_T29 t137 x7_2).f3) < 0
           ·
            rw [if_pos c23] at H
            have c23b0 : decide (((rd_T29 t137 x7_2).f3) < 0) = true := decide_eq_true c23; clear c23
            (first | rw [c23b0] | (simp only [i64_w, i32_w, u8_w, u32_w]; rw [c23b0]) | rw [c23b1] | skip)
            have H' := Aside0.mk H
            clear H; have hcz24_0 : w22.cell? ⟨gb144, 0, none⟩ = some (.int .i64 ((rd_T29 t137 x7_2).f0)) := (blk_cell BK144.out 0).trans rfl; have hcz24_1 : w22.cell? ⟨gb144, 1, none⟩ = some (.int .i64 ((rd_T29 t137 x7_2).f1)) := (blk_cell BK144.out 1).trans rfl; have hcz24_2 : w22.cell? ⟨gb144, 2, none⟩ = some (.string ((rd_T29 t137 x7_2).f2)) := (blk_cell BK144.out 2).trans rfl; have hcz24_3 : w22.cell? ⟨gb144, 3, none⟩ = some (.int .i64 ((rd_T29 t137 x7_2).f3)) := (blk_cell BK144.out 3).trans rfl; have hfz24_0 := blk_frozen BK144.out 0; have hfz24_1 := blk_frozen BK144.out 1; have hfz24_2 := blk_frozen BK144.out 2; have hfz24_3 := blk_frozen BK144.out 3
            go_wp2
            repeat (go_quiet (fail); try go_wp2)
            go_meet
            case rel => exact ⟨_, (true), (by first | rfl | (simp; done) | (simp [*]; done)), H', ⟨by have := HJ4.out; have := HK2.out; first | omega | exact Nat.le_refl _⟩, ⟨by (with_reducible repeat (first | apply Kd.R_alloc | apply Kd.R_drewN | apply Kd.R_drew)); exact HO_4.out⟩, ⟨by (with_reducible repeat (first | refine blk_drewN ?_ _ | refine blk_drew ?_ | refine blk_alloc ?_ _)); exact BK144.out⟩, ⟨by repeat (first | (with_reducible first | exact HB.out | apply below_alloc | apply pw_below_drewN | apply below_drew1 | refine below_set ?_ GE144.out) | exact HB.out)⟩⟩
           ·
            rw [if_neg c23] at H
            have c23b0 : decide (((rd_T29 t137 x7_2).f3) < 0) = false := decide_eq_false c23; clear c23
            (first | rw [c23b0] | (simp only [i64_w, i32_w, u8_w, u32_w]; rw [c23b0]) | rw [c23b1] | skip)
            obtain ⟨ji25, hji25⟩ : ∃ j_ : Int, (wrap64 (x7_2 + 1)) = j_ := ⟨_, rfl⟩
            replace H : (if 0 ≤ (ji25) then (if ((rd_T29 t137 x7_2).f3) ≥ ((rd_T29 t137 (ji25)).f3) then (unisonlaw10_LexPlaces.j2 k2 a0 t136 t137 x7_2 true ((rd_T29 t137 x7_2).f0) ((rd_T29 t137 x7_2).f1) ((rd_T29 t137 x7_2).f2) ((rd_T29 t137 x7_2).f3)) else (if ((rd_T29 t137 (ji25)).f3) > (a0.size : Int) then (unisonlaw10_LexPlaces.j2 k2 a0 t136 t137 x7_2 true ((rd_T29 t137 x7_2).f0) ((rd_T29 t137 x7_2).f1) ((rd_T29 t137 x7_2).f2) ((rd_T29 t137 x7_2).f3)) else (if ((rd_T29 t137 x7_2).f0) < 2 then (unisonlaw10_LexPlaces.j2 k2 a0 t136 t137 x7_2 true ((rd_T29 t137 x7_2).f0) ((rd_T29 t137 x7_2).f1) ((rd_T29 t137 x7_2).f2) ((rd_T29 t137 x7_2).f3)) else (unisonlaw10_LexPlaces.j2 k2 a0 t136 t137 x7_2 (decide (((rd_T29 t137 x7_2).f0) > 7)) ((rd_T29 t137 x7_2).f0) ((rd_T29 t137 x7_2).f1) ((rd_T29 t137 x7_2).f2) ((rd_T29 t137 x7_2).f3))))) else (none)) = some r := by first | (rw [hji25] at H; exact H) | (simp only [hji25] at H ⊢; exact H)
            (try rw [hji25] at c15b0)
            have hji25w : (IntKind.i64.wrap (x7_2 + 1)) = ji25 := (i64_w _).trans hji25
            by_cases c26 : 0 ≤ (ji25)
            ·
             rw [if_pos c26] at H
             have c26b0 : decide (0 ≤ (ji25)) = true := decide_eq_true c26; clear c26
             by_cases c27 : ((rd_T29 t137 x7_2).f3) ≥ ((rd_T29 t137 (ji25)).f3)
             ·
              rw [if_pos c27] at H
              have c27b0 : decide (((rd_T29 t137 (ji25)).f3) ≤ ((rd_T29 t137 x7_2).f3)) = true := decide_eq_true c27; clear c27
              have H' := Aside0.mk H
              clear H; have hcz28_0 : w22.cell? ⟨gb144, 0, none⟩ = some (.int .i64 ((rd_T29 t137 x7_2).f0)) := (blk_cell BK144.out 0).trans rfl; have hcz28_1 : w22.cell? ⟨gb144, 1, none⟩ = some (.int .i64 ((rd_T29 t137 x7_2).f1)) := (blk_cell BK144.out 1).trans rfl; have hcz28_2 : w22.cell? ⟨gb144, 2, none⟩ = some (.string ((rd_T29 t137 x7_2).f2)) := (blk_cell BK144.out 2).trans rfl; have hcz28_3 : w22.cell? ⟨gb144, 3, none⟩ = some (.int .i64 ((rd_T29 t137 x7_2).f3)) := (blk_cell BK144.out 3).trans rfl; have hfz28_0 := blk_frozen BK144.out 0; have hfz28_1 := blk_frozen BK144.out 1; have hfz28_2 := blk_frozen BK144.out 2; have hfz28_3 := blk_frozen BK144.out 3; have p145 : 0 ≤ ((ji25) : Int) := of_decide_eq_true (by first | (with_reducible assumption) | assumption); have q145 : (ji25) < (t137.length : Int) := of_decide_eq_true (by first | (with_reducible assumption) | assumption)
              obtain ⟨ad145, e145, hx145_0, hx145_1, hx145_2, hx145_3⟩ := at_T29 (Kd.R_reads' HO_4.out).2.2 (ji25) p145 q145
              obtain rfl : ad143 = ad145 := (by injection e145)
              replace p145 := eq_true p145; replace q145 := eq_true q145
              go_wp2
              repeat (go_quiet (fail); try go_wp2)
              go_meet
              case rel => exact ⟨_, (true), (by first | rfl | (simp; done) | (simp [*]; done)), H', ⟨by have := HJ4.out; have := HK2.out; first | omega | exact Nat.le_refl _⟩, ⟨by (with_reducible repeat (first | apply Kd.R_alloc | apply Kd.R_drewN | apply Kd.R_drew)); exact HO_4.out⟩, ⟨by (with_reducible repeat (first | refine blk_drewN ?_ _ | refine blk_drew ?_ | refine blk_alloc ?_ _)); exact BK144.out⟩, ⟨by repeat (first | (with_reducible first | exact HB.out | apply below_alloc | apply pw_below_drewN | apply below_drew1 | refine below_set ?_ GE144.out) | exact HB.out)⟩⟩
             ·
              rw [if_neg c27] at H
              have c27b0 : decide (((rd_T29 t137 (ji25)).f3) ≤ ((rd_T29 t137 x7_2).f3)) = false := decide_eq_false c27; clear c27
              by_cases c29 : ((rd_T29 t137 (ji25)).f3) > (a0.size : Int)
              ·
               rw [if_pos c29] at H
               have c29b0 : decide ((a0.size : Int) < ((rd_T29 t137 (ji25)).f3)) = true := decide_eq_true c29; clear c29
               have H' := Aside0.mk H
               clear H; have hcz30_0 : w22.cell? ⟨gb144, 0, none⟩ = some (.int .i64 ((rd_T29 t137 x7_2).f0)) := (blk_cell BK144.out 0).trans rfl; have hcz30_1 : w22.cell? ⟨gb144, 1, none⟩ = some (.int .i64 ((rd_T29 t137 x7_2).f1)) := (blk_cell BK144.out 1).trans rfl; have hcz30_2 : w22.cell? ⟨gb144, 2, none⟩ = some (.string ((rd_T29 t137 x7_2).f2)) := (blk_cell BK144.out 2).trans rfl; have hcz30_3 : w22.cell? ⟨gb144, 3, none⟩ = some (.int .i64 ((rd_T29 t137 x7_2).f3)) := (blk_cell BK144.out 3).trans rfl; have hfz30_0 := blk_frozen BK144.out 0; have hfz30_1 := blk_frozen BK144.out 1; have hfz30_2 := blk_frozen BK144.out 2; have hfz30_3 := blk_frozen BK144.out 3; have p145 : 0 ≤ ((ji25) : Int) := of_decide_eq_true (by first | (with_reducible assumption) | assumption); have q145 : (ji25) < (t137.length : Int) := of_decide_eq_true (by first | (with_reducible assumption) | assumption)
               obtain ⟨ad145, e145, hx145_0, hx145_1, hx145_2, hx145_3⟩ := at_T29 (Kd.R_reads' HO_4.out).2.2 (ji25) p145 q145
               obtain rfl : ad143 = ad145 := (by injection e145)
               replace p145 := eq_true p145; replace q145 := eq_true q145; have p146 : 0 ≤ ((ji25) : Int) := of_decide_eq_true (by first | (with_reducible assumption) | assumption); have q146 : (ji25) < (t137.length : Int) := of_decide_eq_true (by first | (with_reducible assumption) | assumption)
               obtain ⟨ad146, e146, hx146_0, hx146_1, hx146_2, hx146_3⟩ := at_T29 (Kd.R_reads' HO_4.out).2.2 (ji25) p146 q146
               obtain rfl : ad143 = ad146 := (by injection e146)
               replace p146 := eq_true p146; replace q146 := eq_true q146
               go_wp2
               repeat (go_quiet (fail); try go_wp2)
               go_meet
               case rel => exact ⟨_, (true), (by first | rfl | (simp; done) | (simp [*]; done)), H', ⟨by have := HJ4.out; have := HK2.out; first | omega | exact Nat.le_refl _⟩, ⟨by (with_reducible repeat (first | apply Kd.R_alloc | apply Kd.R_drewN | apply Kd.R_drew)); exact HO_4.out⟩, ⟨by (with_reducible repeat (first | refine blk_drewN ?_ _ | refine blk_drew ?_ | refine blk_alloc ?_ _)); exact BK144.out⟩, ⟨by repeat (first | (with_reducible first | exact HB.out | apply below_alloc | apply pw_below_drewN | apply below_drew1 | refine below_set ?_ GE144.out) | exact HB.out)⟩⟩
              ·
               rw [if_neg c29] at H
               have c29b0 : decide ((a0.size : Int) < ((rd_T29 t137 (ji25)).f3)) = false := decide_eq_false c29; clear c29
               by_cases c31 : ((rd_T29 t137 x7_2).f0) < 2
               ·
                rw [if_pos c31] at H
                have c31b0 : decide (((rd_T29 t137 x7_2).f0) < 2) = true := decide_eq_true c31; clear c31
                have H' := Aside0.mk H
                clear H; have hcz32_0 : w22.cell? ⟨gb144, 0, none⟩ = some (.int .i64 ((rd_T29 t137 x7_2).f0)) := (blk_cell BK144.out 0).trans rfl; have hcz32_1 : w22.cell? ⟨gb144, 1, none⟩ = some (.int .i64 ((rd_T29 t137 x7_2).f1)) := (blk_cell BK144.out 1).trans rfl; have hcz32_2 : w22.cell? ⟨gb144, 2, none⟩ = some (.string ((rd_T29 t137 x7_2).f2)) := (blk_cell BK144.out 2).trans rfl; have hcz32_3 : w22.cell? ⟨gb144, 3, none⟩ = some (.int .i64 ((rd_T29 t137 x7_2).f3)) := (blk_cell BK144.out 3).trans rfl; have hfz32_0 := blk_frozen BK144.out 0; have hfz32_1 := blk_frozen BK144.out 1; have hfz32_2 := blk_frozen BK144.out 2; have hfz32_3 := blk_frozen BK144.out 3; have p145 : 0 ≤ ((ji25) : Int) := of_decide_eq_true (by first | (with_reducible assumption) | assumption); have q145 : (ji25) < (t137.length : Int) := of_decide_eq_true (by first | (with_reducible assumption) | assumption)
                obtain ⟨ad145, e145, hx145_0, hx145_1, hx145_2, hx145_3⟩ := at_T29 (Kd.R_reads' HO_4.out).2.2 (ji25) p145 q145
                obtain rfl : ad143 = ad145 := (by injection e145)
                replace p145 := eq_true p145; replace q145 := eq_true q145; have p146 : 0 ≤ ((ji25) : Int) := of_decide_eq_true (by first | (with_reducible assumption) | assumption); have q146 : (ji25) < (t137.length : Int) := of_decide_eq_true (by first | (with_reducible assumption) | assumption)
                obtain ⟨ad146, e146, hx146_0, hx146_1, hx146_2, hx146_3⟩ := at_T29 (Kd.R_reads' HO_4.out).2.2 (ji25) p146 q146
                obtain rfl : ad143 = ad146 := (by injection e146)
                replace p146 := eq_true p146; replace q146 := eq_true q146
                go_wp2
                repeat (go_quiet (fail); try go_wp2)
                go_meet
                case rel => exact ⟨_, (true), (by first | rfl | (simp; done) | (simp [*]; done)), H', ⟨by have := HJ4.out; have := HK2.out; first | omega | exact Nat.le_refl _⟩, ⟨by (with_reducible repeat (first | apply Kd.R_alloc | apply Kd.R_drewN | apply Kd.R_drew)); exact HO_4.out⟩, ⟨by (with_reducible repeat (first | refine blk_drewN ?_ _ | refine blk_drew ?_ | refine blk_alloc ?_ _)); exact BK144.out⟩, ⟨by repeat (first | (with_reducible first | exact HB.out | apply below_alloc | apply pw_below_drewN | apply below_drew1 | refine below_set ?_ GE144.out) | exact HB.out)⟩⟩
               ·
                rw [if_neg c31] at H
                have c31b0 : decide (((rd_T29 t137 x7_2).f0) < 2) = false := decide_eq_false c31; clear c31
                have H' := Aside0.mk H
                clear H; have hcz33_0 : w22.cell? ⟨gb144, 0, none⟩ = some (.int .i64 ((rd_T29 t137 x7_2).f0)) := (blk_cell BK144.out 0).trans rfl; have hcz33_1 : w22.cell? ⟨gb144, 1, none⟩ = some (.int .i64 ((rd_T29 t137 x7_2).f1)) := (blk_cell BK144.out 1).trans rfl; have hcz33_2 : w22.cell? ⟨gb144, 2, none⟩ = some (.string ((rd_T29 t137 x7_2).f2)) := (blk_cell BK144.out 2).trans rfl; have hcz33_3 : w22.cell? ⟨gb144, 3, none⟩ = some (.int .i64 ((rd_T29 t137 x7_2).f3)) := (blk_cell BK144.out 3).trans rfl; have hfz33_0 := blk_frozen BK144.out 0; have hfz33_1 := blk_frozen BK144.out 1; have hfz33_2 := blk_frozen BK144.out 2; have hfz33_3 := blk_frozen BK144.out 3; have p145 : 0 ≤ ((ji25) : Int) := of_decide_eq_true (by first | (with_reducible assumption) | assumption); have q145 : (ji25) < (t137.length : Int) := of_decide_eq_true (by first | (with_reducible assumption) | assumption)
                obtain ⟨ad145, e145, hx145_0, hx145_1, hx145_2, hx145_3⟩ := at_T29 (Kd.R_reads' HO_4.out).2.2 (ji25) p145 q145
                obtain rfl : ad143 = ad145 := (by injection e145)
                replace p145 := eq_true p145; replace q145 := eq_true q145; have p146 : 0 ≤ ((ji25) : Int) := of_decide_eq_true (by first | (with_reducible assumption) | assumption); have q146 : (ji25) < (t137.length : Int) := of_decide_eq_true (by first | (with_reducible assumption) | assumption)
                obtain ⟨ad146, e146, hx146_0, hx146_1, hx146_2, hx146_3⟩ := at_T29 (Kd.R_reads' HO_4.out).2.2 (ji25) p146 q146
                obtain rfl : ad143 = ad146 := (by injection e146)
                replace p146 := eq_true p146; replace q146 := eq_true q146
                go_wp2
                repeat (go_quiet (fail); try go_wp2)
                go_meet
                case rel => exact ⟨_, (decide (((rd_T29 t137 x7_2).f0) > 7)), (by first | rfl | (simp; done) | (simp [*]; done)), H', ⟨by have := HJ4.out; have := HK2.out; first | omega | exact Nat.le_refl _⟩, ⟨by (with_reducible repeat (first | apply Kd.R_alloc | apply Kd.R_drewN | apply Kd.R_drew)); exact HO_4.out⟩, ⟨by (with_reducible repeat (first | refine blk_drewN ?_ _ | refine blk_drew ?_ | refine blk_alloc ?_ _)); exact BK144.out⟩, ⟨by repeat (first | (with_reducible first | exact HB.out | apply below_alloc | apply pw_below_drewN | apply below_drew1 | refine below_set ?_ GE144.out) | exact HB.out)⟩⟩
            ·
             rw [if_neg c26] at H
             exact absurd H (by simp)
          case rest =>
           clear HC18; (try clear c1); (try clear p1); (try clear q1); (try clear hx1); (try clear c2); (try clear p2); (try clear c3); (try clear c4); (try clear c4b0); (try clear c4b1); (try clear p6); (try clear c8); (try clear c8b0); (try clear c8b1); (try clear c8b2); (try clear c11); (try clear c11b0); (try clear c12); (try clear c12b0); (try clear c14); (try clear p14); (try clear q14); (try clear hx14); (try clear c15); (try clear c15b0); (try clear c16); (try clear c16b0); (try clear c17); (try clear c17b0); (try clear c23); (try clear c23b0); (try clear c23b1); (try clear c26); (try clear c26b0); (try clear c27); (try clear c27b0); (try clear c29); (try clear c29b0); (try clear c31); (try clear c31b0); (try clear hcz21_0); (try clear hcz21_1); (try clear hcz21_2); (try clear hcz21_3); (try clear hcz24_0); (try clear hcz24_1); (try clear hcz24_2); (try clear hcz24_3); (try clear hcz28_0); (try clear hcz28_1); (try clear hcz28_2); (try clear hcz28_3); (try clear hcz30_0); (try clear hcz30_1); (try clear hcz30_2); (try clear hcz30_3); (try clear hcz32_0); (try clear hcz32_1); (try clear hcz32_2); (try clear hcz32_3); (try clear hcz33_0); (try clear hcz33_1); (try clear hcz33_2); (try clear hcz33_3); (try clear hfz21_0); (try clear hfz21_1); (try clear hfz21_2); (try clear hfz21_3); (try clear hfz24_0); (try clear hfz24_1); (try clear hfz24_2); (try clear hfz24_3); (try clear hfz28_0); (try clear hfz28_1); (try clear hfz28_2); (try clear hfz28_3); (try clear hfz30_0); (try clear hfz30_1); (try clear hfz30_2); (try clear hfz30_3); (try clear hfz32_0); (try clear hfz32_1); (try clear hfz32_2); (try clear hfz32_3); (try clear hfz33_0); (try clear hfz33_1); (try clear hfz33_2); (try clear hfz33_3); (try clear hx142_0); (try clear hx142_1); (try clear hx142_2); (try clear hx142_3); (try clear hx143_0); (try clear hx143_1); (try clear hx143_2); (try clear hx143_3); (try clear hx145_0); (try clear hx145_1); (try clear hx145_2); (try clear hx145_3); (try clear hx146_0); (try clear hx146_1); (try clear hx146_2); (try clear hx146_3); (try clear p1); (try clear p14); (try clear p142); (try clear p143); (try clear p145); (try clear p146); (try clear p2); (try clear p6); (try clear q1); (try clear q14); (try clear q142); (try clear q143); (try clear q145); (try clear q146)
           obtain ⟨kq, x96_17, rfl, HA, HJ17, HO_4, BK144, HB⟩ := hcut
           cases kq with
           | zero => exact absurd HA.out (by simp [unisonlaw10_LexPlaces.j2])
           | succ kj17 =>
            have H := HA.out; clear HA
            simp only [unisonlaw10_LexPlaces.j2] at H
            by_cases c34 : x96_17 = true
            ·
             subst c34
             have H1 : (none) = some r := by rw [if_pos rfl] at H; exact H
             clear H; have H := H1; clear H1
             exact absurd H (by simp)
            ·
             replace c34 := Bool.eq_false_iff.mpr c34
             subst c34
             have H1 : (if ((rd_T29 t137 x7_2).f0) = 6 then (if 1 + ((rd_T29 t137 x7_2).f2).size ≤ 9223372036854775807 then (if 0 ≤ (wrap64 (x7_2 + 1)) then (if (wrap64 (x7_2 + 1)) < (t137.length : Int) then (if 0 ≤ ((rd_T29 t137 x7_2).f3) then (if ((rd_T29 t137 x7_2).f3) ≤ ((rd_T29 t137 (wrap64 (x7_2 + 1))).f3) then (if ((rd_T29 t137 (wrap64 (x7_2 + 1))).f3) ≤ (a0.size : Int) then (unisonlaw10_LexPlaces.j3 kj17 a0 t136 t137 x7_2 ((⟨#[58]⟩ : ByteArray) ++ ((rd_T29 t137 x7_2).f2)) (a0.extract (((rd_T29 t137 x7_2).f3) : Int).toNat (((rd_T29 t137 (wrap64 (x7_2 + 1))).f3) : Int).toNat) ((rd_T29 t137 x7_2).f0) ((rd_T29 t137 x7_2).f1) ((rd_T29 t137 x7_2).f2) ((rd_T29 t137 x7_2).f3)) else (none)) else (none)) else (none)) else (none)) else (none)) else (none)) else (if 0 ≤ (wrap64 (x7_2 + 1)) then (if (wrap64 (x7_2 + 1)) < (t137.length : Int) then (if 0 ≤ ((rd_T29 t137 x7_2).f3) then (if ((rd_T29 t137 x7_2).f3) ≤ ((rd_T29 t137 (wrap64 (x7_2 + 1))).f3) then (if ((rd_T29 t137 (wrap64 (x7_2 + 1))).f3) ≤ (a0.size : Int) then (unisonlaw10_LexPlaces.j4 kj17 a0 t136 t137 x7_2 ((rd_T29 t137 x7_2).f2) (a0.extract (((rd_T29 t137 x7_2).f3) : Int).toNat (((rd_T29 t137 (wrap64 (x7_2 + 1))).f3) : Int).toNat) ((rd_T29 t137 x7_2).f0) ((rd_T29 t137 x7_2).f1) ((rd_T29 t137 x7_2).f2) ((rd_T29 t137 x7_2).f3)) else (none)) else (none)) else (none)) else (none)) else (none))) = some r := by rw [if_neg (show ¬ (false = true) by decide)] at H; exact H
             clear H; have H := H1; clear H1
             by_cases c35 : ((rd_T29 t137 x7_2).f0) = 6
             ·
              rw [if_pos c35] at H
              have c35b0 : (((rd_T29 t137 x7_2).f0) == 6) = true := beq_iff_eq.mpr c35; have c35b1 : (((rd_T29 t137 x7_2).f0) != 6) = false := bne_eq_false_iff_eq.mpr c35; clear c35
              by_cases c36 : 1 + ((rd_T29 t137 x7_2).f2).size ≤ 9223372036854775807
              ·
               rw [if_pos c36] at H
               have c36b0 := eq_true c36; have c36b1 : decide (1 + ((rd_T29 t137 x7_2).f2).size ≤ 9223372036854775807) = true := decide_eq_true c36
               try have c36b2 : (9223372036854775807 < 1 + ((rd_T29 t137 x7_2).f2).size) = False := eq_false (Nat.not_lt.2 c36)
               have HC37 := Aside0.mk H; clear H; have hcz38_0 : wc.cell? ⟨gb144, 0, none⟩ = some (.int .i64 ((rd_T29 t137 x7_2).f0)) := (blk_cell BK144.out 0).trans rfl; have hcz38_1 : wc.cell? ⟨gb144, 1, none⟩ = some (.int .i64 ((rd_T29 t137 x7_2).f1)) := (blk_cell BK144.out 1).trans rfl; have hcz38_2 : wc.cell? ⟨gb144, 2, none⟩ = some (.string ((rd_T29 t137 x7_2).f2)) := (blk_cell BK144.out 2).trans rfl; have hcz38_3 : wc.cell? ⟨gb144, 3, none⟩ = some (.int .i64 ((rd_T29 t137 x7_2).f3)) := (blk_cell BK144.out 3).trans rfl; have hfz38_0 := blk_frozen BK144.out 0; have hfz38_1 := blk_frozen BK144.out 1; have hfz38_2 := blk_frozen BK144.out 2; have hfz38_3 := blk_frozen BK144.out 3
               go_upto_region 16 with (fail)
               repeat (go_quiet (fail); go_upto_region 16 with (fail))
               go_cut [10] (fun v10 wc => ∃ (kq : Nat) (x10_36 : ByteArray), v10 = .string x10_36 ∧ Aside0 (unisonlaw10_LexPlaces.j3 kq a0 t136 t137 x7_2 ((⟨#[58]⟩ : ByteArray) ++ ((rd_T29 t137 x7_2).f2)) x10_36 ((rd_T29 t137 x7_2).f0) ((rd_T29 t137 x7_2).f1) ((rd_T29 t137 x7_2).f2) ((rd_T29 t137 x7_2).f3) = some r) ∧ Aside0 (kq ≤ kj17) ∧ Aside0 (Kd.R k29 29 wc w.heap.size (fun k_ => k_ ≠ gb144) (.slice (some ad143) t137.length co19) t137) ∧ Aside0 (wc.heap[gb144]? = some (.cells #[.int .i64 ((rd_T29 t137 x7_2).f0), .int .i64 ((rd_T29 t137 x7_2).f1), .string ((rd_T29 t137 x7_2).f2), .int .i64 ((rd_T29 t137 x7_2).f3)] 29 (0, 0))) ∧ Aside0 (Below w.heap.size w wc))
               case first =>
                have H := HC37.out; clear HC37
                obtain ⟨ji39, hji39⟩ : ∃ j_ : Int, (wrap64 (x7_2 + 1)) = j_ := ⟨_, rfl⟩
                replace H : (if 0 ≤ (ji39) then (if (ji39) < (t137.length : Int) then (if 0 ≤ ((rd_T29 t137 x7_2).f3) then (if ((rd_T29 t137 x7_2).f3) ≤ ((rd_T29 t137 (ji39)).f3) then (if ((rd_T29 t137 (ji39)).f3) ≤ (a0.size : Int) then (unisonlaw10_LexPlaces.j3 kj17 a0 t136 t137 x7_2 ((⟨#[58]⟩ : ByteArray) ++ ((rd_T29 t137 x7_2).f2)) (a0.extract (((rd_T29 t137 x7_2).f3) : Int).toNat (((rd_T29 t137 (ji39)).f3) : Int).toNat) ((rd_T29 t137 x7_2).f0) ((rd_T29 t137 x7_2).f1) ((rd_T29 t137 x7_2).f2) ((rd_T29 t137 x7_2).f3)) else (none)) else (none)) else (none)) else (none)) else (none)) = some r := by first | (rw [hji39] at H; exact H) | (simp only [hji39] at H ⊢; exact H)
                (try rw [hji39] at c15b0)
                have hji39w : (IntKind.i64.wrap (x7_2 + 1)) = ji39 := (i64_w _).trans hji39
                by_cases c40 : 0 ≤ (ji39)
                ·
                 rw [if_pos c40] at H
                 have c40b0 : decide (0 ≤ (ji39)) = true := decide_eq_true c40; clear c40
                 (first | rw [c40b0] | (simp only [i64_w, i32_w, u8_w, u32_w]; rw [c40b0]) | rw [c40b1] | skip)
                 by_cases c41 : (ji39) < (t137.length : Int)
                 ·
                  rw [if_pos c41] at H
                  have c41b0 : decide ((ji39) < (t137.length : Int)) = true := decide_eq_true c41; clear c41
                  by_cases c42 : 0 ≤ ((rd_T29 t137 x7_2).f3)
                  ·
                   rw [if_pos c42] at H
                   have c42b0 := eq_true c42; have c42b1 : decide (0 ≤ ((rd_T29 t137 x7_2).f3)) = true := decide_eq_true c42; clear c42
                   by_cases c43 : ((rd_T29 t137 x7_2).f3) ≤ ((rd_T29 t137 (ji39)).f3)
                   ·
                    rw [if_pos c43] at H
                    have c43b0 := eq_true c43; have c43b1 : decide (((rd_T29 t137 x7_2).f3) ≤ ((rd_T29 t137 (ji39)).f3)) = true := decide_eq_true c43; clear c43
                    by_cases c44 : ((rd_T29 t137 (ji39)).f3) ≤ (a0.size : Int)
                    ·
                     rw [if_pos c44] at H
                     have c44b0 := eq_true c44; have c44b1 : decide (((rd_T29 t137 (ji39)).f3) ≤ (a0.size : Int)) = true := decide_eq_true c44; clear c44
                     have H' := Aside0.mk H
                     clear H; have hcz45_0 : wc.cell? ⟨gb144, 0, none⟩ = some (.int .i64 ((rd_T29 t137 x7_2).f0)) := (blk_cell BK144.out 0).trans rfl; have hcz45_1 : wc.cell? ⟨gb144, 1, none⟩ = some (.int .i64 ((rd_T29 t137 x7_2).f1)) := (blk_cell BK144.out 1).trans rfl; have hcz45_2 : wc.cell? ⟨gb144, 2, none⟩ = some (.string ((rd_T29 t137 x7_2).f2)) := (blk_cell BK144.out 2).trans rfl; have hcz45_3 : wc.cell? ⟨gb144, 3, none⟩ = some (.int .i64 ((rd_T29 t137 x7_2).f3)) := (blk_cell BK144.out 3).trans rfl; have hfz45_0 := blk_frozen BK144.out 0; have hfz45_1 := blk_frozen BK144.out 1; have hfz45_2 := blk_frozen BK144.out 2; have hfz45_3 := blk_frozen BK144.out 3; have p147 : 0 ≤ ((ji39) : Int) := of_decide_eq_true (by first | (with_reducible assumption) | assumption); have q147 : (ji39) < (t137.length : Int) := of_decide_eq_true (by first | (with_reducible assumption) | assumption)
                     obtain ⟨ad147, e147, hx147_0, hx147_1, hx147_2, hx147_3⟩ := at_T29 (Kd.R_reads' HO_4.out).2.2 (ji39) p147 q147
                     obtain rfl : ad143 = ad147 := (by injection e147)
                     replace p147 := eq_true p147; replace q147 := eq_true q147
                     go_wp2
                     repeat (go_quiet (fail); try go_wp2)
                     go_meet
                     case rel => exact ⟨_, (a0.extract (((rd_T29 t137 x7_2).f3) : Int).toNat (((rd_T29 t137 (ji39)).f3) : Int).toNat), (by first | rfl | (simp; done) | (simp only [← hji39] <;> (first | rfl | simp)) | (simp [*]; done)), H', ⟨by have := HJ4.out; have := HK2.out; have := HJ17.out; first | omega | exact Nat.le_refl _⟩, ⟨by (with_reducible repeat (first | apply Kd.R_alloc | apply Kd.R_drewN | apply Kd.R_drew)); exact HO_4.out⟩, ⟨by (with_reducible repeat (first | refine blk_drewN ?_ _ | refine blk_drew ?_ | refine blk_alloc ?_ _)); exact BK144.out⟩, ⟨by repeat (first | (with_reducible first | exact HB.out | apply below_alloc | apply pw_below_drewN | apply below_drew1 | refine below_set ?_ GE144.out) | exact HB.out)⟩⟩
                    ·
                     rw [if_neg c44] at H
                     exact absurd H (by simp)
                   ·
                    rw [if_neg c43] at H
                    exact absurd H (by simp)
                  ·
                   rw [if_neg c42] at H
                   exact absurd H (by simp)
                 ·
                  rw [if_neg c41] at H
                  exact absurd H (by simp)
                ·
                 rw [if_neg c40] at H
                 exact absurd H (by simp)
               case rest =>
                clear HC37; (try clear c1); (try clear p1); (try clear q1); (try clear hx1); (try clear c2); (try clear p2); (try clear c3); (try clear c4); (try clear c4b0); (try clear c4b1); (try clear p6); (try clear c8); (try clear c8b0); (try clear c8b1); (try clear c8b2); (try clear c11); (try clear c11b0); (try clear c12); (try clear c12b0); (try clear c14); (try clear p14); (try clear q14); (try clear hx14); (try clear c15); (try clear c15b0); (try clear c16); (try clear c16b0); (try clear c17); (try clear c17b0); (try clear c23); (try clear c23b0); (try clear c23b1); (try clear c26); (try clear c26b0); (try clear c27); (try clear c27b0); (try clear c29); (try clear c29b0); (try clear c31); (try clear c31b0); (try clear c34); (try clear c35); (try clear c35b0); (try clear c35b1); (try clear c36); (try clear c36b0); (try clear c36b1); (try clear c36b2); (try clear c40); (try clear c40b0); (try clear c40b1); (try clear c41); (try clear c41b0); (try clear c42); (try clear c42b0); (try clear c42b1); (try clear c43); (try clear c43b0); (try clear c43b1); (try clear c44); (try clear c44b0); (try clear c44b1); (try clear hcz21_0); (try clear hcz21_1); (try clear hcz21_2); (try clear hcz21_3); (try clear hcz24_0); (try clear hcz24_1); (try clear hcz24_2); (try clear hcz24_3); (try clear hcz28_0); (try clear hcz28_1); (try clear hcz28_2); (try clear hcz28_3); (try clear hcz30_0); (try clear hcz30_1); (try clear hcz30_2); (try clear hcz30_3); (try clear hcz32_0); (try clear hcz32_1); (try clear hcz32_2); (try clear hcz32_3); (try clear hcz33_0); (try clear hcz33_1); (try clear hcz33_2); (try clear hcz33_3); (try clear hcz38_0); (try clear hcz38_1); (try clear hcz38_2); (try clear hcz38_3); (try clear hcz45_0); (try clear hcz45_1); (try clear hcz45_2); (try clear hcz45_3); (try clear hfz21_0); (try clear hfz21_1); (try clear hfz21_2); (try clear hfz21_3); (try clear hfz24_0); (try clear hfz24_1); (try clear hfz24_2); (try clear hfz24_3); (try clear hfz28_0); (try clear hfz28_1); (try clear hfz28_2); (try clear hfz28_3); (try clear hfz30_0); (try clear hfz30_1); (try clear hfz30_2); (try clear hfz30_3); (try clear hfz32_0); (try clear hfz32_1); (try clear hfz32_2); (try clear hfz32_3); (try clear hfz33_0); (try clear hfz33_1); (try clear hfz33_2); (try clear hfz33_3); (try clear hfz38_0); (try clear hfz38_1); (try clear hfz38_2); (try clear hfz38_3); (try clear hfz45_0); (try clear hfz45_1); (try clear hfz45_2); (try clear hfz45_3); (try clear hx142_0); (try clear hx142_1); (try clear hx142_2); (try clear hx142_3); (try clear hx143_0); (try clear hx143_1); (try clear hx143_2); (try clear hx143_3); (try clear hx145_0); (try clear hx145_1); (try clear hx145_2); (try clear hx145_3); (try clear hx146_0); (try clear hx146_1); (try clear hx146_2); (try clear hx146_3); (try clear hx147_0); (try clear hx147_1); (try clear hx147_2); (try clear hx147_3); (try clear p1); (try clear p14); (try clear p142); (try clear p143); (try clear p145); (try clear p146); (try clear p147); (try clear p2); (try clear p6); (try clear q1); (try clear q14); (try clear q142); (try clear q143); (try clear q145); (try clear q146); (try clear q147)
                obtain ⟨kq, x10_36, rfl, HA, HJ36, HO_4, BK144, HB⟩ := hcut
                cases kq with
                | zero => exact absurd HA.out (by simp [unisonlaw10_LexPlaces.j3])
                | succ kj36 =>
                 have H := HA.out; clear HA
                 simp only [unisonlaw10_LexPlaces.j3] at H
                 by_cases c46 : ((rd_T29 t137 x7_2).f0) = 2
                 ·
                  rw [if_pos c46] at H
                  have c46b0 : (((rd_T29 t137 x7_2).f0) == 2) = true := beq_iff_eq.mpr c46; have c46b1 : (((rd_T29 t137 x7_2).f0) != 2) = false := bne_eq_false_iff_eq.mpr c46; clear c46
                  have H' := Aside0.mk H
                  clear H; have hcz47_0 : wc.cell? ⟨gb144, 0, none⟩ = some (.int .i64 ((rd_T29 t137 x7_2).f0)) := (blk_cell BK144.out 0).trans rfl; have hcz47_1 : wc.cell? ⟨gb144, 1, none⟩ = some (.int .i64 ((rd_T29 t137 x7_2).f1)) := (blk_cell BK144.out 1).trans rfl; have hcz47_2 : wc.cell? ⟨gb144, 2, none⟩ = some (.string ((rd_T29 t137 x7_2).f2)) := (blk_cell BK144.out 2).trans rfl; have hcz47_3 : wc.cell? ⟨gb144, 3, none⟩ = some (.int .i64 ((rd_T29 t137 x7_2).f3)) := (blk_cell BK144.out 3).trans rfl; have hfz47_0 := blk_frozen BK144.out 0; have hfz47_1 := blk_frozen BK144.out 1; have hfz47_2 := blk_frozen BK144.out 2; have hfz47_3 := blk_frozen BK144.out 3
                  go_wp2
                  repeat (go_quiet (fail); try go_wp2)
                  go_roundg kj36
                  case measure => have := HJ4.out; have := HK2.out; have := HJ17.out; have := HJ36.out; omega
                  case rel => exact ⟨(wrap64 (x7_2 + 1)), (by first | rfl | (simp; done) | (simp [*]; done)), H', ⟨by have := HJ4.out; have := HK2.out; have := HJ17.out; have := HJ36.out; omega⟩, ⟨by (with_reducible repeat (first | apply Kd.R_alloc | apply Kd.R_drewN | apply Kd.R_drew)); exact Kd.R_mono HO_4.out (fun _ hk => trivial)⟩, ⟨by repeat (first | (with_reducible first | exact HB.out | apply below_alloc | apply pw_below_drewN | apply below_drew1 | refine below_set ?_ GE144.out) | exact HB.out)⟩⟩
                 ·
                  rw [if_neg c46] at H
                  have c46b0 : (((rd_T29 t137 x7_2).f0) == 2) = false := beq_eq_false_iff_ne.mpr c46; have c46b1 : (((rd_T29 t137 x7_2).f0) != 2) = true := bne_iff_ne.mpr c46
                  by_cases c48 : ((rd_T29 t137 x7_2).f0) = 5
                  ·
                   rw [if_pos c48] at H
                   have c48b0 : (((rd_T29 t137 x7_2).f0) == 5) = true := beq_iff_eq.mpr c48; have c48b1 : (((rd_T29 t137 x7_2).f0) != 5) = false := bne_eq_false_iff_eq.mpr c48; clear c48
                   have H' := Aside0.mk H
                   clear H; have hcz49_0 : wc.cell? ⟨gb144, 0, none⟩ = some (.int .i64 ((rd_T29 t137 x7_2).f0)) := (blk_cell BK144.out 0).trans rfl; have hcz49_1 : wc.cell? ⟨gb144, 1, none⟩ = some (.int .i64 ((rd_T29 t137 x7_2).f1)) := (blk_cell BK144.out 1).trans rfl; have hcz49_2 : wc.cell? ⟨gb144, 2, none⟩ = some (.string ((rd_T29 t137 x7_2).f2)) := (blk_cell BK144.out 2).trans rfl; have hcz49_3 : wc.cell? ⟨gb144, 3, none⟩ = some (.int .i64 ((rd_T29 t137 x7_2).f3)) := (blk_cell BK144.out 3).trans rfl; have hfz49_0 := blk_frozen BK144.out 0; have hfz49_1 := blk_frozen BK144.out 1; have hfz49_2 := blk_frozen BK144.out 2; have hfz49_3 := blk_frozen BK144.out 3
                   go_wp2
                   repeat (go_quiet (fail); try go_wp2)
                   go_roundg kj36
                   case measure => have := HJ4.out; have := HK2.out; have := HJ17.out; have := HJ36.out; omega
                   case rel => exact ⟨(wrap64 (x7_2 + 1)), (by first | rfl | (simp; done) | (simp [*]; done)), H', ⟨by have := HJ4.out; have := HK2.out; have := HJ17.out; have := HJ36.out; omega⟩, ⟨by (with_reducible repeat (first | apply Kd.R_alloc | apply Kd.R_drewN | apply Kd.R_drew)); exact Kd.R_mono HO_4.out (fun _ hk => trivial)⟩, ⟨by repeat (first | (with_reducible first | exact HB.out | apply below_alloc | apply pw_below_drewN | apply below_drew1 | refine below_set ?_ GE144.out) | exact HB.out)⟩⟩
                  ·
                   rw [if_neg c48] at H
                   have c48b0 : (((rd_T29 t137 x7_2).f0) == 5) = false := beq_eq_false_iff_ne.mpr c48; have c48b1 : (((rd_T29 t137 x7_2).f0) != 5) = true := bne_iff_ne.mpr c48
                   by_cases c50 : (x10_36.size : Int) < (((⟨#[58]⟩ : ByteArray) ++ ((rd_T29 t137 x7_2).f2)).size : Int)
                   ·
                    rw [if_pos c50] at H
                    exact absurd H (by simp)
                   ·
                    rw [if_neg c50] at H
                    have c50b0 : decide ((x10_36.size : Int) < (((⟨#[58]⟩ : ByteArray) ++ ((rd_T29 t137 x7_2).f2)).size : Int)) = false := decide_eq_false c50; have c50b1 : decide (x10_36.size < ((⟨#[58]⟩ : ByteArray) ++ ((rd_T29 t137 x7_2).f2)).size) = false := decide_eq_false (fun h => c50 (Int.ofNat_lt.mpr h)); clear c50
                    (try (have c50b0_ := c50b0; simp only [Int.toNat_natCast, ByteArray.size_append, show (⟨#[58]⟩ : ByteArray).size = 1 from rfl] at c50b0_; (try push_cast at c50b0_)))
                    (try (have c50b1_ := c50b1; simp only [Int.toNat_natCast, ByteArray.size_append, show (⟨#[58]⟩ : ByteArray).size = 1 from rfl] at c50b1_; (try push_cast at c50b1_)))
                    by_cases c51 : 0 ≤ (((⟨#[58]⟩ : ByteArray) ++ ((rd_T29 t137 x7_2).f2)).size : Int)
                    ·
                     rw [if_pos c51] at H
                     have c51b0 := eq_true c51; have c51b1 : decide (0 ≤ (((⟨#[58]⟩ : ByteArray) ++ ((rd_T29 t137 x7_2).f2)).size : Int)) = true := decide_eq_true c51
                     (try (have c51b0_ := c51b0; simp only [Int.toNat_natCast, ByteArray.size_append, show (⟨#[58]⟩ : ByteArray).size = 1 from rfl] at c51b0_; (try push_cast at c51b0_)))
                     (try (have c51b1_ := c51b1; simp only [Int.toNat_natCast, ByteArray.size_append, show (⟨#[58]⟩ : ByteArray).size = 1 from rfl] at c51b1_; (try push_cast at c51b1_)))
                     (try (have c51b0_ := c51b0; simp only [Int.toNat_natCast, ByteArray.size_append, show (⟨#[58]⟩ : ByteArray).size = 1 from rfl] at c51b0_; (try push_cast at c51b0_)))
                     by_cases c52 : (((⟨#[58]⟩ : ByteArray) ++ ((rd_T29 t137 x7_2).f2)).size : Int) ≤ (x10_36.size : Int)
                     ·
                      rw [if_pos c52] at H
                      have c52b0 := eq_true c52; have c52b1 : decide ((((⟨#[58]⟩ : ByteArray) ++ ((rd_T29 t137 x7_2).f2)).size : Int) ≤ (x10_36.size : Int)) = true := decide_eq_true c52
                      (try (have c52b0_ := c52b0; simp only [Int.toNat_natCast, ByteArray.size_append, show (⟨#[58]⟩ : ByteArray).size = 1 from rfl] at c52b0_; (try push_cast at c52b0_)))
                      (try (have c52b1_ := c52b1; simp only [Int.toNat_natCast, ByteArray.size_append, show (⟨#[58]⟩ : ByteArray).size = 1 from rfl] at c52b1_; (try push_cast at c52b1_)))
                      (try (have c52b0_ := c52b0; simp only [Int.toNat_natCast, ByteArray.size_append, show (⟨#[58]⟩ : ByteArray).size = 1 from rfl] at c52b0_; (try push_cast at c52b0_)))
                      by_cases c53 : (x10_36.extract 0 ((((⟨#[58]⟩ : ByteArray) ++ ((rd_T29 t137 x7_2).f2)).size : Int) : Int).toNat).toList = ((⟨#[58]⟩ : ByteArray) ++ ((rd_T29 t137 x7_2).f2)).toList
                      ·
                       rw [if_pos c53] at H
                       have c53b0 : ((x10_36.extract 0 ((((⟨#[58]⟩ : ByteArray) ++ ((rd_T29 t137 x7_2).f2)).size : Int) : Int).toNat).toList == ((⟨#[58]⟩ : ByteArray) ++ ((rd_T29 t137 x7_2).f2)).toList) = true := beq_iff_eq.mpr c53; have c53b1 : ((x10_36.extract 0 ((((⟨#[58]⟩ : ByteArray) ++ ((rd_T29 t137 x7_2).f2)).size : Int) : Int).toNat).toList != ((⟨#[58]⟩ : ByteArray) ++ ((rd_T29 t137 x7_2).f2)).toList) = false := bne_eq_false_iff_eq.mpr c53; clear c53
                       (try (have c53b0_ := c53b0; simp only [Int.toNat_natCast, ByteArray.size_append, show (⟨#[58]⟩ : ByteArray).size = 1 from rfl] at c53b0_; (try push_cast at c53b0_)))
                       (try (have c53b1_ := c53b1; simp only [Int.toNat_natCast, ByteArray.size_append, show (⟨#[58]⟩ : ByteArray).size = 1 from rfl] at c53b1_; (try push_cast at c53b1_)))
                       (try simp only [Int.toNat_natCast] at c53b0)
                       (try simp only [Int.toNat_natCast] at c53b1)
                       have H' := Aside0.mk H
                       clear H; have hcz54_0 : wc.cell? ⟨gb144, 0, none⟩ = some (.int .i64 ((rd_T29 t137 x7_2).f0)) := (blk_cell BK144.out 0).trans rfl; have hcz54_1 : wc.cell? ⟨gb144, 1, none⟩ = some (.int .i64 ((rd_T29 t137 x7_2).f1)) := (blk_cell BK144.out 1).trans rfl; have hcz54_2 : wc.cell? ⟨gb144, 2, none⟩ = some (.string ((rd_T29 t137 x7_2).f2)) := (blk_cell BK144.out 2).trans rfl; have hcz54_3 : wc.cell? ⟨gb144, 3, none⟩ = some (.int .i64 ((rd_T29 t137 x7_2).f3)) := (blk_cell BK144.out 3).trans rfl; have hfz54_0 := blk_frozen BK144.out 0; have hfz54_1 := blk_frozen BK144.out 1; have hfz54_2 := blk_frozen BK144.out 2; have hfz54_3 := blk_frozen BK144.out 3
                       go_wp2
                       repeat (go_quiet (fail); try go_wp2)
                       go_roundg kj36
                       case measure => have := HJ4.out; have := HK2.out; have := HJ17.out; have := HJ36.out; omega
                       case rel => exact ⟨(wrap64 (x7_2 + 1)), (by first | rfl | (simp; done) | (simp [*]; done)), H', ⟨by have := HJ4.out; have := HK2.out; have := HJ17.out; have := HJ36.out; omega⟩, ⟨by (with_reducible repeat (first | apply Kd.R_alloc | apply Kd.R_drewN | apply Kd.R_drew)); exact Kd.R_mono HO_4.out (fun _ hk => trivial)⟩, ⟨by repeat (first | (with_reducible first | exact HB.out | apply below_alloc | apply pw_below_drewN | apply below_drew1 | refine below_set ?_ GE144.out) | exact HB.out)⟩⟩
                      ·
                       rw [if_neg c53] at H
                       exact absurd H (by simp)
                     ·
                      rw [if_neg c52] at H
                      exact absurd H (by simp)
                    ·
                     rw [if_neg c51] at H
                     exact absurd H (by simp)
              ·
               rw [if_neg c36] at H
               exact absurd H (by simp)
             ·
              rw [if_neg c35] at H
              have c35b0 : (((rd_T29 t137 x7_2).f0) == 6) = false := beq_eq_false_iff_ne.mpr c35; have c35b1 : (((rd_T29 t137 x7_2).f0) != 6) = true := bne_iff_ne.mpr c35; have HC55 := Aside0.mk H; clear H; have hcz56_0 : wc.cell? ⟨gb144, 0, none⟩ = some (.int .i64 ((rd_T29 t137 x7_2).f0)) := (blk_cell BK144.out 0).trans rfl; have hcz56_1 : wc.cell? ⟨gb144, 1, none⟩ = some (.int .i64 ((rd_T29 t137 x7_2).f1)) := (blk_cell BK144.out 1).trans rfl; have hcz56_2 : wc.cell? ⟨gb144, 2, none⟩ = some (.string ((rd_T29 t137 x7_2).f2)) := (blk_cell BK144.out 2).trans rfl; have hcz56_3 : wc.cell? ⟨gb144, 3, none⟩ = some (.int .i64 ((rd_T29 t137 x7_2).f3)) := (blk_cell BK144.out 3).trans rfl; have hfz56_0 := blk_frozen BK144.out 0; have hfz56_1 := blk_frozen BK144.out 1; have hfz56_2 := blk_frozen BK144.out 2; have hfz56_3 := blk_frozen BK144.out 3
              go_upto_region 16 with (fail)
              repeat (go_quiet (fail); go_upto_region 16 with (fail))
              go_cut [10] (fun v10 wc => ∃ (kq : Nat) (x10_54 : ByteArray), v10 = .string x10_54 ∧ Aside0 (unisonlaw10_LexPlaces.j4 kq a0 t136 t137 x7_2 ((rd_T29 t137 x7_2).f2) x10_54 ((rd_T29 t137 x7_2).f0) ((rd_T29 t137 x7_2).f1) ((rd_T29 t137 x7_2).f2) ((rd_T29 t137 x7_2).f3) = some r) ∧ Aside0 (kq ≤ kj17) ∧ Aside0 (Kd.R k29 29 wc w.heap.size (fun k_ => k_ ≠ gb144) (.slice (some ad143) t137.length co19) t137) ∧ Aside0 (wc.heap[gb144]? = some (.cells #[.int .i64 ((rd_T29 t137 x7_2).f0), .int .i64 ((rd_T29 t137 x7_2).f1), .string ((rd_T29 t137 x7_2).f2), .int .i64 ((rd_T29 t137 x7_2).f3)] 29 (0, 0))) ∧ Aside0 (Below w.heap.size w wc))
              case first =>
               have H := HC55.out; clear HC55
               obtain ⟨ji57, hji57⟩ : ∃ j_ : Int, (wrap64 (x7_2 + 1)) = j_ := ⟨_, rfl⟩
               replace H : (if 0 ≤ (ji57) then (if (ji57) < (t137.length : Int) then (if 0 ≤ ((rd_T29 t137 x7_2).f3) then (if ((rd_T29 t137 x7_2).f3) ≤ ((rd_T29 t137 (ji57)).f3) then (if ((rd_T29 t137 (ji57)).f3) ≤ (a0.size : Int) then (unisonlaw10_LexPlaces.j4 kj17 a0 t136 t137 x7_2 ((rd_T29 t137 x7_2).f2) (a0.extract (((rd_T29 t137 x7_2).f3) : Int).toNat (((rd_T29 t137 (ji57)).f3) : Int).toNat) ((rd_T29 t137 x7_2).f0) ((rd_T29 t137 x7_2).f1) ((rd_T29 t137 x7_2).f2) ((rd_T29 t137 x7_2).f3)) else (none)) else (none)) else (none)) else (none)) else (none)) = some r := by first | (rw [hji57] at H; exact H) | (simp only [hji57] at H ⊢; exact H)
               (try rw [hji57] at c15b0)
               have hji57w : (IntKind.i64.wrap (x7_2 + 1)) = ji57 := (i64_w _).trans hji57
               by_cases c58 : 0 ≤ (ji57)
               ·
                rw [if_pos c58] at H
                have c58b0 : decide (0 ≤ (ji57)) = true := decide_eq_true c58; clear c58
                (first | rw [c58b0] | (simp only [i64_w, i32_w, u8_w, u32_w]; rw [c58b0]) | rw [c58b1] | skip)
                by_cases c59 : (ji57) < (t137.length : Int)
                ·
                 rw [if_pos c59] at H
                 have c59b0 : decide ((ji57) < (t137.length : Int)) = true := decide_eq_true c59; clear c59
                 by_cases c60 : 0 ≤ ((rd_T29 t137 x7_2).f3)
                 ·
                  rw [if_pos c60] at H
                  have c60b0 := eq_true c60; have c60b1 : decide (0 ≤ ((rd_T29 t137 x7_2).f3)) = true := decide_eq_true c60; clear c60
                  by_cases c61 : ((rd_T29 t137 x7_2).f3) ≤ ((rd_T29 t137 (ji57)).f3)
                  ·
                   rw [if_pos c61] at H
                   have c61b0 := eq_true c61; have c61b1 : decide (((rd_T29 t137 x7_2).f3) ≤ ((rd_T29 t137 (ji57)).f3)) = true := decide_eq_true c61; clear c61
                   by_cases c62 : ((rd_T29 t137 (ji57)).f3) ≤ (a0.size : Int)
                   ·
                    rw [if_pos c62] at H
                    have c62b0 := eq_true c62; have c62b1 : decide (((rd_T29 t137 (ji57)).f3) ≤ (a0.size : Int)) = true := decide_eq_true c62; clear c62
                    have H' := Aside0.mk H
                    clear H; have hcz63_0 : wc.cell? ⟨gb144, 0, none⟩ = some (.int .i64 ((rd_T29 t137 x7_2).f0)) := (blk_cell BK144.out 0).trans rfl; have hcz63_1 : wc.cell? ⟨gb144, 1, none⟩ = some (.int .i64 ((rd_T29 t137 x7_2).f1)) := (blk_cell BK144.out 1).trans rfl; have hcz63_2 : wc.cell? ⟨gb144, 2, none⟩ = some (.string ((rd_T29 t137 x7_2).f2)) := (blk_cell BK144.out 2).trans rfl; have hcz63_3 : wc.cell? ⟨gb144, 3, none⟩ = some (.int .i64 ((rd_T29 t137 x7_2).f3)) := (blk_cell BK144.out 3).trans rfl; have hfz63_0 := blk_frozen BK144.out 0; have hfz63_1 := blk_frozen BK144.out 1; have hfz63_2 := blk_frozen BK144.out 2; have hfz63_3 := blk_frozen BK144.out 3; have p148 : 0 ≤ ((ji57) : Int) := of_decide_eq_true (by first | (with_reducible assumption) | assumption); have q148 : (ji57) < (t137.length : Int) := of_decide_eq_true (by first | (with_reducible assumption) | assumption)
                    obtain ⟨ad148, e148, hx148_0, hx148_1, hx148_2, hx148_3⟩ := at_T29 (Kd.R_reads' HO_4.out).2.2 (ji57) p148 q148
                    obtain rfl : ad143 = ad148 := (by injection e148)
                    replace p148 := eq_true p148; replace q148 := eq_true q148
                    go_wp2
                    repeat (go_quiet (fail); try go_wp2)
                    go_meet
                    case rel => exact ⟨_, (a0.extract (((rd_T29 t137 x7_2).f3) : Int).toNat (((rd_T29 t137 (ji57)).f3) : Int).toNat), (by first | rfl | (simp; done) | (simp only [← hji57] <;> (first | rfl | simp)) | (simp [*]; done)), H', ⟨by have := HJ4.out; have := HK2.out; have := HJ17.out; first | omega | exact Nat.le_refl _⟩, ⟨by (with_reducible repeat (first | apply Kd.R_alloc | apply Kd.R_drewN | apply Kd.R_drew)); exact HO_4.out⟩, ⟨by (with_reducible repeat (first | refine blk_drewN ?_ _ | refine blk_drew ?_ | refine blk_alloc ?_ _)); exact BK144.out⟩, ⟨by repeat (first | (with_reducible first | exact HB.out | apply below_alloc | apply pw_below_drewN | apply below_drew1 | refine below_set ?_ GE144.out) | exact HB.out)⟩⟩
                   ·
                    rw [if_neg c62] at H
                    exact absurd H (by simp)
                  ·
                   rw [if_neg c61] at H
                   exact absurd H (by simp)
                 ·
                  rw [if_neg c60] at H
                  exact absurd H (by simp)
                ·
                 rw [if_neg c59] at H
                 exact absurd H (by simp)
               ·
                rw [if_neg c58] at H
                exact absurd H (by simp)
              case rest =>
               clear HC55; (try clear c1); (try clear p1); (try clear q1); (try clear hx1); (try clear c2); (try clear p2); (try clear c3); (try clear c4); (try clear c4b0); (try clear c4b1); (try clear c5); (try clear c6); (try clear p6); (try clear c8); (try clear c8b0); (try clear c8b1); (try clear c8b2); (try clear c11); (try clear c11b0); (try clear c12); (try clear c12b0); (try clear c14); (try clear p14); (try clear q14); (try clear hx14); (try clear c15); (try clear c15b0); (try clear c16); (try clear c16b0); (try clear c17); (try clear c17b0); (try clear c23); (try clear c23b0); (try clear c23b1); (try clear c26); (try clear c26b0); (try clear c27); (try clear c27b0); (try clear c29); (try clear c29b0); (try clear c31); (try clear c31b0); (try clear c34); (try clear c35); (try clear c35b0); (try clear c35b1); (try clear c36); (try clear c36b0); (try clear c36b1); (try clear c36b2); (try clear c40); (try clear c40b0); (try clear c40b1); (try clear c41); (try clear c41b0); (try clear c42); (try clear c42b0); (try clear c42b1); (try clear c43); (try clear c43b0); (try clear c43b1); (try clear c44); (try clear c44b0); (try clear c44b1); (try clear c46); (try clear c46b0); (try clear c46b1); (try clear c48); (try clear c48b0); (try clear c48b1); (try clear c50); (try clear c50b0); (try clear c50b1); (try clear c51); (try clear c51b0); (try clear c51b1); (try clear c52); (try clear c52b0); (try clear c52b1); (try clear c53); (try clear c53b0); (try clear c53b1); (try clear c58); (try clear c58b0); (try clear c58b1); (try clear c59); (try clear c59b0); (try clear c60); (try clear c60b0); (try clear c60b1); (try clear c61); (try clear c61b0); (try clear c61b1); (try clear c62); (try clear c62b0); (try clear c62b1); (try clear hcz21_0); (try clear hcz21_1); (try clear hcz21_2); (try clear hcz21_3); (try clear hcz24_0); (try clear hcz24_1); (try clear hcz24_2); (try clear hcz24_3); (try clear hcz28_0); (try clear hcz28_1); (try clear hcz28_2); (try clear hcz28_3); (try clear hcz30_0); (try clear hcz30_1); (try clear hcz30_2); (try clear hcz30_3); (try clear hcz32_0); (try clear hcz32_1); (try clear hcz32_2); (try clear hcz32_3); (try clear hcz33_0); (try clear hcz33_1); (try clear hcz33_2); (try clear hcz33_3); (try clear hcz38_0); (try clear hcz38_1); (try clear hcz38_2); (try clear hcz38_3); (try clear hcz45_0); (try clear hcz45_1); (try clear hcz45_2); (try clear hcz45_3); (try clear hcz47_0); (try clear hcz47_1); (try clear hcz47_2); (try clear hcz47_3); (try clear hcz49_0); (try clear hcz49_1); (try clear hcz49_2); (try clear hcz49_3); (try clear hcz54_0); (try clear hcz54_1); (try clear hcz54_2); (try clear hcz54_3); (try clear hcz56_0); (try clear hcz56_1); (try clear hcz56_2); (try clear hcz56_3); (try clear hcz63_0); (try clear hcz63_1); (try clear hcz63_2); (try clear hcz63_3); (try clear hfz21_0); (try clear hfz21_1); (try clear hfz21_2); (try clear hfz21_3); (try clear hfz24_0); (try clear hfz24_1); (try clear hfz24_2); (try clear hfz24_3); (try clear hfz28_0); (try clear hfz28_1); (try clear hfz28_2); (try clear hfz28_3); (try clear hfz30_0); (try clear hfz30_1); (try clear hfz30_2); (try clear hfz30_3); (try clear hfz32_0); (try clear hfz32_1); (try clear hfz32_2); (try clear hfz32_3); (try clear hfz33_0); (try clear hfz33_1); (try clear hfz33_2); (try clear hfz33_3); (try clear hfz38_0); (try clear hfz38_1); (try clear hfz38_2); (try clear hfz38_3); (try clear hfz45_0); (try clear hfz45_1); (try clear hfz45_2); (try clear hfz45_3); (try clear hfz47_0); (try clear hfz47_1); (try clear hfz47_2); (try clear hfz47_3); (try clear hfz49_0); (try clear hfz49_1); (try clear hfz49_2); (try clear hfz49_3); (try clear hfz54_0); (try clear hfz54_1); (try clear hfz54_2); (try clear hfz54_3); (try clear hfz56_0); (try clear hfz56_1); (try clear hfz56_2); (try clear hfz56_3); (try clear hfz63_0); (try clear hfz63_1); (try clear hfz63_2); (try clear hfz63_3); (try clear hx142_0); (try clear hx142_1); (try clear hx142_2); (try clear hx142_3); (try clear hx143_0); (try clear hx143_1); (try clear hx143_2); (try clear hx143_3); (try clear hx145_0); (try clear hx145_1); (try clear hx145_2); (try clear hx145_3); (try clear hx146_0); (try clear hx146_1); (try clear hx146_2); (try clear hx146_3); (try clear hx147_0); (try clear hx147_1); (try clear hx147_2); (try clear hx147_3); (try clear hx148_0); (try clear hx148_1); (try clear hx148_2); (try clear hx148_3); (try clear p1); (try clear p14); (try clear p142); (try clear p143); (try clear p145); (try clear p146); (try clear p147); (try clear p148); (try clear p2); (try clear p6); (try clear q1); (try clear q14); (try clear q142); (try clear q143); (try clear q145); (try clear q146); (try clear q147); (try clear q148)
               obtain ⟨kq, x10_54, rfl, HA, HJ54, HO_4, BK144, HB⟩ := hcut
               cases kq with
               | zero => exact absurd HA.out (by simp [unisonlaw10_LexPlaces.j4])
               | succ kj54 =>
                have H := HA.out; clear HA
                simp only [unisonlaw10_LexPlaces.j4] at H
                by_cases c64 : ((rd_T29 t137 x7_2).f0) = 2
                ·
                 rw [if_pos c64] at H
                 have c64b0 : (((rd_T29 t137 x7_2).f0) == 2) = true := beq_iff_eq.mpr c64; have c64b1 : (((rd_T29 t137 x7_2).f0) != 2) = false := bne_eq_false_iff_eq.mpr c64; clear c64
                 have H' := Aside0.mk H
                 clear H; have hcz65_0 : wc.cell? ⟨gb144, 0, none⟩ = some (.int .i64 ((rd_T29 t137 x7_2).f0)) := (blk_cell BK144.out 0).trans rfl; have hcz65_1 : wc.cell? ⟨gb144, 1, none⟩ = some (.int .i64 ((rd_T29 t137 x7_2).f1)) := (blk_cell BK144.out 1).trans rfl; have hcz65_2 : wc.cell? ⟨gb144, 2, none⟩ = some (.string ((rd_T29 t137 x7_2).f2)) := (blk_cell BK144.out 2).trans rfl; have hcz65_3 : wc.cell? ⟨gb144, 3, none⟩ = some (.int .i64 ((rd_T29 t137 x7_2).f3)) := (blk_cell BK144.out 3).trans rfl; have hfz65_0 := blk_frozen BK144.out 0; have hfz65_1 := blk_frozen BK144.out 1; have hfz65_2 := blk_frozen BK144.out 2; have hfz65_3 := blk_frozen BK144.out 3
                 go_wp2
                 repeat (go_quiet (fail); try go_wp2)
                 go_roundg kj54
                 case measure => have := HJ4.out; have := HK2.out; have := HJ17.out; have := HJ54.out; omega
                 case rel => exact ⟨(wrap64 (x7_2 + 1)), (by first | rfl | (simp; done) | (simp [*]; done)), H', ⟨by have := HJ4.out; have := HK2.out; have := HJ17.out; have := HJ54.out; omega⟩, ⟨by (with_reducible repeat (first | apply Kd.R_alloc | apply Kd.R_drewN | apply Kd.R_drew)); exact Kd.R_mono HO_4.out (fun _ hk => trivial)⟩, ⟨by repeat (first | (with_reducible first | exact HB.out | apply below_alloc | apply pw_below_drewN | apply below_drew1 | refine below_set ?_ GE144.out) | exact HB.out)⟩⟩
                ·
                 rw [if_neg c64] at H
                 have c64b0 : (((rd_T29 t137 x7_2).f0) == 2) = false := beq_eq_false_iff_ne.mpr c64; have c64b1 : (((rd_T29 t137 x7_2).f0) != 2) = true := bne_iff_ne.mpr c64
                 by_cases c66 : ((rd_T29 t137 x7_2).f0) = 5
                 ·
                  rw [if_pos c66] at H
                  have c66b0 : (((rd_T29 t137 x7_2).f0) == 5) = true := beq_iff_eq.mpr c66; have c66b1 : (((rd_T29 t137 x7_2).f0) != 5) = false := bne_eq_false_iff_eq.mpr c66; clear c66
                  have H' := Aside0.mk H
                  clear H; have hcz67_0 : wc.cell? ⟨gb144, 0, none⟩ = some (.int .i64 ((rd_T29 t137 x7_2).f0)) := (blk_cell BK144.out 0).trans rfl; have hcz67_1 : wc.cell? ⟨gb144, 1, none⟩ = some (.int .i64 ((rd_T29 t137 x7_2).f1)) := (blk_cell BK144.out 1).trans rfl; have hcz67_2 : wc.cell? ⟨gb144, 2, none⟩ = some (.string ((rd_T29 t137 x7_2).f2)) := (blk_cell BK144.out 2).trans rfl; have hcz67_3 : wc.cell? ⟨gb144, 3, none⟩ = some (.int .i64 ((rd_T29 t137 x7_2).f3)) := (blk_cell BK144.out 3).trans rfl; have hfz67_0 := blk_frozen BK144.out 0; have hfz67_1 := blk_frozen BK144.out 1; have hfz67_2 := blk_frozen BK144.out 2; have hfz67_3 := blk_frozen BK144.out 3
                  go_wp2
                  repeat (go_quiet (fail); try go_wp2)
                  go_roundg kj54
                  case measure => have := HJ4.out; have := HK2.out; have := HJ17.out; have := HJ54.out; omega
                  case rel => exact ⟨(wrap64 (x7_2 + 1)), (by first | rfl | (simp; done) | (simp [*]; done)), H', ⟨by have := HJ4.out; have := HK2.out; have := HJ17.out; have := HJ54.out; omega⟩, ⟨by (with_reducible repeat (first | apply Kd.R_alloc | apply Kd.R_drewN | apply Kd.R_drew)); exact Kd.R_mono HO_4.out (fun _ hk => trivial)⟩, ⟨by repeat (first | (with_reducible first | exact HB.out | apply below_alloc | apply pw_below_drewN | apply below_drew1 | refine below_set ?_ GE144.out) | exact HB.out)⟩⟩
                 ·
                  rw [if_neg c66] at H
                  have c66b0 : (((rd_T29 t137 x7_2).f0) == 5) = false := beq_eq_false_iff_ne.mpr c66; have c66b1 : (((rd_T29 t137 x7_2).f0) != 5) = true := bne_iff_ne.mpr c66
                  by_cases c68 : (x10_54.size : Int) < (((rd_T29 t137 x7_2).f2).size : Int)
                  ·
                   rw [if_pos c68] at H
                   exact absurd H (by simp)
                  ·
                   rw [if_neg c68] at H
                   have c68b0 : decide ((x10_54.size : Int) < (((rd_T29 t137 x7_2).f2).size : Int)) = false := decide_eq_false c68; have c68b1 : decide (x10_54.size < ((rd_T29 t137 x7_2).f2).size) = false := decide_eq_false (fun h => c68 (Int.ofNat_lt.mpr h)); clear c68
                   by_cases c69 : 0 ≤ (((rd_T29 t137 x7_2).f2).size : Int)
                   ·
                    rw [if_pos c69] at H
                    have c69b0 := eq_true c69; have c69b1 : decide (0 ≤ (((rd_T29 t137 x7_2).f2).size : Int)) = true := decide_eq_true c69; clear c69
                    by_cases c70 : (((rd_T29 t137 x7_2).f2).size : Int) ≤ (x10_54.size : Int)
                    ·
                     rw [if_pos c70] at H
                     have c70b0 := eq_true c70; have c70b1 : decide ((((rd_T29 t137 x7_2).f2).size : Int) ≤ (x10_54.size : Int)) = true := decide_eq_true c70; clear c70
                     by_cases c71 : (x10_54.extract 0 ((((rd_T29 t137 x7_2).f2).size : Int) : Int).toNat).toList = ((rd_T29 t137 x7_2).f2).toList
                     ·
                      rw [if_pos c71] at H
                      have c71b0 : ((x10_54.extract 0 ((((rd_T29 t137 x7_2).f2).size : Int) : Int).toNat).toList == ((rd_T29 t137 x7_2).f2).toList) = true := beq_iff_eq.mpr c71; have c71b1 : ((x10_54.extract 0 ((((rd_T29 t137 x7_2).f2).size : Int) : Int).toNat).toList != ((rd_T29 t137 x7_2).f2).toList) = false := bne_eq_false_iff_eq.mpr c71; clear c71
                      (try simp only [Int.toNat_natCast] at c71b0)
                      (try simp only [Int.toNat_natCast] at c71b1)
                      have H' := Aside0.mk H
                      clear H; have hcz72_0 : wc.cell? ⟨gb144, 0, none⟩ = some (.int .i64 ((rd_T29 t137 x7_2).f0)) := (blk_cell BK144.out 0).trans rfl; have hcz72_1 : wc.cell? ⟨gb144, 1, none⟩ = some (.int .i64 ((rd_T29 t137 x7_2).f1)) := (blk_cell BK144.out 1).trans rfl; have hcz72_2 : wc.cell? ⟨gb144, 2, none⟩ = some (.string ((rd_T29 t137 x7_2).f2)) := (blk_cell BK144.out 2).trans rfl; have hcz72_3 : wc.cell? ⟨gb144, 3, none⟩ = some (.int .i64 ((rd_T29 t137 x7_2).f3)) := (blk_cell BK144.out 3).trans rfl; have hfz72_0 := blk_frozen BK144.out 0; have hfz72_1 := blk_frozen BK144.out 1; have hfz72_2 := blk_frozen BK144.out 2; have hfz72_3 := blk_frozen BK144.out 3
                      go_wp2
                      repeat (go_quiet (fail); try go_wp2)
                      go_roundg kj54
                      case measure => have := HJ4.out; have := HK2.out; have := HJ17.out; have := HJ54.out; omega
                      case rel => exact ⟨(wrap64 (x7_2 + 1)), (by first | rfl | (simp; done) | (simp [*]; done)), H', ⟨by have := HJ4.out; have := HK2.out; have := HJ17.out; have := HJ54.out; omega⟩, ⟨by (with_reducible repeat (first | apply Kd.R_alloc | apply Kd.R_drewN | apply Kd.R_drew)); exact Kd.R_mono HO_4.out (fun _ hk => trivial)⟩, ⟨by repeat (first | (with_reducible first | exact HB.out | apply below_alloc | apply pw_below_drewN | apply below_drew1 | refine below_set ?_ GE144.out) | exact HB.out)⟩⟩
                     ·
                      rw [if_neg c71] at H
                      exact absurd H (by simp)
                    ·
                     rw [if_neg c70] at H
                     exact absurd H (by simp)
                   ·
                    rw [if_neg c69] at H
                    exact absurd H (by simp)
         ·
          rw [if_neg c17] at H
          exact absurd H (by simp)
        ·
         rw [if_neg c16] at H
         exact absurd H (by simp)
       ·
        rw [if_neg c15] at H
        have c15b0 : decide ((wrap64 (x7_2 + 1)) < (t137.length : Int)) = false := decide_eq_false c15; clear c15
        obtain rfl := Option.some.inj H
        obtain ⟨Ao73, co73, eo73⟩ := Kd.R_slice HO_4.out
        subst eo73
        go_wp2
        repeat (go_quiet (fail); try go_wp2)
        go_ret
        exact ⟨by first | rfl | (simp [errW_none, errW_some] <;> rfl) | (simp [*, errW_none, errW_some] <;> rfl), by repeat (first | (with_reducible first | exact HB.out | apply below_alloc | apply pw_below_drewN | apply below_drew1) | exact HB.out)⟩
 ·
  rw [if_neg c4] at H
  have c4b0 : (t139 == 0) = false := beq_eq_false_iff_ne.mpr c4; have c4b1 : (t139 != 0) = true := bne_iff_ne.mpr c4
  by_cases c74 : t136 = true
  ·
   subst c74
   have H1 : (if (t137.length : Int) = 0 then (if t138 ≥ 0 then (some (decide (t138 ≤ (a0.size : Int)))) else (none)) else (none)) = some r := by rw [if_pos rfl] at H; exact H
   clear H; have H := H1; clear H1
   by_cases c75 : (t137.length : Int) = 0
   ·
    rw [if_pos c75] at H
    have c75b0 : ((t137.length : Int) == 0) = true := beq_iff_eq.mpr c75; have c75b1 : ((t137.length : Int) != 0) = false := bne_eq_false_iff_eq.mpr c75; clear c75
    by_cases c76 : t138 ≥ 0
    ·
     rw [if_pos c76] at H
     have c76b0 : decide (0 ≤ t138) = true := decide_eq_true c76; clear c76
     obtain rfl := Option.some.inj H
     go_enter Tryd.func4, Tryd.ntmps4
     go_wp2_with (first | (go_at_call 8; (with_reducible refine (unisonlaw10_awake.calls k  true _ A2.out (gk HG)).mono ?_); rintro e w77 ⟨rfl, hb⟩; replace HB := bs hb; (try clear hb); (try clear hb2); (try clear hk); (try clear hi)) | (go_at_call 13; (with_reducible refine (lex_Scan.calls k a0 t137 t138 t139 _ A3.out (gk HG)).mono ?_); rintro e w78 ⟨v140, rfl, ho0, hb⟩; have HO141 := Aside0.mk (Kd.R_lower ho0 (below_size bel)); replace HB := bs hb; (try clear hb); (try clear hb2); (try clear hk); (try clear hi); (try clear ho0); obtain ⟨Ao79, co79, eo79⟩ := Kd.R_slice HO141.out; subst eo79))
     repeat (go_quiet (first | (go_at_call 8; (with_reducible refine (unisonlaw10_awake.calls k  true _ A2.out (gk HG)).mono ?_); rintro e w77 ⟨rfl, hb⟩; replace HB := bs hb; (try clear hb); (try clear hb2); (try clear hk); (try clear hi)) | (go_at_call 13; (with_reducible refine (lex_Scan.calls k a0 t137 t138 t139 _ A3.out (gk HG)).mono ?_); rintro e w78 ⟨v140, rfl, ho0, hb⟩; have HO141 := Aside0.mk (Kd.R_lower ho0 (below_size bel)); replace HB := bs hb; (try clear hb); (try clear hb2); (try clear hk); (try clear hi); (try clear ho0); obtain ⟨Ao79, co79, eo79⟩ := Kd.R_slice HO141.out; subst eo79)); try go_wp2_with (first | (go_at_call 8; (with_reducible refine (unisonlaw10_awake.calls k  true _ A2.out (gk HG)).mono ?_); rintro e w77 ⟨rfl, hb⟩; replace HB := bs hb; (try clear hb); (try clear hb2); (try clear hk); (try clear hi)) | (go_at_call 13; (with_reducible refine (lex_Scan.calls k a0 t137 t138 t139 _ A3.out (gk HG)).mono ?_); rintro e w78 ⟨v140, rfl, ho0, hb⟩; have HO141 := Aside0.mk (Kd.R_lower ho0 (below_size bel)); replace HB := bs hb; (try clear hb); (try clear hb2); (try clear hk); (try clear hi); (try clear ho0); obtain ⟨Ao79, co79, eo79⟩ := Kd.R_slice HO141.out; subst eo79)))
     go_ret
     exact ⟨by first | rfl | (simp [errW_none, errW_some] <;> rfl) | (simp [*, errW_none, errW_some] <;> rfl), by repeat (first | (with_reducible first | exact HB.out | apply below_alloc | apply pw_below_drewN | apply below_drew1) | exact HB.out)⟩
    ·
     rw [if_neg c76] at H
     exact absurd H (by simp)
   ·
    rw [if_neg c75] at H
    exact absurd H (by simp)
  ·
   replace c74 := Bool.eq_false_iff.mpr c74
   subst c74
   have H1 : (none) = some r := by rw [if_neg (show ¬ (false = true) by decide)] at H; exact H
   clear H; have H := H1; clear H1
   exact absurd H (by simp)

end Go.Proofs.YtllehkjebikgpaaDoor.PA
