-- Laid by a program of ours (wip/gen/xprint.py). Not trusted: Lean checks it.
import Derived.Test.YtllehkjebikgpaaDoorPAx0
import Derived.Test.YtllehkjebikgpaaDoorMD
import Derived.Test.YtllehkjebikgpaaDoorPFLLike
import Derived.Test.YtllehkjebikgpaaDoorXC
namespace Go.Proofs.YtllehkjebikgpaaDoor.PA
open Go.RowKit Go.Proofs.YtllehkjebikgpaaDoorW.PrintWords Go.Proofs.YtllehkjebikgpaaDoorW.PrintLast Go.Proofs.YtllehkjebikgpaaDoorW.PrintMore Go.Proofs.YtllehkjebikgpaaDoorX
attribute [local go_sem] max2_int min2_int max_two min_two max_three min_three max_four min_four   -- for this text's walks alone
set_option linter.unusedVariables false
set_option linter.unusedSimpArgs false

/-! ### unisonlaw10_LexBlanks: function 5 -/
mutual
def unisonlaw10_LexBlanks.j0 : Nat → ByteArray → List Int → Bool → List (S29) → Bool → Option (Bool)
 | 0, _, _, _, _, _ => none
 | k + 1, x0, x1, x5, x6, x36 => if x36 = true then (some x5) else (unisonlaw10_LexBlanks.l0 k x0 x1 x5 x6 (([(⟨#[32]⟩ : ByteArray), (⟨#[10]⟩ : ByteArray), (⟨#[9, 32]⟩ : ByteArray), (⟨#[32, 45, 45, 32, 120, 33, 10]⟩ : ByteArray), (⟨#[32, 45, 45, 10]⟩ : ByteArray)] : List ByteArray)) (⟨#[]⟩ : ByteArray) 0 0)
def unisonlaw10_LexBlanks.l0 : Nat → ByteArray → List Int → Bool → List (S29) → List ByteArray → ByteArray → Int → Int → Option (Bool)
 | 0, _, _, _, _, _, _, _, _ => none
 | k + 1, x0, x1, x5, x6, x9, x10, x11, x12 => if x12 < (x6.length : Int) then (if 0 ≤ x12 then (if ((rd_T29 x6 x12).f3) ≥ x11 then (unisonlaw10_LexBlanks.j2 k x0 x1 x5 x6 x9 x10 x11 x12 (decide (((rd_T29 x6 x12).f3) ≤ (x0.size : Int)))) else (unisonlaw10_LexBlanks.j2 k x0 x1 x5 x6 x9 x10 x11 x12 false)) else (none)) else (unisonlaw10_LexBlanks.j2 k x0 x1 x5 x6 x9 x10 x11 x12 false)
def unisonlaw10_LexBlanks.j2 : Nat → ByteArray → List Int → Bool → List (S29) → List ByteArray → ByteArray → Int → Int → Bool → Option (Bool)
 | 0, _, _, _, _, _, _, _, _, _ => none
 | k + 1, x0, x1, x5, x6, x9, x10, x11, x12, x61 => if x61 = true then (if x12 < (x1.length : Int) then (if 0 ≤ x12 then (if (rd x1 x12) ≥ 0 then (if (x9.length : Int) = 0 then (none) else (if x12 < (x6.length : Int) then (if 0 ≤ x11 then (if x11 ≤ ((rd_T29 x6 x12).f3) then (if ((rd_T29 x6 x12).f3) ≤ (x0.size : Int) then (if x10.size + (x0.extract (x11 : Int).toNat (((rd_T29 x6 x12).f3) : Int).toNat).size ≤ 9223372036854775807 then (if 0 ≤ (Int.tmod (rd x1 x12) (x9.length : Int)) then (if (Int.tmod (rd x1 x12) (x9.length : Int)) < (x9.length : Int) then (if (x10 ++ (x0.extract (x11 : Int).toNat (((rd_T29 x6 x12).f3) : Int).toNat)).size + (rdOf ByteArray.empty x9 (Int.tmod (rd x1 x12) (x9.length : Int))).size ≤ 9223372036854775807 then (unisonlaw10_LexBlanks.l0 k x0 x1 x5 x6 x9 ((x10 ++ (x0.extract (x11 : Int).toNat (((rd_T29 x6 x12).f3) : Int).toNat)) ++ (rdOf ByteArray.empty x9 (Int.tmod (rd x1 x12) (x9.length : Int)))) ((rd_T29 x6 x12).f3) (wrap64 (x12 + 1))) else (none)) else (none)) else (none)) else (none)) else (none)) else (none)) else (none)) else (none))) else (if x12 < (x6.length : Int) then (if 0 ≤ x11 then (if x11 ≤ ((rd_T29 x6 x12).f3) then (if ((rd_T29 x6 x12).f3) ≤ (x0.size : Int) then (if x10.size + (x0.extract (x11 : Int).toNat (((rd_T29 x6 x12).f3) : Int).toNat).size ≤ 9223372036854775807 then (if 0 < (x9.length : Int) then (if (x10 ++ (x0.extract (x11 : Int).toNat (((rd_T29 x6 x12).f3) : Int).toNat)).size + (rdOf ByteArray.empty x9 0).size ≤ 9223372036854775807 then (unisonlaw10_LexBlanks.l0 k x0 x1 x5 x6 x9 ((x10 ++ (x0.extract (x11 : Int).toNat (((rd_T29 x6 x12).f3) : Int).toNat)) ++ (rdOf ByteArray.empty x9 0)) ((rd_T29 x6 x12).f3) (wrap64 (x12 + 1))) else (none)) else (none)) else (none)) else (none)) else (none)) else (none)) else (none))) else (none)) else (if 0 ≤ x12 then (if x12 < (x6.length : Int) then (if 0 ≤ x11 then (if x11 ≤ ((rd_T29 x6 x12).f3) then (if ((rd_T29 x6 x12).f3) ≤ (x0.size : Int) then (if x10.size + (x0.extract (x11 : Int).toNat (((rd_T29 x6 x12).f3) : Int).toNat).size ≤ 9223372036854775807 then (if 0 < (x9.length : Int) then (if (x10 ++ (x0.extract (x11 : Int).toNat (((rd_T29 x6 x12).f3) : Int).toNat)).size + (rdOf ByteArray.empty x9 0).size ≤ 9223372036854775807 then (unisonlaw10_LexBlanks.l0 k x0 x1 x5 x6 x9 ((x10 ++ (x0.extract (x11 : Int).toNat (((rd_T29 x6 x12).f3) : Int).toNat)) ++ (rdOf ByteArray.empty x9 0)) ((rd_T29 x6 x12).f3) (wrap64 (x12 + 1))) else (none)) else (none)) else (none)) else (none)) else (none)) else (none)) else (none)) else (none))) else (if 0 ≤ x11 then (if x11 ≤ (x0.size : Int) then (if x10.size + (x0.extract (x11 : Int).toNat x0.size).size ≤ 9223372036854775807 then ((lex_Scan.f k (x10 ++ (x0.extract (x11 : Int).toNat x0.size))).bind fun bt173 => (if bt173.2.2 = 0 then (unisonlaw10_LexBlanks.j3 k x5 x6 bt173.1 ((bt173.1.length : Int) != (x6.length : Int))) else (unisonlaw10_LexBlanks.j3 k x5 x6 bt173.1 true))) else (none)) else (none)) else (none))
def unisonlaw10_LexBlanks.j3 : Nat → Bool → List (S29) → List (S29) → Bool → Option (Bool)
 | 0, _, _, _, _ => none
 | k + 1, x5, x6, x14, x121 => if x121 = true then (none) else (unisonlaw10_LexBlanks.l1 k x5 x6 x14 0)
def unisonlaw10_LexBlanks.l1 : Nat → Bool → List (S29) → List (S29) → Int → Option (Bool)
 | 0, _, _, _, _ => none
 | k + 1, x5, x6, x14, x17 => if x17 < (x6.length : Int) then (if 0 ≤ x17 then (if x17 < (x14.length : Int) then ((unisonlaw10_like.f ((rd_T29 x6 x17).f0) ((rd_T29 x6 x17).f1) ((rd_T29 x6 x17).f2) ((rd_T29 x6 x17).f3) ((rd_T29 x14 x17).f0) ((rd_T29 x14 x17).f1) ((rd_T29 x14 x17).f2) ((rd_T29 x14 x17).f3)).bind fun t180 => (if t180 = true then (unisonlaw10_LexBlanks.l1 k x5 x6 x14 (wrap64 (x17 + 1))) else (none))) else (none)) else (none)) else (some x5)
end
def unisonlaw10_LexBlanks.f (k : Nat) (a0 : ByteArray) (l1 : List Int) : Option (Bool) := (unisonlaw10_awake.f k).bind fun t151 => ((lex_Scan.f k a0).bind fun bt152 => (if bt152.2.2 = 0 then (unisonlaw10_LexBlanks.j0 k a0 l1 t151 bt152.1 (decide ((wrap64 ((a0.size : Int) + (wrap64 (8 * (bt152.1.length : Int))))) > 1000))) else (unisonlaw10_LexBlanks.j0 k a0 l1 t151 bt152.1 true)))
theorem unisonlaw10_LexBlanks.mono_l : ∀ k, (∀ y0 y1 y2 y3 y4, LeO (unisonlaw10_LexBlanks.j0 k y0 y1 y2 y3 y4) (unisonlaw10_LexBlanks.j0 (k + 1) y0 y1 y2 y3 y4)) ∧ (∀ y0 y1 y2 y3 y4 y5 y6 y7, LeO (unisonlaw10_LexBlanks.l0 k y0 y1 y2 y3 y4 y5 y6 y7) (unisonlaw10_LexBlanks.l0 (k + 1) y0 y1 y2 y3 y4 y5 y6 y7)) ∧ (∀ y0 y1 y2 y3 y4 y5 y6 y7 y8, LeO (unisonlaw10_LexBlanks.j2 k y0 y1 y2 y3 y4 y5 y6 y7 y8) (unisonlaw10_LexBlanks.j2 (k + 1) y0 y1 y2 y3 y4 y5 y6 y7 y8)) ∧ (∀ y0 y1 y2 y3, LeO (unisonlaw10_LexBlanks.j3 k y0 y1 y2 y3) (unisonlaw10_LexBlanks.j3 (k + 1) y0 y1 y2 y3)) ∧ (∀ y0 y1 y2 y3, LeO (unisonlaw10_LexBlanks.l1 k y0 y1 y2 y3) (unisonlaw10_LexBlanks.l1 (k + 1) y0 y1 y2 y3))
 | 0 => ⟨fun _ _ _ _ _ r h => by simp [unisonlaw10_LexBlanks.j0] at h, fun _ _ _ _ _ _ _ _ r h => by simp [unisonlaw10_LexBlanks.l0] at h, fun _ _ _ _ _ _ _ _ _ r h => by simp [unisonlaw10_LexBlanks.j2] at h, fun _ _ _ _ r h => by simp [unisonlaw10_LexBlanks.j3] at h, fun _ _ _ _ r h => by simp [unisonlaw10_LexBlanks.l1] at h⟩
 | k + 1 => by
  obtain ⟨ih0, ih1, ih2, ih3, ih4⟩ := unisonlaw10_LexBlanks.mono_l k
  refine ⟨?_, ?_, ?_, ?_, ?_⟩
  ·
   intro y0 y1 y2 y3 y4
   unfold unisonlaw10_LexBlanks.j0
   repeat' first
   | (with_reducible exact ih0 _ _ _ _ _)
   | (with_reducible exact ih1 _ _ _ _ _ _ _ _)
   | (with_reducible exact ih2 _ _ _ _ _ _ _ _ _)
   | (with_reducible exact ih3 _ _ _ _)
   | (with_reducible exact ih4 _ _ _ _)
   | (with_reducible exact lex_Scan.mono _ _)
   | (with_reducible exact unisonlaw10_awake.mono _)
   | (with_reducible exact LeO.refl _)
   | (with_reducible exact LeO.none _)
   | (with_reducible refine LeO.ite ?_ ?_)
   | (with_reducible refine LeO.bind ?_ (fun _ => ?_))
   | exact ih0 _ _ _ _ _
   | exact ih1 _ _ _ _ _ _ _ _
   | exact ih2 _ _ _ _ _ _ _ _ _
   | exact ih3 _ _ _ _
   | exact ih4 _ _ _ _
   | exact lex_Scan.mono _ _
   | exact unisonlaw10_awake.mono _
   | exact LeO.none _
   | refine LeO.ite ?_ ?_
   | refine LeO.bind ?_ (fun _ => ?_)
  ·
   intro y0 y1 y2 y3 y4 y5 y6 y7
   unfold unisonlaw10_LexBlanks.l0
   repeat' first
   | (with_reducible exact ih0 _ _ _ _ _)
   | (with_reducible exact ih1 _ _ _ _ _ _ _ _)
   | (with_reducible exact ih2 _ _ _ _ _ _ _ _ _)
   | (with_reducible exact ih3 _ _ _ _)
   | (with_reducible exact ih4 _ _ _ _)
   | (with_reducible exact lex_Scan.mono _ _)
   | (with_reducible exact unisonlaw10_awake.mono _)
   | (with_reducible exact LeO.refl _)
   | (with_reducible exact LeO.none _)
   | (with_reducible refine LeO.ite ?_ ?_)
   | (with_reducible refine LeO.bind ?_ (fun _ => ?_))
   | exact ih0 _ _ _ _ _
   | exact ih1 _ _ _ _ _ _ _ _
   | exact ih2 _ _ _ _ _ _ _ _ _
   | exact ih3 _ _ _ _
   | exact ih4 _ _ _ _
   | exact lex_Scan.mono _ _
   | exact unisonlaw10_awake.mono _
   | exact LeO.none _
   | refine LeO.ite ?_ ?_
   | refine LeO.bind ?_ (fun _ => ?_)
  ·
   intro y0 y1 y2 y3 y4 y5 y6 y7 y8
   unfold unisonlaw10_LexBlanks.j2
   repeat' first
   | (with_reducible exact ih0 _ _ _ _ _)
   | (with_reducible exact ih1 _ _ _ _ _ _ _ _)
   | (with_reducible exact ih2 _ _ _ _ _ _ _ _ _)
   | (with_reducible exact ih3 _ _ _ _)
   | (with_reducible exact ih4 _ _ _ _)
   | (with_reducible exact lex_Scan.mono _ _)
   | (with_reducible exact unisonlaw10_awake.mono _)
   | (with_reducible exact LeO.refl _)
   | (with_reducible exact LeO.none _)
   | (with_reducible refine LeO.ite ?_ ?_)
   | (with_reducible refine LeO.bind ?_ (fun _ => ?_))
   | exact ih0 _ _ _ _ _
   | exact ih1 _ _ _ _ _ _ _ _
   | exact ih2 _ _ _ _ _ _ _ _ _
   | exact ih3 _ _ _ _
   | exact ih4 _ _ _ _
   | exact lex_Scan.mono _ _
   | exact unisonlaw10_awake.mono _
   | exact LeO.none _
   | refine LeO.ite ?_ ?_
   | refine LeO.bind ?_ (fun _ => ?_)
  ·
   intro y0 y1 y2 y3
   unfold unisonlaw10_LexBlanks.j3
   repeat' first
   | (with_reducible exact ih0 _ _ _ _ _)
   | (with_reducible exact ih1 _ _ _ _ _ _ _ _)
   | (with_reducible exact ih2 _ _ _ _ _ _ _ _ _)
   | (with_reducible exact ih3 _ _ _ _)
   | (with_reducible exact ih4 _ _ _ _)
   | (with_reducible exact lex_Scan.mono _ _)
   | (with_reducible exact unisonlaw10_awake.mono _)
   | (with_reducible exact LeO.refl _)
   | (with_reducible exact LeO.none _)
   | (with_reducible refine LeO.ite ?_ ?_)
   | (with_reducible refine LeO.bind ?_ (fun _ => ?_))
   | exact ih0 _ _ _ _ _
   | exact ih1 _ _ _ _ _ _ _ _
   | exact ih2 _ _ _ _ _ _ _ _ _
   | exact ih3 _ _ _ _
   | exact ih4 _ _ _ _
   | exact lex_Scan.mono _ _
   | exact unisonlaw10_awake.mono _
   | exact LeO.none _
   | refine LeO.ite ?_ ?_
   | refine LeO.bind ?_ (fun _ => ?_)
  ·
   intro y0 y1 y2 y3
   unfold unisonlaw10_LexBlanks.l1
   repeat' first
   | (with_reducible exact ih0 _ _ _ _ _)
   | (with_reducible exact ih1 _ _ _ _ _ _ _ _)
   | (with_reducible exact ih2 _ _ _ _ _ _ _ _ _)
   | (with_reducible exact ih3 _ _ _ _)
   | (with_reducible exact ih4 _ _ _ _)
   | (with_reducible exact lex_Scan.mono _ _)
   | (with_reducible exact unisonlaw10_awake.mono _)
   | (with_reducible exact LeO.refl _)
   | (with_reducible exact LeO.none _)
   | (with_reducible refine LeO.ite ?_ ?_)
   | (with_reducible refine LeO.bind ?_ (fun _ => ?_))
   | exact ih0 _ _ _ _ _
   | exact ih1 _ _ _ _ _ _ _ _
   | exact ih2 _ _ _ _ _ _ _ _ _
   | exact ih3 _ _ _ _
   | exact ih4 _ _ _ _
   | exact lex_Scan.mono _ _
   | exact unisonlaw10_awake.mono _
   | exact LeO.none _
   | refine LeO.ite ?_ ?_
   | refine LeO.bind ?_ (fun _ => ?_)
theorem unisonlaw10_LexBlanks.mono : ∀ a0 a1 k, LeO (unisonlaw10_LexBlanks.f k a0 a1) (unisonlaw10_LexBlanks.f (k + 1) a0 a1) := by
 intro a0 a1 k
 obtain ⟨ih0, ih1, ih2, ih3, ih4⟩ := unisonlaw10_LexBlanks.mono_l k
 unfold unisonlaw10_LexBlanks.f
 repeat' first
   | (with_reducible exact ih0 _ _ _ _ _)
   | (with_reducible exact ih1 _ _ _ _ _ _ _ _)
   | (with_reducible exact ih2 _ _ _ _ _ _ _ _ _)
   | (with_reducible exact ih3 _ _ _ _)
   | (with_reducible exact ih4 _ _ _ _)
   | (with_reducible exact lex_Scan.mono _ _)
   | (with_reducible exact unisonlaw10_awake.mono _)
   | (with_reducible exact LeO.refl _)
   | (with_reducible exact LeO.none _)
   | (with_reducible refine LeO.ite ?_ ?_)
   | (with_reducible refine LeO.bind ?_ (fun _ => ?_))
   | exact ih0 _ _ _ _ _
   | exact ih1 _ _ _ _ _ _ _ _
   | exact ih2 _ _ _ _ _ _ _ _ _
   | exact ih3 _ _ _ _
   | exact ih4 _ _ _ _
   | exact lex_Scan.mono _ _
   | exact unisonlaw10_awake.mono _
   | exact LeO.none _
   | refine LeO.ite ?_ ?_
   | refine LeO.bind ?_ (fun _ => ?_)
def unisonlaw10_LexBlanks.T14 : Bool × List (List Nat × List Nat) := (true, [([], []), ([], []), ([], []), ([], []), ([], []), ([3, 4], [3, 4]), ([5], [5]), ([6], [6]), ([1, 2, 7], [1, 2, 7]), ([0, 8], [0, 8]), ([], []), ([], []), ([10, 11], [10, 11]), ([12], [12]), ([9, 13], [9, 13]), ([14, 0, 1, 2, 3, 4, 5, 6, 7, 8, 9, 10, 11, 12, 13, 14], [0, 14])])
def unisonlaw10_LexBlanks.B14 : List Nat := [0, 0, 0, 0, 0, 24, 56, 120, 254, 511, 0, 0, 3072, 7168, 16383, 32767]
theorem unisonlaw10_LexBlanks.tab14 : rtab .any (opsOf Tryd.f5 14) = unisonlaw10_LexBlanks.T14 := by kernel_rfl
theorem unisonlaw10_LexBlanks.bits14 : waitsOk unisonlaw10_LexBlanks.T14.2 unisonlaw10_LexBlanks.B14 = true := by kernel_rfl
def unisonlaw10_LexBlanks.T23 : Bool × List (List Nat × List Nat) := (true, [([], []), ([], []), ([0, 1], [0, 1]), ([2], [2]), ([], []), ([], []), ([4, 5], [4, 5]), ([6], [6]), ([3, 7], [3, 7]), ([8, 8, 0, 1, 2, 3, 4, 5, 6, 7, 8], [8])])
def unisonlaw10_LexBlanks.B23 : List Nat := [0, 0, 3, 7, 0, 0, 48, 112, 255, 511]
theorem unisonlaw10_LexBlanks.tab23 : rtab .any (opsOf Tryd.f5 23) = unisonlaw10_LexBlanks.T23 := by kernel_rfl
theorem unisonlaw10_LexBlanks.bits23 : waitsOk unisonlaw10_LexBlanks.T23.2 unisonlaw10_LexBlanks.B23 = true := by kernel_rfl
set_option maxHeartbeats 8000000 in
set_option maxRecDepth 100000 in
theorem unisonlaw10_LexBlanks.calls (k : Nat) (a0 : ByteArray) (A1 : Option Addr) (c1 : Nat) (l1 : List Int) (r : Bool) (w : World) (hr1 : Kd.C (Kd.int .i64) w A1 l1.length l1) (hc1 : l1.length ≤ c1) (h : unisonlaw10_LexBlanks.f k a0 l1 = some r) (HG0 : Gw w) :
  Calls Tryd.prog 5 #[.string a0, .slice A1 l1.length c1] w fun e w' => e = .returned (.bool r) ∧ Below w.heap.size w w' := by
 have HG := Aside0.mk HG0
 clear HG0
 have hu29 := Tryd.underlying29; have HR1 := Aside0.mk hr1; have HC1 := Aside0.mk hc1; clear hr1 hc1; have HB := Aside0.mk (Below.refl w.heap.size w); have H : ((unisonlaw10_awake.f k).bind fun t151 => ((lex_Scan.f k a0).bind fun bt152 => (if bt152.2.2 = 0 then (unisonlaw10_LexBlanks.j0 k a0 l1 t151 bt152.1 (decide ((wrap64 ((a0.size : Int) + (wrap64 (8 * (bt152.1.length : Int))))) > 1000))) else (unisonlaw10_LexBlanks.j0 k a0 l1 t151 bt152.1 true)))) = some r := h; clear h; replace H := Option.bind_eq_some_iff.mp H
 obtain ⟨t151, A30, H⟩ := H
 replace H : ((lex_Scan.f k a0).bind fun bt152 => (if bt152.2.2 = 0 then (unisonlaw10_LexBlanks.j0 k a0 l1 t151 bt152.1 (decide ((wrap64 ((a0.size : Int) + (wrap64 (8 * (bt152.1.length : Int))))) > 1000))) else (unisonlaw10_LexBlanks.j0 k a0 l1 t151 bt152.1 true))) = some r := H; have A3 := Aside0.mk A30; clear A30; replace H := Option.bind_eq_some_iff.mp H
 obtain ⟨⟨t152, t153, t154⟩, A40, H⟩ := H
 replace H : (if t154 = 0 then (unisonlaw10_LexBlanks.j0 k a0 l1 t151 t152 (decide ((wrap64 ((a0.size : Int) + (wrap64 (8 * (t152.length : Int))))) > 1000))) else (unisonlaw10_LexBlanks.j0 k a0 l1 t151 t152 true)) = some r := H; have A4 := Aside0.mk A40; clear A40; have HC5 := Aside0.mk H; clear H
 go_enter Tryd.func5, Tryd.ntmps5
 go_upto_region 3 with (first | ((with_reducible refine gate_callee (f := 8) rfl ?_); refine gL (some 19) Tryd.func8 #[] ?_; (with_reducible refine (unisonlaw10_awake.calls k  t151 _ A3.out (gk HG)).mono ?_); rintro e w6 ⟨rfl, hb⟩; refine ⟨_, rfl, ?_⟩; replace HB := bs hb; (try clear hb); (try clear hb2); (try clear hk); (try clear hi)) | ((with_reducible refine gate_callee (f := 13) rfl ?_); refine gL (some 22) Tryd.func13 #[.string a0] ?_; (with_reducible refine (lex_Scan.calls k a0 t152 t153 t154 _ A4.out (gk HG)).mono ?_); rintro e w7 ⟨v155, rfl, ho0, hb⟩; refine ⟨_, rfl, ?_⟩; have HO156 := Aside0.mk (Kd.R_lower ho0 (below_size bel)); replace HB := bs hb; (try clear hb); (try clear hb2); (try clear hk); (try clear hi); (try clear ho0)))
 (try simp only [Act.put, List.setIfInBounds_toArray, List.set_cons_zero, List.set_cons_succ])
 go_cut [36] (fun v36 wc => ∃ (kq : Nat) (x36_4 : Bool), v36 = .bool x36_4 ∧ Aside0 (unisonlaw10_LexBlanks.j0 kq a0 l1 t151 t152 x36_4 = some r) ∧ Aside0 (kq ≤ k) ∧ Aside0 (Kd.R k29 29 wc w.heap.size (fun _ => True) v155 t152) ∧ Aside0 (Below w.heap.size w wc))
 case first =>
  have H := HC5.out; clear HC5
  by_cases c8 : t154 = 0
  ·
   rw [if_pos c8] at H
   have c8b0 : (t154 == 0) = true := beq_iff_eq.mpr c8; have c8b1 : (t154 != 0) = false := bne_eq_false_iff_eq.mpr c8; clear c8
   (first | rw [c8b0] | (simp only [i64_w, i32_w, u8_w, u32_w]; rw [c8b0]) | rw [c8b1] | skip)
   have H' := Aside0.mk H
   clear H
   obtain ⟨Ao9, co9, eo9⟩ := Kd.R_slice HO156.out
   subst eo9
   go_wp2
   go_meet
   case rel => exact ⟨_, (decide ((wrap64 ((a0.size : Int) + (wrap64 (8 * (t152.length : Int))))) > 1000)), (by first | rfl | (simp; done) | (simp [*]; done)), H', ⟨by first | omega | exact Nat.le_refl _⟩, ⟨by (with_reducible repeat (first | apply Kd.R_alloc | apply Kd.R_drewN | apply Kd.R_drew)); exact HO156.out⟩, ⟨by repeat (first | (with_reducible first | exact HB.out | apply below_alloc | apply pw_below_drewN | apply below_drew1) | exact HB.out)⟩⟩
  ·
   rw [if_neg c8] at H
   have c8b0 : (t154 == 0) = false := beq_eq_false_iff_ne.mpr c8; have c8b1 : (t154 != 0) = true := bne_iff_ne.mpr c8
   (first | rw [c8b0] | (simp only [i64_w, i32_w, u8_w, u32_w]; rw [c8b0]) | rw [c8b1] | skip)
   have H' := Aside0.mk H
   clear H
   go_wp2
   go_meet
   case rel => exact ⟨_, (true), (by first | rfl | (simp; done) | (simp [*]; done)), H', ⟨by first | omega | exact Nat.le_refl _⟩, ⟨by (with_reducible repeat (first | apply Kd.R_alloc | apply Kd.R_drewN | apply Kd.R_drew)); exact HO156.out⟩, ⟨by repeat (first | (with_reducible first | exact HB.out | apply below_alloc | apply pw_below_drewN | apply below_drew1) | exact HB.out)⟩⟩
 case rest =>
  clear HC5; (try clear c1); (try clear p2); (try clear c5); (try clear p6); (try clear c8); (try clear c8b0); (try clear c8b1)
  obtain ⟨kq, x36_4, rfl, HA, HJ4, HO_6, HB⟩ := hcut
  cases kq with
  | zero => exact absurd HA.out (by simp [unisonlaw10_LexBlanks.j0])
  | succ kj4 =>
   have H := HA.out; clear HA
   simp only [unisonlaw10_LexBlanks.j0] at H
   by_cases c10 : x36_4 = true
   ·
    subst c10
    have H1 : (some t151) = some r := by rw [if_pos rfl] at H; exact H
    clear H; have H := H1; clear H1
    obtain rfl := Option.some.inj H
    go_wp2
    go_ret
    exact ⟨by first | rfl | (simp [errW_none, errW_some] <;> rfl) | (simp [*, errW_none, errW_some] <;> rfl), by repeat (first | (with_reducible first | exact HB.out | apply below_alloc | apply pw_below_drewN | apply below_drew1) | exact HB.out)⟩
   ·
    replace c10 := Bool.eq_false_iff.mpr c10
    subst c10
    have H1 : (unisonlaw10_LexBlanks.l0 kj4 a0 l1 t151 t152 (([(⟨#[32]⟩ : ByteArray), (⟨#[10]⟩ : ByteArray), (⟨#[9, 32]⟩ : ByteArray), (⟨#[32, 45, 45, 32, 120, 33, 10]⟩ : ByteArray), (⟨#[32, 45, 45, 10]⟩ : ByteArray)] : List ByteArray)) (⟨#[]⟩ : ByteArray) 0 0) = some r := by rw [if_neg (show ¬ (false = true) by decide)] at H; exact H
    clear H; have H := H1; clear H1
    obtain ⟨y157, hy157⟩ : ∃ y_ : List ByteArray, y_ = (([(⟨#[32]⟩ : ByteArray), (⟨#[10]⟩ : ByteArray), (⟨#[9, 32]⟩ : ByteArray), (⟨#[32, 45, 45, 32, 120, 33, 10]⟩ : ByteArray), (⟨#[32, 45, 45, 10]⟩ : ByteArray)] : List ByteArray)) := ⟨_, rfl⟩
    replace H : (unisonlaw10_LexBlanks.l0 kj4 a0 l1 t151 t152 y157 (⟨#[]⟩ : ByteArray) 0 0) = some r := by first | (rw [hy157]; with_reducible exact H) | (have H2_ := (Option.bind_some _ _).symm.trans H; rw [hy157]; with_reducible exact H2_) | (have H2_ := (Option.bind_some _ _).symm.trans H; with_reducible exact H2_) | with_reducible exact H | (rw [hy157]; exact H) | exact H
    have Ny157 := Aside0.mk hy157; clear hy157
    have H' := Aside0.mk H
    clear H
    go_wp2_with (first | ((with_reducible refine gate_dst (N := 38) rfl ?_); (try (refine gate_guard (by rfl) ?_; dsimp only)); refine Kd.R_lit Kd.string _ 9 ?hg (N := 38) ?hd (xs := ([(⟨#[32]⟩ : ByteArray), (⟨#[10]⟩ : ByteArray), (⟨#[9, 32]⟩ : ByteArray), (⟨#[32, 45, 45, 32, 120, 33, 10]⟩ : ByteArray), (⟨#[32, 45, 45, 10]⟩ : ByteArray)] : List ByteArray)) (inner := [.string (⟨#[32]⟩ : ByteArray), .string (⟨#[10]⟩ : ByteArray), .string (⟨#[9, 32]⟩ : ByteArray), .string (⟨#[32, 45, 45, 32, 120, 33, 10]⟩ : ByteArray), .string (⟨#[32, 45, 45, 10]⟩ : ByteArray)]) (ok := fun _ => True) (okp := fun _ => True) ?hr ?hp (fun _ hk => hk) trivial (Below.refl _ _) (Nat.le_refl _) (by simp) ?_; (case hd => rfl); (case hg => rfl); (case hr => first | (go_simp; done) | (go_simp; rfl)); (case hp => exact (Reps.one (show Kd.M Kd.string _ _ _ (⟨#[32]⟩ : ByteArray) [.string (⟨#[32]⟩ : ByteArray)] from rfl) (Reps.one (show Kd.M Kd.string _ _ _ (⟨#[10]⟩ : ByteArray) [.string (⟨#[10]⟩ : ByteArray)] from rfl) (Reps.one (show Kd.M Kd.string _ _ _ (⟨#[9, 32]⟩ : ByteArray) [.string (⟨#[9, 32]⟩ : ByteArray)] from rfl) (Reps.one (show Kd.M Kd.string _ _ _ (⟨#[32, 45, 45, 32, 120, 33, 10]⟩ : ByteArray) [.string (⟨#[32, 45, 45, 32, 120, 33, 10]⟩ : ByteArray)] from rfl) (Reps.one (show Kd.M Kd.string _ _ _ (⟨#[32, 45, 45, 10]⟩ : ByteArray) [.string (⟨#[32, 45, 45, 10]⟩ : ByteArray)] from rfl) (Reps.none _ _))))))); intro v158 w11 ho12 hb hg_ hnew_; clear hg_ hnew_; (first | rw [← Ny157.out] at ho12 | (simp only [Int.reduceToNat] at ho12; rw [← Ny157.out] at ho12)); have HO159 := Aside0.mk (Kd.R_lower ho12 (below_size bel)); replace HO_6 := Aside0.mk (Kd.R_below (by (with_reducible repeat (first | apply Kd.R_alloc | apply Kd.R_drewN | apply Kd.R_drew)); exact HO_6.out) hb); replace HB := bs hb; clear hb ho12))
    go_loopg [10, 11, 12] kj4 (fun kq v10 v11 v12 w' => ∃ (x10_2 : ByteArray) (x11_2 : Int) (x12_2 : Int), v10 = .string x10_2 ∧ v11 = .int .i64 x11_2 ∧ v12 = .int .i64 x12_2 ∧ Aside0 (unisonlaw10_LexBlanks.l0 kq a0 l1 t151 t152 y157 x10_2 x11_2 x12_2 = some r) ∧ Aside0 (kq ≤ kj4) ∧ Aside0 (Kd.R k29 29 w' w.heap.size (fun _ => True) v155 t152) ∧ Aside0 (Kd.R Kd.string 9 w' w.heap.size (fun _ => True) v158 y157) ∧ Aside0 (Below w.heap.size w w'))
    case atStart => exact ⟨((⟨#[]⟩ : ByteArray)), (0), (0), (by first | rfl | (simp; done) | (simp [*]; done)), (by first | rfl | (simp; done) | (simp [*]; done)), (by first | rfl | (simp; done) | (simp [*]; done)), H', ⟨Nat.le_refl _⟩, ⟨by (with_reducible repeat (first | apply Kd.R_alloc | apply Kd.R_drewN | apply Kd.R_drew)); exact HO_6.out⟩, ⟨by (with_reducible repeat (first | apply Kd.R_alloc | apply Kd.R_drewN | apply Kd.R_drew)); exact HO159.out⟩, ⟨by repeat (first | (with_reducible first | exact HB.out | apply below_alloc | apply pw_below_drewN | apply below_drew1) | exact HB.out)⟩⟩
    case round =>
     clear H'
     (try clear c1); (try clear p2); (try clear c5); (try clear p6); (try clear c8); (try clear c8b0); (try clear c8b1); (try clear c10); (try clear p2); (try clear p6)
     obtain ⟨x10_2, x11_2, x12_2, rfl, rfl, rfl, HA, HK2, HO_6, HO_9, HB⟩ := hrel
     cases gk with
     | zero => exact absurd HA.out (by simp [unisonlaw10_LexBlanks.l0])
     | succ k2 =>
      have H := HA.out; clear HA
      simp only [unisonlaw10_LexBlanks.l0] at H
      have HC13 := Aside0.mk H; clear H
      go_upto_region 9 with (fail)
      go_cut [61] (fun v61 wc => ∃ (kq : Nat) (x61_12 : Bool), v61 = .bool x61_12 ∧ Aside0 (unisonlaw10_LexBlanks.j2 kq a0 l1 t151 t152 y157 x10_2 x11_2 x12_2 x61_12 = some r) ∧ Aside0 (kq ≤ k2) ∧ Aside0 (Kd.R k29 29 wc w.heap.size (fun _ => True) v155 t152) ∧ Aside0 (Kd.R Kd.string 9 wc w.heap.size (fun _ => True) v158 y157) ∧ Aside0 (Below w.heap.size w wc))
      case first =>
       have H := HC13.out; clear HC13
       by_cases c14 : x12_2 < (t152.length : Int)
       ·
        rw [if_pos c14] at H
        have c14b0 : decide (x12_2 < (t152.length : Int)) = true := decide_eq_true c14; clear c14
        (first | rw [c14b0] | (simp only [i64_w, i32_w, u8_w, u32_w]; rw [c14b0]) | rw [c14b1] | skip)
        by_cases c15 : 0 ≤ x12_2
        ·
         rw [if_pos c15] at H
         have c15b0 : decide (0 ≤ x12_2) = true := decide_eq_true c15; clear c15
         by_cases c16 : ((rd_T29 t152 x12_2).f3) ≥ x11_2
         ·
          rw [if_pos c16] at H
          have c16b0 : decide (x11_2 ≤ ((rd_T29 t152 x12_2).f3)) = true := decide_eq_true c16; clear c16
          have H' := Aside0.mk H
          clear H
          obtain ⟨Ao17, co17, eo17⟩ := Kd.R_slice HO_6.out
          subst eo17
          have p160 : 0 ≤ (x12_2 : Int) := of_decide_eq_true (by first | (with_reducible assumption) | assumption); have q160 : x12_2 < (t152.length : Int) := of_decide_eq_true (by first | (with_reducible assumption) | assumption)
          obtain ⟨ad160, e160, hx160_0, hx160_1, hx160_2, hx160_3⟩ := at_T29 (Kd.R_reads' HO_6.out).2.2 x12_2 p160 q160
          cases e160
          replace p160 := eq_true p160; replace q160 := eq_true q160; have p161 : 0 ≤ (x12_2 : Int) := of_decide_eq_true (by first | (with_reducible assumption) | assumption); have q161 : x12_2 < (t152.length : Int) := of_decide_eq_true (by first | (with_reducible assumption) | assumption)
          obtain ⟨ad161, e161, hx161_0, hx161_1, hx161_2, hx161_3⟩ := at_T29 (Kd.R_reads' HO_6.out).2.2 x12_2 p161 q161
          obtain rfl : ad160 = ad161 := (by injection e161)
          replace p161 := eq_true p161; replace q161 := eq_true q161
          go_wp2
          go_meet
          case rel => exact ⟨_, (decide (((rd_T29 t152 x12_2).f3) ≤ (a0.size : Int))), (by first | rfl | (simp; done) | (simp [*]; done)), H', ⟨by have := HJ4.out; have := HK2.out; first | omega | exact Nat.le_refl _⟩, ⟨by (with_reducible repeat (first | apply Kd.R_alloc | apply Kd.R_drewN | apply Kd.R_drew)); exact HO_6.out⟩, ⟨by (with_reducible repeat (first | apply Kd.R_alloc | apply Kd.R_drewN | apply Kd.R_drew)); exact HO_9.out⟩, ⟨by repeat (first | (with_reducible first | exact HB.out | apply below_alloc | apply pw_below_drewN | apply below_drew1) | exact HB.out)⟩⟩
         ·
          rw [if_neg c16] at H
          have c16b0 : decide (x11_2 ≤ ((rd_T29 t152 x12_2).f3)) = false := decide_eq_false c16; clear c16
          have H' := Aside0.mk H
          clear H
          obtain ⟨Ao18, co18, eo18⟩ := Kd.R_slice HO_6.out
          subst eo18
          have p160 : 0 ≤ (x12_2 : Int) := of_decide_eq_true (by first | (with_reducible assumption) | assumption); have q160 : x12_2 < (t152.length : Int) := of_decide_eq_true (by first | (with_reducible assumption) | assumption)
          obtain ⟨ad160, e160, hx160_0, hx160_1, hx160_2, hx160_3⟩ := at_T29 (Kd.R_reads' HO_6.out).2.2 x12_2 p160 q160
          cases e160
          replace p160 := eq_true p160; replace q160 := eq_true q160
          go_wp2
          go_meet
          case rel => exact ⟨_, (false), (by first | rfl | (simp; done) | (simp [*]; done)), H', ⟨by have := HJ4.out; have := HK2.out; first | omega | exact Nat.le_refl _⟩, ⟨by (with_reducible repeat (first | apply Kd.R_alloc | apply Kd.R_drewN | apply Kd.R_drew)); exact HO_6.out⟩, ⟨by (with_reducible repeat (first | apply Kd.R_alloc | apply Kd.R_drewN | apply Kd.R_drew)); exact HO_9.out⟩, ⟨by repeat (first | (with_reducible first | exact HB.out | apply below_alloc | apply pw_below_drewN | apply below_drew1) | exact HB.out)⟩⟩
        ·
         rw [if_neg c15] at H
         exact absurd H (by simp)
       ·
        rw [if_neg c14] at H
        have c14b0 : decide (x12_2 < (t152.length : Int)) = false := decide_eq_false c14; clear c14
        (first | rw [c14b0] | (simp only [i64_w, i32_w, u8_w, u32_w]; rw [c14b0]) | rw [c14b1] | skip)
        have H' := Aside0.mk H
        clear H
        obtain ⟨Ao19, co19, eo19⟩ := Kd.R_slice HO_6.out
        subst eo19
        go_wp2
        go_meet
        case rel => exact ⟨_, (false), (by first | rfl | (simp; done) | (simp [*]; done)), H', ⟨by have := HJ4.out; have := HK2.out; first | omega | exact Nat.le_refl _⟩, ⟨by (with_reducible repeat (first | apply Kd.R_alloc | apply Kd.R_drewN | apply Kd.R_drew)); exact HO_6.out⟩, ⟨by (with_reducible repeat (first | apply Kd.R_alloc | apply Kd.R_drewN | apply Kd.R_drew)); exact HO_9.out⟩, ⟨by repeat (first | (with_reducible first | exact HB.out | apply below_alloc | apply pw_below_drewN | apply below_drew1) | exact HB.out)⟩⟩
      case rest =>
       clear HC13; (try clear c1); (try clear p1); (try clear q1); (try clear hx1); (try clear p2); (try clear c5); (try clear p6); (try clear c8); (try clear c8b0); (try clear c8b1); (try clear c10); (try clear c13); (try clear c14); (try clear c14b0); (try clear c14b1); (try clear c15); (try clear c15b0); (try clear c16); (try clear c16b0); (try clear p16); (try clear q16); (try clear hx16); (try clear hx160_0); (try clear hx160_1); (try clear hx160_2); (try clear hx160_3); (try clear hx161_0); (try clear hx161_1); (try clear hx161_2); (try clear hx161_3); (try clear p160); (try clear p161); (try clear p2); (try clear p6); (try clear q160); (try clear q161)
       obtain ⟨kq, x61_12, rfl, HA, HJ12, HO_6, HO_9, HB⟩ := hcut
       cases kq with
       | zero => exact absurd HA.out (by simp [unisonlaw10_LexBlanks.j2])
       | succ kj12 =>
        have H := HA.out; clear HA
        simp only [unisonlaw10_LexBlanks.j2] at H
        by_cases c20 : x61_12 = true
        ·
         subst c20
         have H1 : (if x12_2 < (l1.length : Int) then (if 0 ≤ x12_2 then (if (rd l1 x12_2) ≥ 0 then (if (y157.length : Int) = 0 then (none) else (if x12_2 < (t152.length : Int) then (if 0 ≤ x11_2 then (if x11_2 ≤ ((rd_T29 t152 x12_2).f3) then (if ((rd_T29 t152 x12_2).f3) ≤ (a0.size : Int) then (if x10_2.size + (a0.extract (x11_2 : Int).toNat (((rd_T29 t152 x12_2).f3) : Int).toNat).size ≤ 9223372036854775807 then (if 0 ≤ (Int.tmod (rd l1 x12_2) (y157.length : Int)) then (if (Int.tmod (rd l1 x12_2) (y157.length : Int)) < (y157.length : Int) then (if (x10_2 ++ (a0.extract (x11_2 : Int).toNat (((rd_T29 t152 x12_2).f3) : Int).toNat)).size + (rdOf ByteArray.empty y157 (Int.tmod (rd l1 x12_2) (y157.length : Int))).size ≤ 9223372036854775807 then (unisonlaw10_LexBlanks.l0 kj12 a0 l1 t151 t152 y157 ((x10_2 ++ (a0.extract (x11_2 : Int).toNat (((rd_T29 t152 x12_2).f3) : Int).toNat)) ++ (rdOf ByteArray.empty y157 (Int.tmod (rd l1 x12_2) (y157.length : Int)))) ((rd_T29 t152 x12_2).f3) (wrap64 (x12_2 + 1))) else (none)) else (none)) else (none)) else (none)) else (none)) else (none)) else (none)) else (none))) else (if x12_2 < (t152.length : Int) then (if 0 ≤ x11_2 then (if x11_2 ≤ ((rd_T29 t152 x12_2).f3) then (if ((rd_T29 t152 x12_2).f3) ≤ (a0.size : Int) then (if x10_2.size + (a0.extract (x11_2 : Int).toNat (((rd_T29 t152 x12_2).f3) : Int).toNat).size ≤ 9223372036854775807 then (if 0 < (y157.length : Int) then (if (x10_2 ++ (a0.extract (x11_2 : Int).toNat (((rd_T29 t152 x12_2).f3) : Int).toNat)).size + (rdOf ByteArray.empty y157 0).size ≤ 9223372036854775807 then (unisonlaw10_LexBlanks.l0 kj12 a0 l1 t151 t152 y157 ((x10_2 ++ (a0.extract (x11_2 : Int).toNat (((rd_T29 t152 x12_2).f3) : Int).toNat)) ++ (rdOf ByteArray.empty y157 0)) ((rd_T29 t152 x12_2).f3) (wrap64 (x12_2 + 1))) else (none)) else (none)) else (none)) else (none)) else (none)) else (none)) else (none))) else (none)) else (if 0 ≤ x12_2 then (if x12_2 < (t152.length : Int) then (if 0 ≤ x11_2 then (if x11_2 ≤ ((rd_T29 t152 x12_2).f3) then (if ((rd_T29 t152 x12_2).f3) ≤ (a0.size : Int) then (if x10_2.size + (a0.extract (x11_2 : Int).toNat (((rd_T29 t152 x12_2).f3) : Int).toNat).size ≤ 9223372036854775807 then (if 0 < (y157.length : Int) then (if (x10_2 ++ (a0.extract (x11_2 : Int).toNat (((rd_T29 t152 x12_2).f3) : Int).toNat)).size + (rdOf ByteArray.empty y157 0).size ≤ 9223372036854775807 then (unisonlaw10_LexBlanks.l0 kj12 a0 l1 t151 t152 y157 ((x10_2 ++ (a0.extract (x11_2 : Int).toNat (((rd_T29 t152 x12_2).f3) : Int).toNat)) ++ (rdOf ByteArray.empty y157 0)) ((rd_T29 t152 x12_2).f3) (wrap64 (x12_2 + 1))) else (none)) else (none)) else (none)) else (none)) else (none)) else (none)) else (none)) else (none))) = some r := by rw [if_pos rfl] at H; exact H
         clear H; have H := H1; clear H1
         by_cases c21 : x12_2 < (l1.length : Int)
         ·
          rw [if_pos c21] at H
          have c21b0 : decide (x12_2 < (l1.length : Int)) = true := decide_eq_true c21; clear c21
          by_cases c22 : 0 ≤ x12_2
          ·
           rw [if_pos c22] at H
           have c22b0 : decide (0 ≤ x12_2) = true := decide_eq_true c22; clear c22
           by_cases c23 : (rd l1 x12_2) ≥ 0
           ·
            rw [if_pos c23] at H
            have c23b0 : decide (0 ≤ (rd l1 x12_2)) = true := decide_eq_true c23; clear c23
            by_cases c24 : (y157.length : Int) = 0
            ·
             rw [if_pos c24] at H
             exact absurd H (by simp)
            ·
             rw [if_neg c24] at H
             have c24b0 : ((y157.length : Int) == 0) = false := beq_eq_false_iff_ne.mpr c24; have c24b1 : ((y157.length : Int) != 0) = true := bne_iff_ne.mpr c24
             have c24b2 : ¬ (y157 = []) := fun h_ => c24 (by rw [h_]; rfl)
             by_cases c25 : x12_2 < (t152.length : Int)
             ·
              rw [if_pos c25] at H
              have c25b0 : decide (x12_2 < (t152.length : Int)) = true := decide_eq_true c25; clear c25
              by_cases c26 : 0 ≤ x11_2
              ·
               rw [if_pos c26] at H
               have c26b0 := eq_true c26; have c26b1 : decide (0 ≤ x11_2) = true := decide_eq_true c26; clear c26
               by_cases c27 : x11_2 ≤ ((rd_T29 t152 x12_2).f3)
               ·
                rw [if_pos c27] at H
                have c27b0 := eq_true c27; have c27b1 : decide (x11_2 ≤ ((rd_T29 t152 x12_2).f3)) = true := decide_eq_true c27; clear c27
                by_cases c28 : ((rd_T29 t152 x12_2).f3) ≤ (a0.size : Int)
                ·
                 rw [if_pos c28] at H
                 have c28b0 := eq_true c28; have c28b1 : decide (((rd_T29 t152 x12_2).f3) ≤ (a0.size : Int)) = true := decide_eq_true c28; clear c28
                 by_cases c29 : x10_2.size + (a0.extract (x11_2 : Int).toNat (((rd_T29 t152 x12_2).f3) : Int).toNat).size ≤ 9223372036854775807
                 ·
                  rw [if_pos c29] at H
                  have c29b0 := eq_true c29; have c29b1 : decide (x10_2.size + (a0.extract (x11_2 : Int).toNat (((rd_T29 t152 x12_2).f3) : Int).toNat).size ≤ 9223372036854775807) = true := decide_eq_true c29
                  try have c29b2 : (9223372036854775807 < x10_2.size + (a0.extract (x11_2 : Int).toNat (((rd_T29 t152 x12_2).f3) : Int).toNat).size) = False := eq_false (Nat.not_lt.2 c29)
                  try have c29b4 : (9223372036854775807 < x10_2.size + (((rd_T29 t152 x12_2).f3).toNat - x11_2.toNat)) = False := eq_false (Nat.not_lt.2 (by have h_ := c29; have u_ := of_eq_true c28b0; simp only [ByteArray.size_append, ByteArray.size_extract] at h_; omega))
                  obtain ⟨ji30, hji30⟩ : ∃ j_ : Int, (Int.tmod (rd l1 x12_2) (y157.length : Int)) = j_ := ⟨_, rfl⟩
                  replace H : (if 0 ≤ (ji30) then (if (ji30) < (y157.length : Int) then (if (x10_2 ++ (a0.extract (x11_2 : Int).toNat (((rd_T29 t152 x12_2).f3) : Int).toNat)).size + (rdOf ByteArray.empty y157 (ji30)).size ≤ 9223372036854775807 then (unisonlaw10_LexBlanks.l0 kj12 a0 l1 t151 t152 y157 ((x10_2 ++ (a0.extract (x11_2 : Int).toNat (((rd_T29 t152 x12_2).f3) : Int).toNat)) ++ (rdOf ByteArray.empty y157 (ji30))) ((rd_T29 t152 x12_2).f3) (wrap64 (x12_2 + 1))) else (none)) else (none)) else (none)) = some r := by first | (rw [hji30] at H; exact H) | (simp only [hji30] at H ⊢; exact H)
                  by_cases c31 : 0 ≤ (ji30)
                  ·
                   rw [if_pos c31] at H
                   have c31b0 : decide (0 ≤ (ji30)) = true := decide_eq_true c31; clear c31
                   by_cases c32 : (ji30) < (y157.length : Int)
                   ·
                    rw [if_pos c32] at H
                    have c32b0 : decide ((ji30) < (y157.length : Int)) = true := decide_eq_true c32; clear c32
                    by_cases c33 : (x10_2 ++ (a0.extract (x11_2 : Int).toNat (((rd_T29 t152 x12_2).f3) : Int).toNat)).size + (rdOf ByteArray.empty y157 (ji30)).size ≤ 9223372036854775807
                    ·
                     rw [if_pos c33] at H
                     have c33b0 := eq_true c33; have c33b1 : decide ((x10_2 ++ (a0.extract (x11_2 : Int).toNat (((rd_T29 t152 x12_2).f3) : Int).toNat)).size + (rdOf ByteArray.empty y157 (ji30)).size ≤ 9223372036854775807) = true := decide_eq_true c33
                     try have c33b2 : (9223372036854775807 < (x10_2 ++ (a0.extract (x11_2 : Int).toNat (((rd_T29 t152 x12_2).f3) : Int).toNat)).size + (rdOf ByteArray.empty y157 (ji30)).size) = False := eq_false (Nat.not_lt.2 c33)
                     try have c33b4 : (9223372036854775807 < (x10_2.size + (((rd_T29 t152 x12_2).f3).toNat - x11_2.toNat)) + (rdOf ByteArray.empty y157 (ji30)).size) = False := eq_false (Nat.not_lt.2 (by have h_ := c33; have u_ := of_eq_true c28b0; simp only [ByteArray.size_append, ByteArray.size_extract] at h_; omega))
                     have H' := Aside0.mk H
                     clear H; have p162 : 0 ≤ (x12_2 : Int) := of_decide_eq_true (by first | (with_reducible assumption) | assumption); have q162 : x12_2 < (l1.length : Int) := of_decide_eq_true (by first | (with_reducible assumption) | assumption)
                     obtain ⟨ad162, e162, hx162_0⟩ := Kd.at_int HR1.out x12_2 p162 q162
                     cases e162
                     replace hx162_0 := (HB.out.cell (World.block_lt_of_cell? w _ hx162_0)).trans hx162_0; replace p162 := eq_true p162; replace q162 := eq_true q162; have p163 : 0 ≤ (x12_2 : Int) := of_decide_eq_true (by first | (with_reducible assumption) | assumption); have q163 : x12_2 < (l1.length : Int) := of_decide_eq_true (by first | (with_reducible assumption) | assumption)
                     obtain ⟨ad163, e163, hx163_0⟩ := Kd.at_int HR1.out x12_2 p163 q163
                     obtain rfl : ad162 = ad163 := (by injection e163)
                     replace hx163_0 := (HB.out.cell (World.block_lt_of_cell? w _ hx163_0)).trans hx163_0; replace p163 := eq_true p163; replace q163 := eq_true q163
                     obtain ⟨Ao34, co34, eo34⟩ := Kd.R_slice HO_9.out
                     subst eo34
                     try go_wp2
                     replace HO_6 := Aside0.mk (Kd.R_drew HO_6.out); replace HO_9 := Aside0.mk (Kd.R_drew HO_9.out); replace HB := Aside0.mk (below_drew1 HB.out)
                     obtain ⟨Ao36, co36, eo36⟩ := Kd.R_slice HO_6.out
                     (first | subst eo36 | (injection eo36 with f1_ f2_ f3_; have f4_ := f1_.symm; have f5_ := f3_.symm; clear f1_ f2_ f3_; subst f4_; subst f5_))
                     have p164 : 0 ≤ (x12_2 : Int) := of_decide_eq_true (by first | (with_reducible assumption) | assumption); have q164 : x12_2 < (t152.length : Int) := of_decide_eq_true (by first | (with_reducible assumption) | assumption)
                     obtain ⟨ad164, e164, hx164_0, hx164_1, hx164_2, hx164_3⟩ := at_T29 (Kd.R_reads' HO_6.out).2.2 x12_2 p164 q164
                     cases e164
                     replace p164 := eq_true p164; replace q164 := eq_true q164; have p165 : 0 ≤ ((ji30) : Int) := of_decide_eq_true (by first | (with_reducible assumption) | assumption); have q165 : (ji30) < (y157.length : Int) := of_decide_eq_true (by first | (with_reducible assumption) | assumption)
                     obtain ⟨ad165, e165, hx165_0⟩ := Kd.at_string (Kd.R_reads' HO_9.out).2.2 (ji30) p165 q165
                     cases e165
                     replace p165 := eq_true p165; replace q165 := eq_true q165
                     refine start_ (n := 16) (S := fun w' => w'.cell? (ad164.add ((x12_2).toNat * 4)) = some (.int .i64 ((rd_T29 t152 x12_2).f0)) ∧ w'.cell? ⟨(ad164.add ((x12_2).toNat * 4)).block, (ad164.add ((x12_2).toNat * 4)).off + 1, none⟩ = some (.int .i64 ((rd_T29 t152 x12_2).f1)) ∧ w'.cell? ⟨(ad164.add ((x12_2).toNat * 4)).block, (ad164.add ((x12_2).toNat * 4)).off + 2, none⟩ = some (.string ((rd_T29 t152 x12_2).f2)) ∧ w'.cell? ⟨(ad164.add ((x12_2).toNat * 4)).block, (ad164.add ((x12_2).toNat * 4)).off + 3, none⟩ = some (.int .i64 ((rd_T29 t152 x12_2).f3)) ∧ w'.cell? (ad165.add ((ji30)).toNat) = some (.string (rdOf ByteArray.empty y157 (ji30)))) (ds := []) #[false, false, false, false, false, false, false, false, false, false, false, false, false, false, false, false] (by kernel_rfl) rfl rfl ⟨hx164_0, hx164_1, hx164_2, hx164_3, hx165_0⟩ (fun hHeld => ?_); refine with_tabW unisonlaw10_LexBlanks.tab14 unisonlaw10_LexBlanks.bits14 (fun HT_ HW_ => ?_)
                     generalize wc.drew = w35 at HO_6 HO_9 HB hx164_0 hx164_1 hx164_2 hx164_3 hx165_0 hHeld ⊢
                     refine pure_ (i := 0) (N := some 82) (v := ?_) (a' := ?_) #[true, false, false, false, false, false, false, false, false, false, false, false, false, false, false, false] rfl rfl (any_of HT_.out (by kernel_rfl)) (fun _ _ _ h => h) (Or.inl ⟨by rfl, ?_⟩) ?_ ?_
                     rotate_left; focus (intro w'; go_simp; with_reducible rfl; done)
                     rotate_left; focus (simp only [Act.put, List.setIfInBounds_toArray, List.set_cons_zero, List.set_cons_succ, i64_w, i32_w, u8_w, u32_w]; rfl; done)
                     refine pure_ (i := 1) (N := some 83) (v := ?_) (a' := ?_) #[true, true, false, false, false, false, false, false, false, false, false, false, false, false, false, false] rfl rfl (any_of HT_.out (by kernel_rfl)) (fun _ _ _ h => h) (Or.inl ⟨by rfl, ?_⟩) ?_ ?_
                     rotate_left; focus (intro w'; go_simp; with_reducible rfl; done)
                     rotate_left; focus (simp only [Act.put, List.setIfInBounds_toArray, List.set_cons_zero, List.set_cons_succ, i64_w, i32_w, u8_w, u32_w]; rfl; done)
                     refine pure_ (i := 2) (N := some 84) (v := ?_) (a' := ?_) #[true, true, true, false, false, false, false, false, false, false, false, false, false, false, false, false] rfl rfl (any_of HT_.out (by kernel_rfl)) (fun _ _ _ h => h) (Or.inl ⟨by rfl, ?_⟩) ?_ ?_
                     rotate_left; focus (intro w'; go_simp; with_reducible rfl; done)
                     rotate_left; focus (simp only [Act.put, List.setIfInBounds_toArray, List.set_cons_zero, List.set_cons_succ, i64_w, i32_w, u8_w, u32_w]; rfl; done)
                     refine pure_ (i := 3) (N := some 85) (v := ?_) (a' := ?_) #[true, true, true, true, false, false, false, false, false, false, false, false, false, false, false, false] rfl rfl (any_of HT_.out (by kernel_rfl)) (fun _ _ _ h => h) (Or.inl ⟨by rfl, ?_⟩) ?_ ?_
                     rotate_left; focus (intro w'; go_simp; with_reducible rfl; done)
                     rotate_left; focus (simp only [Act.put, List.setIfInBounds_toArray, List.set_cons_zero, List.set_cons_succ, i64_w, i32_w, u8_w, u32_w]; rfl; done)
                     refine pure_ (i := 4) (N := some 86) (v := ?_) (a' := ?_) #[true, true, true, true, true, false, false, false, false, false, false, false, false, false, false, false] rfl rfl (any_of HT_.out (by kernel_rfl)) (fun _ _ _ h => h) (Or.inl ⟨by rfl, ?_⟩) ?_ ?_
                     rotate_left; focus (intro w'; go_simp; with_reducible rfl; done)
                     rotate_left; focus (simp only [Act.put, List.setIfInBounds_toArray, List.set_cons_zero, List.set_cons_succ, i64_w, i32_w, u8_w, u32_w]; rfl; done)
                     refine pure_ (i := 5) (N := some 87) (v := ?_) (a' := ?_) #[true, true, true, true, true, true, false, false, false, false, false, false, false, false, false, false] rfl rfl (any_of HT_.out (by kernel_rfl)) (fun _ _ _ h => h) (Or.inl ⟨by rfl, ?_⟩) ?_ ?_
                     rotate_left; focus (intro w'; go_simp; with_reducible rfl; done)
                     rotate_left; focus (simp only [Act.put, List.setIfInBounds_toArray, List.set_cons_zero, List.set_cons_succ, i64_w, i32_w, u8_w, u32_w]; rfl; done)
                     refine pure_ (i := 6) (N := some 88) (v := ?_) (a' := ?_) #[true, true, true, true, true, true, true, false, false, false, false, false, false, false, false, false] rfl rfl (any_of HT_.out (by kernel_rfl)) (fun _ _ _ h => h) (Or.inl ⟨by rfl, ?_⟩) ?_ ?_
                     rotate_left; focus (intro w'; go_simp; with_reducible rfl; done)
                     rotate_left; focus (simp only [Act.put, List.setIfInBounds_toArray, List.set_cons_zero, List.set_cons_succ, i64_w, i32_w, u8_w, u32_w]; rfl; done)
                     refine pure_ (i := 10) (N := some 92) (v := ?_) (a' := ?_) #[true, true, true, true, true, true, true, false, false, false, true, false, false, false, false, false] rfl rfl (any_of HT_.out (by kernel_rfl)) (fun _ _ _ h => h) (Or.inl ⟨by rfl, ?_⟩) ?_ ?_
                     rotate_left; focus (intro w'; go_simp; with_reducible rfl; done)
                     rotate_left; focus (simp only [Act.put, List.setIfInBounds_toArray, List.set_cons_zero, List.set_cons_succ, i64_w, i32_w, u8_w, u32_w]; rfl; done)
                     refine pure_ (i := 11) (N := some 93) (v := ?_) (a' := ?_) #[true, true, true, true, true, true, true, false, false, false, true, true, false, false, false, false] rfl rfl (any_of HT_.out (by kernel_rfl)) (fun _ _ _ h => h) (Or.inl ⟨by rfl, ?_⟩) ?_ ?_
                     rotate_left; focus (intro w'; go_simp; with_reducible rfl; done)
                     rotate_left; focus (simp only [Act.put, List.setIfInBounds_toArray, List.set_cons_zero, List.set_cons_succ, i64_w, i32_w, u8_w, u32_w]; rfl; done)
                     refine pure_ (i := 12) (N := some 94) (v := ?_) (a' := ?_) #[true, true, true, true, true, true, true, false, false, false, true, true, true, false, false, false] rfl rfl (any_of HT_.out (by kernel_rfl)) (fun _ _ _ h => h) (Or.inl ⟨by rfl, ?_⟩) ?_ ?_
                     rotate_left; focus (intro w'; go_simp; with_reducible rfl; done)
                     rotate_left; focus (simp only [Act.put, List.setIfInBounds_toArray, List.set_cons_zero, List.set_cons_succ, i64_w, i32_w, u8_w, u32_w]; rfl; done)
                     refine take_ (i := 7) (N := some 89) (v := ?_) (a' := ?_) #[true, true, true, true, true, true, true, true, false, false, true, true, true, false, false, false] rfl rfl (take_ofW HT_.out HW_.out (by kernel_rfl)) (fun _ _ _ h => h) (Or.inl ⟨by rfl, ?_⟩) hHeld ?_ ?_
                     rotate_left; focus (rintro w' ⟨s0, s1, s2, s3, s4⟩; go_simp; with_reducible rfl; done)
                     rotate_left; focus (simp only [Act.put, List.setIfInBounds_toArray, List.set_cons_zero, List.set_cons_succ, i64_w, i32_w, u8_w, u32_w]; rfl; done)
                     refine pure_ (i := 8) (N := some 90) (v := ?_) (a' := ?_) #[true, true, true, true, true, true, true, true, true, false, true, true, true, false, false, false] rfl rfl (any_of HT_.out (by kernel_rfl)) (fun _ _ _ h => h) (Or.inl ⟨by rfl, ?_⟩) ?_ ?_
                     rotate_left; focus (intro w'; go_simp; with_reducible rfl; done)
                     rotate_left; focus (simp only [Act.put, List.setIfInBounds_toArray, List.set_cons_zero, List.set_cons_succ, i64_w, i32_w, u8_w, u32_w]; rfl; done)
                     refine pure_ (i := 9) (N := some 91) (v := ?_) (a' := ?_) #[true, true, true, true, true, true, true, true, true, true, true, true, true, false, false, false] rfl rfl (any_of HT_.out (by kernel_rfl)) (fun _ _ _ h => h) (Or.inl ⟨by rfl, ?_⟩) ?_ ?_
                     rotate_left; focus (intro w'; go_simp; with_reducible rfl; done)
                     rotate_left; focus (simp only [Act.put, List.setIfInBounds_toArray, List.set_cons_zero, List.set_cons_succ, i64_w, i32_w, u8_w, u32_w]; rfl; done)
                     refine take_ (i := 13) (N := some 95) (v := ?_) (a' := ?_) #[true, true, true, true, true, true, true, true, true, true, true, true, true, true, false, false] rfl rfl (take_ofW HT_.out HW_.out (by kernel_rfl)) (fun _ _ _ h => h) (Or.inl ⟨by rfl, ?_⟩) hHeld ?_ ?_
                     rotate_left; focus (rintro w' ⟨s0, s1, s2, s3, s4⟩; go_simp; with_reducible rfl; done)
                     rotate_left; focus (simp only [Act.put, List.setIfInBounds_toArray, List.set_cons_zero, List.set_cons_succ, i64_w, i32_w, u8_w, u32_w]; rfl; done)
                     refine pure_ (i := 14) (N := some 96) (v := ?_) (a' := ?_) #[true, true, true, true, true, true, true, true, true, true, true, true, true, true, true, false] rfl rfl (any_of HT_.out (by kernel_rfl)) (fun _ _ _ h => h) (Or.inl ⟨by rfl, ?_⟩) ?_ ?_
                     rotate_left; focus (intro w'; go_simp; with_reducible rfl; done)
                     rotate_left; focus (simp only [Act.put, List.setIfInBounds_toArray, List.set_cons_zero, List.set_cons_succ, i64_w, i32_w, u8_w, u32_w]; rfl; done)
                     refine pure_ (i := 15) (N := some 10) (v := ?_) (a' := ?_) #[true, true, true, true, true, true, true, true, true, true, true, true, true, true, true, true] rfl rfl (any_of HT_.out (by kernel_rfl)) (fun _ _ _ h => h) (Or.inl ⟨by rfl, ?_⟩) ?_ ?_
                     rotate_left; focus (intro w'; go_simp; with_reducible rfl; done)
                     rotate_left; focus (simp only [Act.put, List.setIfInBounds_toArray, List.set_cons_zero, List.set_cons_succ, i64_w, i32_w, u8_w, u32_w]; rfl; done)
                     refine done_ (done_of HT_.out (by kernel_rfl)) ?_
                     have p166 : 0 ≤ (x12_2 : Int) := of_decide_eq_true (by first | (with_reducible assumption) | assumption); have q166 : x12_2 < (t152.length : Int) := of_decide_eq_true (by first | (with_reducible assumption) | assumption)
                     obtain ⟨ad166, e166, hx166_0, hx166_1, hx166_2, hx166_3⟩ := at_T29 (Kd.R_reads' HO_6.out).2.2 x12_2 p166 q166
                     obtain rfl : ad164 = ad166 := (by injection e166)
                     replace p166 := eq_true p166; replace q166 := eq_true q166
                     try go_wp2
                     go_roundg kj12
                     case measure => have := HJ4.out; have := HK2.out; have := HJ12.out; omega
                     case rel => exact ⟨((x10_2 ++ (a0.extract (x11_2 : Int).toNat (((rd_T29 t152 x12_2).f3) : Int).toNat)) ++ (rdOf ByteArray.empty y157 (ji30))), ((rd_T29 t152 x12_2).f3), (wrap64 (x12_2 + 1)), (by first | rfl | (simp; done) | (simp only [← hji30] <;> (first | rfl | simp)) | (simp [*]; done)), (by first | rfl | (simp; done) | (simp [*]; done)), (by first | rfl | (simp; done) | (simp [*]; done)), H', ⟨by have := HJ4.out; have := HK2.out; have := HJ12.out; omega⟩, ⟨by (with_reducible repeat (first | apply Kd.R_alloc | apply Kd.R_drewN | apply Kd.R_drew)); exact HO_6.out⟩, ⟨by (with_reducible repeat (first | apply Kd.R_alloc | apply Kd.R_drewN | apply Kd.R_drew)); exact HO_9.out⟩, ⟨by repeat (first | (with_reducible first | exact HB.out | apply below_alloc | apply pw_below_drewN | apply below_drew1) | exact HB.out)⟩⟩
                    ·
                     rw [if_neg c33] at H
                     exact absurd H (by simp)
                   ·
                    rw [if_neg c32] at H
                    exact absurd H (by simp)
                  ·
                   rw [if_neg c31] at H
                   exact absurd H (by simp)
                 ·
                  rw [if_neg c29] at H
                  exact absurd H (by simp)
                ·
                 rw [if_neg c28] at H
                 exact absurd H (by simp)
               ·
                rw [if_neg c27] at H
                exact absurd H (by simp)
              ·
               rw [if_neg c26] at H
               exact absurd H (by simp)
             ·
              rw [if_neg c25] at H
              exact absurd H (by simp)
           ·
            rw [if_neg c23] at H
            have c23b0 : decide (0 ≤ (rd l1 x12_2)) = false := decide_eq_false c23; clear c23
            by_cases c37 : x12_2 < (t152.length : Int)
            ·
             rw [if_pos c37] at H
             have c37b0 : decide (x12_2 < (t152.length : Int)) = true := decide_eq_true c37; clear c37
             by_cases c38 : 0 ≤ x11_2
             ·
              rw [if_pos c38] at H
              have c38b0 := eq_true c38; have c38b1 : decide (0 ≤ x11_2) = true := decide_eq_true c38; clear c38
              by_cases c39 : x11_2 ≤ ((rd_T29 t152 x12_2).f3)
              ·
               rw [if_pos c39] at H
               have c39b0 := eq_true c39; have c39b1 : decide (x11_2 ≤ ((rd_T29 t152 x12_2).f3)) = true := decide_eq_true c39; clear c39
               by_cases c40 : ((rd_T29 t152 x12_2).f3) ≤ (a0.size : Int)
               ·
                rw [if_pos c40] at H
                have c40b0 := eq_true c40; have c40b1 : decide (((rd_T29 t152 x12_2).f3) ≤ (a0.size : Int)) = true := decide_eq_true c40; clear c40
                by_cases c41 : x10_2.size + (a0.extract (x11_2 : Int).toNat (((rd_T29 t152 x12_2).f3) : Int).toNat).size ≤ 9223372036854775807
                ·
                 rw [if_pos c41] at H
                 have c41b0 := eq_true c41; have c41b1 : decide (x10_2.size + (a0.extract (x11_2 : Int).toNat (((rd_T29 t152 x12_2).f3) : Int).toNat).size ≤ 9223372036854775807) = true := decide_eq_true c41
                 try have c41b2 : (9223372036854775807 < x10_2.size + (a0.extract (x11_2 : Int).toNat (((rd_T29 t152 x12_2).f3) : Int).toNat).size) = False := eq_false (Nat.not_lt.2 c41)
                 try have c41b4 : (9223372036854775807 < x10_2.size + (((rd_T29 t152 x12_2).f3).toNat - x11_2.toNat)) = False := eq_false (Nat.not_lt.2 (by have h_ := c41; have u_ := of_eq_true c40b0; simp only [ByteArray.size_append, ByteArray.size_extract] at h_; omega))
                 by_cases c42 : 0 < (y157.length : Int)
                 ·
                  rw [if_pos c42] at H
                  have c42b0 : decide (0 < (y157.length : Int)) = true := decide_eq_true c42; have c42b1 : decide (0 < y157.length) = true := decide_eq_true (by omega); clear c42
                  by_cases c43 : (x10_2 ++ (a0.extract (x11_2 : Int).toNat (((rd_T29 t152 x12_2).f3) : Int).toNat)).size + (rdOf ByteArray.empty y157 0).size ≤ 9223372036854775807
                  ·
                   rw [if_pos c43] at H
                   have c43b0 := eq_true c43; have c43b1 : decide ((x10_2 ++ (a0.extract (x11_2 : Int).toNat (((rd_T29 t152 x12_2).f3) : Int).toNat)).size + (rdOf ByteArray.empty y157 0).size ≤ 9223372036854775807) = true := decide_eq_true c43
                   try have c43b2 : (9223372036854775807 < (x10_2 ++ (a0.extract (x11_2 : Int).toNat (((rd_T29 t152 x12_2).f3) : Int).toNat)).size + (rdOf ByteArray.empty y157 0).size) = False := eq_false (Nat.not_lt.2 c43)
                   try have c43b4 : (9223372036854775807 < (x10_2.size + (((rd_T29 t152 x12_2).f3).toNat - x11_2.toNat)) + (rdOf ByteArray.empty y157 0).size) = False := eq_false (Nat.not_lt.2 (by have h_ := c43; have u_ := of_eq_true c40b0; simp only [ByteArray.size_append, ByteArray.size_extract] at h_; omega))
                   have H' := Aside0.mk H
                   clear H; have p162 : 0 ≤ (x12_2 : Int) := of_decide_eq_true (by first | (with_reducible assumption) | assumption); have q162 : x12_2 < (l1.length : Int) := of_decide_eq_true (by first | (with_reducible assumption) | assumption)
                   obtain ⟨ad162, e162, hx162_0⟩ := Kd.at_int HR1.out x12_2 p162 q162
                   cases e162
                   replace hx162_0 := (HB.out.cell (World.block_lt_of_cell? w _ hx162_0)).trans hx162_0; replace p162 := eq_true p162; replace q162 := eq_true q162
                   try go_wp2
                   replace HO_6 := Aside0.mk (Kd.R_drew HO_6.out); replace HO_9 := Aside0.mk (Kd.R_drew HO_9.out); replace HB := Aside0.mk (below_drew1 HB.out)
                   obtain ⟨Ao45, co45, eo45⟩ := Kd.R_slice HO_6.out
                   (first | subst eo45 | (injection eo45 with f1_ f2_ f3_; have f4_ := f1_.symm; have f5_ := f3_.symm; clear f1_ f2_ f3_; subst f4_; subst f5_))
                   have p167 : 0 ≤ (x12_2 : Int) := of_decide_eq_true (by first | (with_reducible assumption) | assumption); have q167 : x12_2 < (t152.length : Int) := of_decide_eq_true (by first | (with_reducible assumption) | assumption)
                   obtain ⟨ad167, e167, hx167_0, hx167_1, hx167_2, hx167_3⟩ := at_T29 (Kd.R_reads' HO_6.out).2.2 x12_2 p167 q167
                   cases e167
                   replace p167 := eq_true p167; replace q167 := eq_true q167
                   obtain ⟨Ao46, co46, eo46⟩ := Kd.R_slice HO_9.out
                   (first | subst eo46 | (injection eo46 with f1_ f2_ f3_; have f4_ := f1_.symm; have f5_ := f3_.symm; clear f1_ f2_ f3_; subst f4_; subst f5_))
                   have p168 : 0 ≤ (0 : Int) := (by omega); have q168 : 0 < (y157.length : Int) := of_decide_eq_true (by first | (with_reducible assumption) | assumption)
                   obtain ⟨ad168, e168, hx168_0⟩ := Kd.at_string (Kd.R_reads' HO_9.out).2.2 0 p168 q168
                   cases e168
                   have qi168 : (0 < y157.length) = True := eq_true (by omega)
                   (try rw [show ((0 : Int)).toNat = 0 from rfl] at hx168_0)
                   (try rw [Addr.add_zero'] at hx168_0)
                   replace p168 := eq_true p168; replace q168 := eq_true q168
                   refine start_ (n := 16) (S := fun w' => w'.cell? (ad167.add ((x12_2).toNat * 4)) = some (.int .i64 ((rd_T29 t152 x12_2).f0)) ∧ w'.cell? ⟨(ad167.add ((x12_2).toNat * 4)).block, (ad167.add ((x12_2).toNat * 4)).off + 1, none⟩ = some (.int .i64 ((rd_T29 t152 x12_2).f1)) ∧ w'.cell? ⟨(ad167.add ((x12_2).toNat * 4)).block, (ad167.add ((x12_2).toNat * 4)).off + 2, none⟩ = some (.string ((rd_T29 t152 x12_2).f2)) ∧ w'.cell? ⟨(ad167.add ((x12_2).toNat * 4)).block, (ad167.add ((x12_2).toNat * 4)).off + 3, none⟩ = some (.int .i64 ((rd_T29 t152 x12_2).f3)) ∧ w'.cell? ad168 = some (.string (rdOf ByteArray.empty y157 0))) (ds := []) #[false, false, false, false, false, false, false, false, false, false, false, false, false, false, false, false] (by kernel_rfl) rfl rfl ⟨hx167_0, hx167_1, hx167_2, hx167_3, hx168_0⟩ (fun hHeld => ?_); refine with_tabW unisonlaw10_LexBlanks.tab14 unisonlaw10_LexBlanks.bits14 (fun HT_ HW_ => ?_)
                   generalize wc.drew = w44 at HO_6 HO_9 HB hx167_0 hx167_1 hx167_2 hx167_3 hx168_0 hHeld ⊢
                   refine pure_ (i := 0) (N := some 82) (v := ?_) (a' := ?_) #[true, false, false, false, false, false, false, false, false, false, false, false, false, false, false, false] rfl rfl (any_of HT_.out (by kernel_rfl)) (fun _ _ _ h => h) (Or.inl ⟨by rfl, ?_⟩) ?_ ?_
                   rotate_left; focus (intro w'; go_simp; with_reducible rfl; done)
                   rotate_left; focus (simp only [Act.put, List.setIfInBounds_toArray, List.set_cons_zero, List.set_cons_succ, i64_w, i32_w, u8_w, u32_w]; rfl; done)
                   refine pure_ (i := 1) (N := some 83) (v := ?_) (a' := ?_) #[true, true, false, false, false, false, false, false, false, false, false, false, false, false, false, false] rfl rfl (any_of HT_.out (by kernel_rfl)) (fun _ _ _ h => h) (Or.inl ⟨by rfl, ?_⟩) ?_ ?_
                   rotate_left; focus (intro w'; go_simp; with_reducible rfl; done)
                   rotate_left; focus (simp only [Act.put, List.setIfInBounds_toArray, List.set_cons_zero, List.set_cons_succ, i64_w, i32_w, u8_w, u32_w]; rfl; done)
                   refine pure_ (i := 2) (N := some 84) (v := ?_) (a' := ?_) #[true, true, true, false, false, false, false, false, false, false, false, false, false, false, false, false] rfl rfl (any_of HT_.out (by kernel_rfl)) (fun _ _ _ h => h) (Or.inl ⟨by rfl, ?_⟩) ?_ ?_
                   rotate_left; focus (intro w'; go_simp; with_reducible rfl; done)
                   rotate_left; focus (simp only [Act.put, List.setIfInBounds_toArray, List.set_cons_zero, List.set_cons_succ, i64_w, i32_w, u8_w, u32_w]; rfl; done)
                   refine pure_ (i := 3) (N := some 85) (v := ?_) (a' := ?_) #[true, true, true, true, false, false, false, false, false, false, false, false, false, false, false, false] rfl rfl (any_of HT_.out (by kernel_rfl)) (fun _ _ _ h => h) (Or.inl ⟨by rfl, ?_⟩) ?_ ?_
                   rotate_left; focus (intro w'; go_simp; with_reducible rfl; done)
                   rotate_left; focus (simp only [Act.put, List.setIfInBounds_toArray, List.set_cons_zero, List.set_cons_succ, i64_w, i32_w, u8_w, u32_w]; rfl; done)
                   refine pure_ (i := 4) (N := some 86) (v := ?_) (a' := ?_) #[true, true, true, true, true, false, false, false, false, false, false, false, false, false, false, false] rfl rfl (any_of HT_.out (by kernel_rfl)) (fun _ _ _ h => h) (Or.inl ⟨by rfl, ?_⟩) ?_ ?_
                   rotate_left; focus (intro w'; go_simp; with_reducible rfl; done)
                   rotate_left; focus (simp only [Act.put, List.setIfInBounds_toArray, List.set_cons_zero, List.set_cons_succ, i64_w, i32_w, u8_w, u32_w]; rfl; done)
                   refine pure_ (i := 5) (N := some 87) (v := ?_) (a' := ?_) #[true, true, true, true, true, true, false, false, false, false, false, false, false, false, false, false] rfl rfl (any_of HT_.out (by kernel_rfl)) (fun _ _ _ h => h) (Or.inl ⟨by rfl, ?_⟩) ?_ ?_
                   rotate_left; focus (intro w'; go_simp; with_reducible rfl; done)
                   rotate_left; focus (simp only [Act.put, List.setIfInBounds_toArray, List.set_cons_zero, List.set_cons_succ, i64_w, i32_w, u8_w, u32_w]; rfl; done)
                   refine pure_ (i := 6) (N := some 88) (v := ?_) (a' := ?_) #[true, true, true, true, true, true, true, false, false, false, false, false, false, false, false, false] rfl rfl (any_of HT_.out (by kernel_rfl)) (fun _ _ _ h => h) (Or.inl ⟨by rfl, ?_⟩) ?_ ?_
                   rotate_left; focus (intro w'; go_simp; with_reducible rfl; done)
                   rotate_left; focus (simp only [Act.put, List.setIfInBounds_toArray, List.set_cons_zero, List.set_cons_succ, i64_w, i32_w, u8_w, u32_w]; rfl; done)
                   refine pure_ (i := 10) (N := some 92) (v := ?_) (a' := ?_) #[true, true, true, true, true, true, true, false, false, false, true, false, false, false, false, false] rfl rfl (any_of HT_.out (by kernel_rfl)) (fun _ _ _ h => h) (Or.inl ⟨by rfl, ?_⟩) ?_ ?_
                   rotate_left; focus (intro w'; go_simp; with_reducible rfl; done)
                   rotate_left; focus (simp only [Act.put, List.setIfInBounds_toArray, List.set_cons_zero, List.set_cons_succ, i64_w, i32_w, u8_w, u32_w]; rfl; done)
                   refine pure_ (i := 11) (N := some 93) (v := ?_) (a' := ?_) #[true, true, true, true, true, true, true, false, false, false, true, true, false, false, false, false] rfl rfl (any_of HT_.out (by kernel_rfl)) (fun _ _ _ h => h) (Or.inl ⟨by rfl, ?_⟩) ?_ ?_
                   rotate_left; focus (intro w'; go_simp; with_reducible rfl; done)
                   rotate_left; focus (simp only [Act.put, List.setIfInBounds_toArray, List.set_cons_zero, List.set_cons_succ, i64_w, i32_w, u8_w, u32_w]; rfl; done)
                   refine pure_ (i := 12) (N := some 94) (v := ?_) (a' := ?_) #[true, true, true, true, true, true, true, false, false, false, true, true, true, false, false, false] rfl rfl (any_of HT_.out (by kernel_rfl)) (fun _ _ _ h => h) (Or.inl ⟨by rfl, ?_⟩) ?_ ?_
                   rotate_left; focus (intro w'; go_simp; with_reducible rfl; done)
                   rotate_left; focus (simp only [Act.put, List.setIfInBounds_toArray, List.set_cons_zero, List.set_cons_succ, i64_w, i32_w, u8_w, u32_w]; rfl; done)
                   refine take_ (i := 7) (N := some 89) (v := ?_) (a' := ?_) #[true, true, true, true, true, true, true, true, false, false, true, true, true, false, false, false] rfl rfl (take_ofW HT_.out HW_.out (by kernel_rfl)) (fun _ _ _ h => h) (Or.inl ⟨by rfl, ?_⟩) hHeld ?_ ?_
                   rotate_left; focus (rintro w' ⟨s0, s1, s2, s3, s4⟩; go_simp; with_reducible rfl; done)
                   rotate_left; focus (simp only [Act.put, List.setIfInBounds_toArray, List.set_cons_zero, List.set_cons_succ, i64_w, i32_w, u8_w, u32_w]; rfl; done)
                   refine pure_ (i := 8) (N := some 90) (v := ?_) (a' := ?_) #[true, true, true, true, true, true, true, true, true, false, true, true, true, false, false, false] rfl rfl (any_of HT_.out (by kernel_rfl)) (fun _ _ _ h => h) (Or.inl ⟨by rfl, ?_⟩) ?_ ?_
                   rotate_left; focus (intro w'; go_simp; with_reducible rfl; done)
                   rotate_left; focus (simp only [Act.put, List.setIfInBounds_toArray, List.set_cons_zero, List.set_cons_succ, i64_w, i32_w, u8_w, u32_w]; rfl; done)
                   refine pure_ (i := 9) (N := some 91) (v := ?_) (a' := ?_) #[true, true, true, true, true, true, true, true, true, true, true, true, true, false, false, false] rfl rfl (any_of HT_.out (by kernel_rfl)) (fun _ _ _ h => h) (Or.inl ⟨by rfl, ?_⟩) ?_ ?_
                   rotate_left; focus (intro w'; go_simp; with_reducible rfl; done)
                   rotate_left; focus (simp only [Act.put, List.setIfInBounds_toArray, List.set_cons_zero, List.set_cons_succ, i64_w, i32_w, u8_w, u32_w]; rfl; done)
                   refine take_ (i := 13) (N := some 95) (v := ?_) (a' := ?_) #[true, true, true, true, true, true, true, true, true, true, true, true, true, true, false, false] rfl rfl (take_ofW HT_.out HW_.out (by kernel_rfl)) (fun _ _ _ h => h) (Or.inl ⟨by rfl, ?_⟩) hHeld ?_ ?_
                   rotate_left; focus (rintro w' ⟨s0, s1, s2, s3, s4⟩; go_simp; with_reducible rfl; done)
                   rotate_left; focus (simp only [Act.put, List.setIfInBounds_toArray, List.set_cons_zero, List.set_cons_succ, i64_w, i32_w, u8_w, u32_w]; rfl; done)
                   refine pure_ (i := 14) (N := some 96) (v := ?_) (a' := ?_) #[true, true, true, true, true, true, true, true, true, true, true, true, true, true, true, false] rfl rfl (any_of HT_.out (by kernel_rfl)) (fun _ _ _ h => h) (Or.inl ⟨by rfl, ?_⟩) ?_ ?_
                   rotate_left; focus (intro w'; go_simp; with_reducible rfl; done)
                   rotate_left; focus (simp only [Act.put, List.setIfInBounds_toArray, List.set_cons_zero, List.set_cons_succ, i64_w, i32_w, u8_w, u32_w]; rfl; done)
                   refine pure_ (i := 15) (N := some 10) (v := ?_) (a' := ?_) #[true, true, true, true, true, true, true, true, true, true, true, true, true, true, true, true] rfl rfl (any_of HT_.out (by kernel_rfl)) (fun _ _ _ h => h) (Or.inl ⟨by rfl, ?_⟩) ?_ ?_
                   rotate_left; focus (intro w'; go_simp; with_reducible rfl; done)
                   rotate_left; focus (simp only [Act.put, List.setIfInBounds_toArray, List.set_cons_zero, List.set_cons_succ, i64_w, i32_w, u8_w, u32_w]; rfl; done)
                   refine done_ (done_of HT_.out (by kernel_rfl)) ?_
                   have p169 : 0 ≤ (x12_2 : Int) := of_decide_eq_true (by first | (with_reducible assumption) | assumption); have q169 : x12_2 < (t152.length : Int) := of_decide_eq_true (by first | (with_reducible assumption) | assumption)
                   obtain ⟨ad169, e169, hx169_0, hx169_1, hx169_2, hx169_3⟩ := at_T29 (Kd.R_reads' HO_6.out).2.2 x12_2 p169 q169
                   obtain rfl : ad167 = ad169 := (by injection e169)
                   replace p169 := eq_true p169; replace q169 := eq_true q169
                   try go_wp2
                   go_roundg kj12
                   case measure => have := HJ4.out; have := HK2.out; have := HJ12.out; omega
                   case rel => exact ⟨((x10_2 ++ (a0.extract (x11_2 : Int).toNat (((rd_T29 t152 x12_2).f3) : Int).toNat)) ++ (rdOf ByteArray.empty y157 0)), ((rd_T29 t152 x12_2).f3), (wrap64 (x12_2 + 1)), (by first | rfl | (simp; done) | (simp [*]; done)), (by first | rfl | (simp; done) | (simp [*]; done)), (by first | rfl | (simp; done) | (simp [*]; done)), H', ⟨by have := HJ4.out; have := HK2.out; have := HJ12.out; omega⟩, ⟨by (with_reducible repeat (first | apply Kd.R_alloc | apply Kd.R_drewN | apply Kd.R_drew)); exact HO_6.out⟩, ⟨by (with_reducible repeat (first | apply Kd.R_alloc | apply Kd.R_drewN | apply Kd.R_drew)); exact HO_9.out⟩, ⟨by repeat (first | (with_reducible first | exact HB.out | apply below_alloc | apply pw_below_drewN | apply below_drew1) | exact HB.out)⟩⟩
                  ·
                   rw [if_neg c43] at H
                   exact absurd H (by simp)
                 ·
                  rw [if_neg c42] at H
                  exact absurd H (by simp)
                ·
                 rw [if_neg c41] at H
                 exact absurd H (by simp)
               ·
                rw [if_neg c40] at H
                exact absurd H (by simp)
              ·
               rw [if_neg c39] at H
               exact absurd H (by simp)
             ·
              rw [if_neg c38] at H
              exact absurd H (by simp)
            ·
             rw [if_neg c37] at H
             exact absurd H (by simp)
          ·
           rw [if_neg c22] at H
           exact absurd H (by simp)
         ·
          rw [if_neg c21] at H
          have c21b0 : decide (x12_2 < (l1.length : Int)) = false := decide_eq_false c21; clear c21
          by_cases c47 : 0 ≤ x12_2
          ·
           rw [if_pos c47] at H
           have c47b0 : decide (0 ≤ x12_2) = true := decide_eq_true c47; clear c47
           by_cases c48 : x12_2 < (t152.length : Int)
           ·
            rw [if_pos c48] at H
            have c48b0 : decide (x12_2 < (t152.length : Int)) = true := decide_eq_true c48; clear c48
            by_cases c49 : 0 ≤ x11_2
            ·
             rw [if_pos c49] at H
             have c49b0 := eq_true c49; have c49b1 : decide (0 ≤ x11_2) = true := decide_eq_true c49; clear c49
             by_cases c50 : x11_2 ≤ ((rd_T29 t152 x12_2).f3)
             ·
              rw [if_pos c50] at H
              have c50b0 := eq_true c50; have c50b1 : decide (x11_2 ≤ ((rd_T29 t152 x12_2).f3)) = true := decide_eq_true c50; clear c50
              by_cases c51 : ((rd_T29 t152 x12_2).f3) ≤ (a0.size : Int)
              ·
               rw [if_pos c51] at H
               have c51b0 := eq_true c51; have c51b1 : decide (((rd_T29 t152 x12_2).f3) ≤ (a0.size : Int)) = true := decide_eq_true c51; clear c51
               by_cases c52 : x10_2.size + (a0.extract (x11_2 : Int).toNat (((rd_T29 t152 x12_2).f3) : Int).toNat).size ≤ 9223372036854775807
               ·
                rw [if_pos c52] at H
                have c52b0 := eq_true c52; have c52b1 : decide (x10_2.size + (a0.extract (x11_2 : Int).toNat (((rd_T29 t152 x12_2).f3) : Int).toNat).size ≤ 9223372036854775807) = true := decide_eq_true c52
                try have c52b2 : (9223372036854775807 < x10_2.size + (a0.extract (x11_2 : Int).toNat (((rd_T29 t152 x12_2).f3) : Int).toNat).size) = False := eq_false (Nat.not_lt.2 c52)
                try have c52b4 : (9223372036854775807 < x10_2.size + (((rd_T29 t152 x12_2).f3).toNat - x11_2.toNat)) = False := eq_false (Nat.not_lt.2 (by have h_ := c52; have u_ := of_eq_true c51b0; simp only [ByteArray.size_append, ByteArray.size_extract] at h_; omega))
                by_cases c53 : 0 < (y157.length : Int)
                ·
                 rw [if_pos c53] at H
                 have c53b0 : decide (0 < (y157.length : Int)) = true := decide_eq_true c53; have c53b1 : decide (0 < y157.length) = true := decide_eq_true (by omega); clear c53
                 by_cases c54 : (x10_2 ++ (a0.extract (x11_2 : Int).toNat (((rd_T29 t152 x12_2).f3) : Int).toNat)).size + (rdOf ByteArray.empty y157 0).size ≤ 9223372036854775807
                 ·
                  rw [if_pos c54] at H
                  have c54b0 := eq_true c54; have c54b1 : decide ((x10_2 ++ (a0.extract (x11_2 : Int).toNat (((rd_T29 t152 x12_2).f3) : Int).toNat)).size + (rdOf ByteArray.empty y157 0).size ≤ 9223372036854775807) = true := decide_eq_true c54
                  try have c54b2 : (9223372036854775807 < (x10_2 ++ (a0.extract (x11_2 : Int).toNat (((rd_T29 t152 x12_2).f3) : Int).toNat)).size + (rdOf ByteArray.empty y157 0).size) = False := eq_false (Nat.not_lt.2 c54)
                  try have c54b4 : (9223372036854775807 < (x10_2.size + (((rd_T29 t152 x12_2).f3).toNat - x11_2.toNat)) + (rdOf ByteArray.empty y157 0).size) = False := eq_false (Nat.not_lt.2 (by have h_ := c54; have u_ := of_eq_true c51b0; simp only [ByteArray.size_append, ByteArray.size_extract] at h_; omega))
                  have H' := Aside0.mk H
                  clear H
                  try go_wp2
                  replace HO_6 := Aside0.mk (Kd.R_drew HO_6.out); replace HO_9 := Aside0.mk (Kd.R_drew HO_9.out); replace HB := Aside0.mk (below_drew1 HB.out)
                  obtain ⟨Ao56, co56, eo56⟩ := Kd.R_slice HO_6.out
                  (first | subst eo56 | (injection eo56 with f1_ f2_ f3_; have f4_ := f1_.symm; have f5_ := f3_.symm; clear f1_ f2_ f3_; subst f4_; subst f5_))
                  have p170 : 0 ≤ (x12_2 : Int) := of_decide_eq_true (by first | (with_reducible assumption) | assumption); have q170 : x12_2 < (t152.length : Int) := of_decide_eq_true (by first | (with_reducible assumption) | assumption)
                  obtain ⟨ad170, e170, hx170_0, hx170_1, hx170_2, hx170_3⟩ := at_T29 (Kd.R_reads' HO_6.out).2.2 x12_2 p170 q170
                  cases e170
                  replace p170 := eq_true p170; replace q170 := eq_true q170
                  obtain ⟨Ao57, co57, eo57⟩ := Kd.R_slice HO_9.out
                  (first | subst eo57 | (injection eo57 with f1_ f2_ f3_; have f4_ := f1_.symm; have f5_ := f3_.symm; clear f1_ f2_ f3_; subst f4_; subst f5_))
                  have p171 : 0 ≤ (0 : Int) := (by omega); have q171 : 0 < (y157.length : Int) := of_decide_eq_true (by first | (with_reducible assumption) | assumption)
                  obtain ⟨ad171, e171, hx171_0⟩ := Kd.at_string (Kd.R_reads' HO_9.out).2.2 0 p171 q171
                  cases e171
                  have qi171 : (0 < y157.length) = True := eq_true (by omega)
                  (try rw [show ((0 : Int)).toNat = 0 from rfl] at hx171_0)
                  (try rw [Addr.add_zero'] at hx171_0)
                  replace p171 := eq_true p171; replace q171 := eq_true q171
                  refine start_ (n := 16) (S := fun w' => w'.cell? (ad170.add ((x12_2).toNat * 4)) = some (.int .i64 ((rd_T29 t152 x12_2).f0)) ∧ w'.cell? ⟨(ad170.add ((x12_2).toNat * 4)).block, (ad170.add ((x12_2).toNat * 4)).off + 1, none⟩ = some (.int .i64 ((rd_T29 t152 x12_2).f1)) ∧ w'.cell? ⟨(ad170.add ((x12_2).toNat * 4)).block, (ad170.add ((x12_2).toNat * 4)).off + 2, none⟩ = some (.string ((rd_T29 t152 x12_2).f2)) ∧ w'.cell? ⟨(ad170.add ((x12_2).toNat * 4)).block, (ad170.add ((x12_2).toNat * 4)).off + 3, none⟩ = some (.int .i64 ((rd_T29 t152 x12_2).f3)) ∧ w'.cell? ad171 = some (.string (rdOf ByteArray.empty y157 0))) (ds := []) #[false, false, false, false, false, false, false, false, false, false, false, false, false, false, false, false] (by kernel_rfl) rfl rfl ⟨hx170_0, hx170_1, hx170_2, hx170_3, hx171_0⟩ (fun hHeld => ?_); refine with_tabW unisonlaw10_LexBlanks.tab14 unisonlaw10_LexBlanks.bits14 (fun HT_ HW_ => ?_)
                  generalize wc.drew = w55 at HO_6 HO_9 HB hx170_0 hx170_1 hx170_2 hx170_3 hx171_0 hHeld ⊢
                  refine pure_ (i := 0) (N := some 82) (v := ?_) (a' := ?_) #[true, false, false, false, false, false, false, false, false, false, false, false, false, false, false, false] rfl rfl (any_of HT_.out (by kernel_rfl)) (fun _ _ _ h => h) (Or.inl ⟨by rfl, ?_⟩) ?_ ?_
                  rotate_left; focus (intro w'; go_simp; with_reducible rfl; done)
                  rotate_left; focus (simp only [Act.put, List.setIfInBounds_toArray, List.set_cons_zero, List.set_cons_succ, i64_w, i32_w, u8_w, u32_w]; rfl; done)
                  refine pure_ (i := 1) (N := some 83) (v := ?_) (a' := ?_) #[true, true, false, false, false, false, false, false, false, false, false, false, false, false, false, false] rfl rfl (any_of HT_.out (by kernel_rfl)) (fun _ _ _ h => h) (Or.inl ⟨by rfl, ?_⟩) ?_ ?_
                  rotate_left; focus (intro w'; go_simp; with_reducible rfl; done)
                  rotate_left; focus (simp only [Act.put, List.setIfInBounds_toArray, List.set_cons_zero, List.set_cons_succ, i64_w, i32_w, u8_w, u32_w]; rfl; done)
                  refine pure_ (i := 2) (N := some 84) (v := ?_) (a' := ?_) #[true, true, true, false, false, false, false, false, false, false, false, false, false, false, false, false] rfl rfl (any_of HT_.out (by kernel_rfl)) (fun _ _ _ h => h) (Or.inl ⟨by rfl, ?_⟩) ?_ ?_
                  rotate_left; focus (intro w'; go_simp; with_reducible rfl; done)
                  rotate_left; focus (simp only [Act.put, List.setIfInBounds_toArray, List.set_cons_zero, List.set_cons_succ, i64_w, i32_w, u8_w, u32_w]; rfl; done)
                  refine pure_ (i := 3) (N := some 85) (v := ?_) (a' := ?_) #[true, true, true, true, false, false, false, false, false, false, false, false, false, false, false, false] rfl rfl (any_of HT_.out (by kernel_rfl)) (fun _ _ _ h => h) (Or.inl ⟨by rfl, ?_⟩) ?_ ?_
                  rotate_left; focus (intro w'; go_simp; with_reducible rfl; done)
                  rotate_left; focus (simp only [Act.put, List.setIfInBounds_toArray, List.set_cons_zero, List.set_cons_succ, i64_w, i32_w, u8_w, u32_w]; rfl; done)
                  refine pure_ (i := 4) (N := some 86) (v := ?_) (a' := ?_) #[true, true, true, true, true, false, false, false, false, false, false, false, false, false, false, false] rfl rfl (any_of HT_.out (by kernel_rfl)) (fun _ _ _ h => h) (Or.inl ⟨by rfl, ?_⟩) ?_ ?_
                  rotate_left; focus (intro w'; go_simp; with_reducible rfl; done)
                  rotate_left; focus (simp only [Act.put, List.setIfInBounds_toArray, List.set_cons_zero, List.set_cons_succ, i64_w, i32_w, u8_w, u32_w]; rfl; done)
                  refine pure_ (i := 5) (N := some 87) (v := ?_) (a' := ?_) #[true, true, true, true, true, true, false, false, false, false, false, false, false, false, false, false] rfl rfl (any_of HT_.out (by kernel_rfl)) (fun _ _ _ h => h) (Or.inl ⟨by rfl, ?_⟩) ?_ ?_
                  rotate_left; focus (intro w'; go_simp; with_reducible rfl; done)
                  rotate_left; focus (simp only [Act.put, List.setIfInBounds_toArray, List.set_cons_zero, List.set_cons_succ, i64_w, i32_w, u8_w, u32_w]; rfl; done)
                  refine pure_ (i := 6) (N := some 88) (v := ?_) (a' := ?_) #[true, true, true, true, true, true, true, false, false, false, false, false, false, false, false, false] rfl rfl (any_of HT_.out (by kernel_rfl)) (fun _ _ _ h => h) (Or.inl ⟨by rfl, ?_⟩) ?_ ?_
                  rotate_left; focus (intro w'; go_simp; with_reducible rfl; done)
                  rotate_left; focus (simp only [Act.put, List.setIfInBounds_toArray, List.set_cons_zero, List.set_cons_succ, i64_w, i32_w, u8_w, u32_w]; rfl; done)
                  refine pure_ (i := 10) (N := some 92) (v := ?_) (a' := ?_) #[true, true, true, true, true, true, true, false, false, false, true, false, false, false, false, false] rfl rfl (any_of HT_.out (by kernel_rfl)) (fun _ _ _ h => h) (Or.inl ⟨by rfl, ?_⟩) ?_ ?_
                  rotate_left; focus (intro w'; go_simp; with_reducible rfl; done)
                  rotate_left; focus (simp only [Act.put, List.setIfInBounds_toArray, List.set_cons_zero, List.set_cons_succ, i64_w, i32_w, u8_w, u32_w]; rfl; done)
                  refine pure_ (i := 11) (N := some 93) (v := ?_) (a' := ?_) #[true, true, true, true, true, true, true, false, false, false, true, true, false, false, false, false] rfl rfl (any_of HT_.out (by kernel_rfl)) (fun _ _ _ h => h) (Or.inl ⟨by rfl, ?_⟩) ?_ ?_
                  rotate_left; focus (intro w'; go_simp; with_reducible rfl; done)
                  rotate_left; focus (simp only [Act.put, List.setIfInBounds_toArray, List.set_cons_zero, List.set_cons_succ, i64_w, i32_w, u8_w, u32_w]; rfl; done)
                  refine pure_ (i := 12) (N := some 94) (v := ?_) (a' := ?_) #[true, true, true, true, true, true, true, false, false, false, true, true, true, false, false, false] rfl rfl (any_of HT_.out (by kernel_rfl)) (fun _ _ _ h => h) (Or.inl ⟨by rfl, ?_⟩) ?_ ?_
                  rotate_left; focus (intro w'; go_simp; with_reducible rfl; done)
                  rotate_left; focus (simp only [Act.put, List.setIfInBounds_toArray, List.set_cons_zero, List.set_cons_succ, i64_w, i32_w, u8_w, u32_w]; rfl; done)
                  refine take_ (i := 7) (N := some 89) (v := ?_) (a' := ?_) #[true, true, true, true, true, true, true, true, false, false, true, true, true, false, false, false] rfl rfl (take_ofW HT_.out HW_.out (by kernel_rfl)) (fun _ _ _ h => h) (Or.inl ⟨by rfl, ?_⟩) hHeld ?_ ?_
                  rotate_left; focus (rintro w' ⟨s0, s1, s2, s3, s4⟩; go_simp; with_reducible rfl; done)
                  rotate_left; focus (simp only [Act.put, List.setIfInBounds_toArray, List.set_cons_zero, List.set_cons_succ, i64_w, i32_w, u8_w, u32_w]; rfl; done)
                  refine pure_ (i := 8) (N := some 90) (v := ?_) (a' := ?_) #[true, true, true, true, true, true, true, true, true, false, true, true, true, false, false, false] rfl rfl (any_of HT_.out (by kernel_rfl)) (fun _ _ _ h => h) (Or.inl ⟨by rfl, ?_⟩) ?_ ?_
                  rotate_left; focus (intro w'; go_simp; with_reducible rfl; done)
                  rotate_left; focus (simp only [Act.put, List.setIfInBounds_toArray, List.set_cons_zero, List.set_cons_succ, i64_w, i32_w, u8_w, u32_w]; rfl; done)
                  refine pure_ (i := 9) (N := some 91) (v := ?_) (a' := ?_) #[true, true, true, true, true, true, true, true, true, true, true, true, true, false, false, false] rfl rfl (any_of HT_.out (by kernel_rfl)) (fun _ _ _ h => h) (Or.inl ⟨by rfl, ?_⟩) ?_ ?_
                  rotate_left; focus (intro w'; go_simp; with_reducible rfl; done)
                  rotate_left; focus (simp only [Act.put, List.setIfInBounds_toArray, List.set_cons_zero, List.set_cons_succ, i64_w, i32_w, u8_w, u32_w]; rfl; done)
                  refine take_ (i := 13) (N := some 95) (v := ?_) (a' := ?_) #[true, true, true, true, true, true, true, true, true, true, true, true, true, true, false, false] rfl rfl (take_ofW HT_.out HW_.out (by kernel_rfl)) (fun _ _ _ h => h) (Or.inl ⟨by rfl, ?_⟩) hHeld ?_ ?_
                  rotate_left; focus (rintro w' ⟨s0, s1, s2, s3, s4⟩; go_simp; with_reducible rfl; done)
                  rotate_left; focus (simp only [Act.put, List.setIfInBounds_toArray, List.set_cons_zero, List.set_cons_succ, i64_w, i32_w, u8_w, u32_w]; rfl; done)
                  refine pure_ (i := 14) (N := some 96) (v := ?_) (a' := ?_) #[true, true, true, true, true, true, true, true, true, true, true, true, true, true, true, false] rfl rfl (any_of HT_.out (by kernel_rfl)) (fun _ _ _ h => h) (Or.inl ⟨by rfl, ?_⟩) ?_ ?_
                  rotate_left; focus (intro w'; go_simp; with_reducible rfl; done)
                  rotate_left; focus (simp only [Act.put, List.setIfInBounds_toArray, List.set_cons_zero, List.set_cons_succ, i64_w, i32_w, u8_w, u32_w]; rfl; done)
                  refine pure_ (i := 15) (N := some 10) (v := ?_) (a' := ?_) #[true, true, true, true, true, true, true, true, true, true, true, true, true, true, true, true] rfl rfl (any_of HT_.out (by kernel_rfl)) (fun _ _ _ h => h) (Or.inl ⟨by rfl, ?_⟩) ?_ ?_
                  rotate_left; focus (intro w'; go_simp; with_reducible rfl; done)
                  rotate_left; focus (simp only [Act.put, List.setIfInBounds_toArray, List.set_cons_zero, List.set_cons_succ, i64_w, i32_w, u8_w, u32_w]; rfl; done)
                  refine done_ (done_of HT_.out (by kernel_rfl)) ?_
                  have p172 : 0 ≤ (x12_2 : Int) := of_decide_eq_true (by first | (with_reducible assumption) | assumption); have q172 : x12_2 < (t152.length : Int) := of_decide_eq_true (by first | (with_reducible assumption) | assumption)
                  obtain ⟨ad172, e172, hx172_0, hx172_1, hx172_2, hx172_3⟩ := at_T29 (Kd.R_reads' HO_6.out).2.2 x12_2 p172 q172
                  obtain rfl : ad170 = ad172 := (by injection e172)
                  replace p172 := eq_true p172; replace q172 := eq_true q172
                  try go_wp2
                  go_roundg kj12
                  case measure => have := HJ4.out; have := HK2.out; have := HJ12.out; omega
                  case rel => exact ⟨((x10_2 ++ (a0.extract (x11_2 : Int).toNat (((rd_T29 t152 x12_2).f3) : Int).toNat)) ++ (rdOf ByteArray.empty y157 0)), ((rd_T29 t152 x12_2).f3), (wrap64 (x12_2 + 1)), (by first | rfl | (simp; done) | (simp [*]; done)), (by first | rfl | (simp; done) | (simp [*]; done)), (by first | rfl | (simp; done) | (simp [*]; done)), H', ⟨by have := HJ4.out; have := HK2.out; have := HJ12.out; omega⟩, ⟨by (with_reducible repeat (first | apply Kd.R_alloc | apply Kd.R_drewN | apply Kd.R_drew)); exact HO_6.out⟩, ⟨by (with_reducible repeat (first | apply Kd.R_alloc | apply Kd.R_drewN | apply Kd.R_drew)); exact HO_9.out⟩, ⟨by repeat (first | (with_reducible first | exact HB.out | apply below_alloc | apply pw_below_drewN | apply below_drew1) | exact HB.out)⟩⟩
                 ·
                  rw [if_neg c54] at H
                  exact absurd H (by simp)
                ·
                 rw [if_neg c53] at H
                 exact absurd H (by simp)
               ·
                rw [if_neg c52] at H
                exact absurd H (by simp)
              ·
               rw [if_neg c51] at H
               exact absurd H (by simp)
             ·
              rw [if_neg c50] at H
              exact absurd H (by simp)
            ·
             rw [if_neg c49] at H
             exact absurd H (by simp)
           ·
            rw [if_neg c48] at H
            exact absurd H (by simp)
          ·
           rw [if_neg c47] at H
           exact absurd H (by simp)
        ·
         replace c20 := Bool.eq_false_iff.mpr c20
         subst c20
         have H1 : (if 0 ≤ x11_2 then (if x11_2 ≤ (a0.size : Int) then (if x10_2.size + (a0.extract (x11_2 : Int).toNat a0.size).size ≤ 9223372036854775807 then ((lex_Scan.f kj12 (x10_2 ++ (a0.extract (x11_2 : Int).toNat a0.size))).bind fun bt173 => (if bt173.2.2 = 0 then (unisonlaw10_LexBlanks.j3 kj12 t151 t152 bt173.1 ((bt173.1.length : Int) != (t152.length : Int))) else (unisonlaw10_LexBlanks.j3 kj12 t151 t152 bt173.1 true))) else (none)) else (none)) else (none)) = some r := by rw [if_neg (show ¬ (false = true) by decide)] at H; exact H
         clear H; have H := H1; clear H1
         by_cases c58 : 0 ≤ x11_2
         ·
          rw [if_pos c58] at H
          have c58b0 := eq_true c58; have c58b1 : decide (0 ≤ x11_2) = true := decide_eq_true c58; clear c58
          by_cases c59 : x11_2 ≤ (a0.size : Int)
          ·
           rw [if_pos c59] at H
           have c59b0 := eq_true c59; have c59b1 : decide (x11_2 ≤ (a0.size : Int)) = true := decide_eq_true c59; clear c59
           by_cases c60 : x10_2.size + (a0.extract (x11_2 : Int).toNat a0.size).size ≤ 9223372036854775807
           ·
            rw [if_pos c60] at H
            have c60b0 := eq_true c60; have c60b1 : decide (x10_2.size + (a0.extract (x11_2 : Int).toNat a0.size).size ≤ 9223372036854775807) = true := decide_eq_true c60
            try have c60b2 : (9223372036854775807 < x10_2.size + (a0.extract (x11_2 : Int).toNat a0.size).size) = False := eq_false (Nat.not_lt.2 c60)
            replace H := Option.bind_eq_some_iff.mp H
            obtain ⟨⟨t173, t174, t175⟩, A610, H⟩ := H
            replace H : (if t175 = 0 then (unisonlaw10_LexBlanks.j3 kj12 t151 t152 t173 ((t173.length : Int) != (t152.length : Int))) else (unisonlaw10_LexBlanks.j3 kj12 t151 t152 t173 true)) = some r := H; have A61 := Aside0.mk A610; clear A610; have HC62 := Aside0.mk H; clear H
            go_upto_region 18 with (first | ((with_reducible refine gate_callee (f := 13) rfl ?_); refine gL (some 109) Tryd.func13 #[.string (x10_2 ++ (a0.extract (x11_2 : Int).toNat a0.size))] ?_; (with_reducible refine (lex_Scan.calls kj12 (x10_2 ++ (a0.extract (x11_2 : Int).toNat a0.size)) t173 t174 t175 _ A61.out (gk HG)).mono ?_); rintro e w63 ⟨v176, rfl, ho0, hb⟩; refine ⟨_, rfl, ?_⟩; have HO177 := Aside0.mk (Kd.R_lower (Kd.R_new' ho0 (Kd.R_lt (by (with_reducible repeat (first | apply Kd.R_alloc | apply Kd.R_drewN | apply Kd.R_drew)); exact HO_6.out))) (below_size bel)); replace HO_6 := Aside0.mk (Kd.R_elder' (by (with_reducible repeat (first | apply Kd.R_alloc | apply Kd.R_drewN | apply Kd.R_drew)); exact HO_6.out) (Kd.R_base ho0) hb); replace HO_9 := Aside0.mk (Kd.R_below (by (with_reducible repeat (first | apply Kd.R_alloc | apply Kd.R_drewN | apply Kd.R_drew)); exact HO_9.out) hb); replace HB := bs hb; (try clear hb); (try clear hb2); (try clear hk); (try clear hi); (try clear ho0)))
            (try simp only [Act.put, List.setIfInBounds_toArray, List.set_cons_zero, List.set_cons_succ])
            go_cut [121] (fun v121 wc => ∃ (kq : Nat) (x121_61 : Bool), v121 = .bool x121_61 ∧ Aside0 (unisonlaw10_LexBlanks.j3 kq t151 t152 t173 x121_61 = some r) ∧ Aside0 (kq ≤ kj12) ∧ Aside0 (Kd.R k29 29 wc w.heap.size (fun k_ => some k_ ≠ (v176 : Value).ownBlock) v155 t152) ∧ Aside0 (Kd.R k29 29 wc w.heap.size (fun k_ => some k_ ≠ (v155 : Value).ownBlock) v176 t173) ∧ Aside0 (Below w.heap.size w wc))
            case first =>
             have H := HC62.out; clear HC62
             by_cases c64 : t175 = 0
             ·
              rw [if_pos c64] at H
              have c64b0 : (t175 == 0) = true := beq_iff_eq.mpr c64; have c64b1 : (t175 != 0) = false := bne_eq_false_iff_eq.mpr c64; clear c64
              (first | rw [c64b0] | (simp only [i64_w, i32_w, u8_w, u32_w]; rw [c64b0]) | rw [c64b1] | skip)
              have H' := Aside0.mk H
              clear H
              obtain ⟨Ao65, co65, eo65⟩ := Kd.R_slice HO177.out
              subst eo65
              obtain ⟨Ao66, co66, eo66⟩ := Kd.R_slice HO_6.out
              subst eo66
              go_wp2
              go_meet
              case rel => exact ⟨_, (((t173.length : Int) != (t152.length : Int))), (by first | rfl | (simp; done) | (simp [*]; done)), H', ⟨by have := HJ4.out; have := HK2.out; have := HJ12.out; first | omega | exact Nat.le_refl _⟩, ⟨by (with_reducible repeat (first | apply Kd.R_alloc | apply Kd.R_drewN | apply Kd.R_drew)); exact Kd.R_mono HO_6.out (fun _ hk => hk.2)⟩, ⟨by (with_reducible repeat (first | apply Kd.R_alloc | apply Kd.R_drewN | apply Kd.R_drew)); exact Kd.R_mono HO177.out (fun _ hk => hk.2)⟩, ⟨by repeat (first | (with_reducible first | exact HB.out | apply below_alloc | apply pw_below_drewN | apply below_drew1) | exact HB.out)⟩⟩
             ·
              rw [if_neg c64] at H
              have c64b0 : (t175 == 0) = false := beq_eq_false_iff_ne.mpr c64; have c64b1 : (t175 != 0) = true := bne_iff_ne.mpr c64
              (first | rw [c64b0] | (simp only [i64_w, i32_w, u8_w, u32_w]; rw [c64b0]) | rw [c64b1] | skip)
              have H' := Aside0.mk H
              clear H
              go_wp2
              go_meet
              case rel => exact ⟨_, (true), (by first | rfl | (simp; done) | (simp [*]; done)), H', ⟨by have := HJ4.out; have := HK2.out; have := HJ12.out; first | omega | exact Nat.le_refl _⟩, ⟨by (with_reducible repeat (first | apply Kd.R_alloc | apply Kd.R_drewN | apply Kd.R_drew)); exact Kd.R_mono HO_6.out (fun _ hk => hk.2)⟩, ⟨by (with_reducible repeat (first | apply Kd.R_alloc | apply Kd.R_drewN | apply Kd.R_drew)); exact Kd.R_mono HO177.out (fun _ hk => hk.2)⟩, ⟨by repeat (first | (with_reducible first | exact HB.out | apply below_alloc | apply pw_below_drewN | apply below_drew1) | exact HB.out)⟩⟩
            case rest =>
             clear HC62; (try clear c1); (try clear p1); (try clear q1); (try clear hx1); (try clear qi1); (try clear c2); (try clear p2); (try clear c3); (try clear c4); (try clear c5); (try clear c6); (try clear p6); (try clear c13); (try clear p16); (try clear q16); (try clear hx16); (try clear qi16); (try clear p17); (try clear q17); (try clear hx17); (try clear qi17); (try clear c20); (try clear c21); (try clear c21b0); (try clear c22); (try clear c23); (try clear c23b0); (try clear c25); (try clear c26); (try clear c27); (try clear c28); (try clear c29); (try clear c31); (try clear c32); (try clear c33); (try clear c37); (try clear c37b0); (try clear c38); (try clear c38b0); (try clear c38b1); (try clear c39); (try clear c39b0); (try clear c39b1); (try clear c40); (try clear c40b0); (try clear c40b1); (try clear c41); (try clear c41b0); (try clear c41b1); (try clear c41b2); (try clear c42); (try clear c42b0); (try clear c42b1); (try clear c43); (try clear c43b0); (try clear c43b1); (try clear c43b2); (try clear c47); (try clear c47b0); (try clear c48); (try clear c48b0); (try clear c49); (try clear c49b0); (try clear c49b1); (try clear c50); (try clear c50b0); (try clear c50b1); (try clear c51); (try clear c51b0); (try clear c51b1); (try clear c52); (try clear c52b0); (try clear c52b1); (try clear c52b2); (try clear c53); (try clear c53b0); (try clear c53b1); (try clear c54); (try clear c54b0); (try clear c54b1); (try clear c54b2); (try clear c58); (try clear c58b0); (try clear c58b1); (try clear c59); (try clear c59b0); (try clear c59b1); (try clear c60); (try clear c60b0); (try clear c60b1); (try clear c60b2); (try clear c64); (try clear c64b0); (try clear c64b1); (try clear p64); (try clear hx162_0); (try clear hx166_0); (try clear hx166_1); (try clear hx166_2); (try clear hx166_3); (try clear hx167_0); (try clear hx167_1); (try clear hx167_2); (try clear hx167_3); (try clear hx168_0); (try clear hx169_0); (try clear hx169_1); (try clear hx169_2); (try clear hx169_3); (try clear hx170_0); (try clear hx170_1); (try clear hx170_2); (try clear hx170_3); (try clear hx171_0); (try clear hx172_0); (try clear hx172_1); (try clear hx172_2); (try clear hx172_3); (try clear p162); (try clear p166); (try clear p167); (try clear p168); (try clear p169); (try clear p170); (try clear p171); (try clear p172); (try clear q162); (try clear q166); (try clear q167); (try clear q168); (try clear q169); (try clear q170); (try clear q171); (try clear q172)
             obtain ⟨kq, x121_61, rfl, HA, HJ61, HO_6, HO_14, HB⟩ := hcut
             cases kq with
             | zero => exact absurd HA.out (by simp [unisonlaw10_LexBlanks.j3])
             | succ kj61 =>
              have H := HA.out; clear HA
              simp only [unisonlaw10_LexBlanks.j3] at H
              by_cases c67 : x121_61 = true
              ·
               subst c67
               have H1 : (none) = some r := by rw [if_pos rfl] at H; exact H
               clear H; have H := H1; clear H1
               exact absurd H (by simp)
              ·
               replace c67 := Bool.eq_false_iff.mpr c67
               subst c67
               have H1 : (unisonlaw10_LexBlanks.l1 kj61 t151 t152 t173 0) = some r := by rw [if_neg (show ¬ (false = true) by decide)] at H; exact H
               clear H; have H := H1; clear H1
               have H' := Aside0.mk H
               clear H
               go_wp2
               go_loopg [17] kj61 (fun kq v17 w' => ∃ (x17_5 : Int), v17 = .int .i64 x17_5 ∧ Aside0 (unisonlaw10_LexBlanks.l1 kq t151 t152 t173 x17_5 = some r) ∧ Aside0 (kq ≤ kj61) ∧ Aside0 (Kd.R k29 29 w' w.heap.size (fun k_ => some k_ ≠ (v176 : Value).ownBlock) v155 t152) ∧ Aside0 (Kd.R k29 29 w' w.heap.size (fun k_ => some k_ ≠ (v155 : Value).ownBlock) v176 t173) ∧ Aside0 (Below w.heap.size w w'))
               case atStart => exact ⟨(0), (by first | rfl | (simp; done) | (simp [*]; done)), H', ⟨Nat.le_refl _⟩, ⟨by (with_reducible repeat (first | apply Kd.R_alloc | apply Kd.R_drewN | apply Kd.R_drew)); exact HO_6.out⟩, ⟨by (with_reducible repeat (first | apply Kd.R_alloc | apply Kd.R_drewN | apply Kd.R_drew)); exact HO_14.out⟩, ⟨by repeat (first | (with_reducible first | exact HB.out | apply below_alloc | apply pw_below_drewN | apply below_drew1) | exact HB.out)⟩⟩
               case round =>
                clear H'
                (try clear c1); (try clear p1); (try clear q1); (try clear hx1); (try clear qi1); (try clear c2); (try clear p2); (try clear c3); (try clear c4); (try clear c5); (try clear c6); (try clear p6); (try clear c13); (try clear p16); (try clear q16); (try clear hx16); (try clear qi16); (try clear p17); (try clear q17); (try clear hx17); (try clear qi17); (try clear c20); (try clear c21); (try clear c21b0); (try clear c22); (try clear c23); (try clear c23b0); (try clear c25); (try clear c26); (try clear c27); (try clear c28); (try clear c29); (try clear c31); (try clear c32); (try clear c33); (try clear c37); (try clear c37b0); (try clear c38); (try clear c38b0); (try clear c38b1); (try clear c39); (try clear c39b0); (try clear c39b1); (try clear c40); (try clear c40b0); (try clear c40b1); (try clear c41); (try clear c41b0); (try clear c41b1); (try clear c41b2); (try clear c42); (try clear c42b0); (try clear c42b1); (try clear c43); (try clear c43b0); (try clear c43b1); (try clear c43b2); (try clear c47); (try clear c47b0); (try clear c48); (try clear c48b0); (try clear c49); (try clear c49b0); (try clear c49b1); (try clear c50); (try clear c50b0); (try clear c50b1); (try clear c51); (try clear c51b0); (try clear c51b1); (try clear c52); (try clear c52b0); (try clear c52b1); (try clear c52b2); (try clear c53); (try clear c53b0); (try clear c53b1); (try clear c54); (try clear c54b0); (try clear c54b1); (try clear c54b2); (try clear c58); (try clear c58b0); (try clear c58b1); (try clear c59); (try clear c59b0); (try clear c59b1); (try clear c60); (try clear c60b0); (try clear c60b1); (try clear c60b2); (try clear c64); (try clear c64b0); (try clear c64b1); (try clear p64); (try clear c67); (try clear hx162_0); (try clear hx166_0); (try clear hx166_1); (try clear hx166_2); (try clear hx166_3); (try clear hx167_0); (try clear hx167_1); (try clear hx167_2); (try clear hx167_3); (try clear hx168_0); (try clear hx169_0); (try clear hx169_1); (try clear hx169_2); (try clear hx169_3); (try clear hx170_0); (try clear hx170_1); (try clear hx170_2); (try clear hx170_3); (try clear hx171_0); (try clear hx172_0); (try clear hx172_1); (try clear hx172_2); (try clear hx172_3); (try clear p1); (try clear p16); (try clear p162); (try clear p166); (try clear p167); (try clear p168); (try clear p169); (try clear p17); (try clear p170); (try clear p171); (try clear p172); (try clear p2); (try clear p6); (try clear p64); (try clear q1); (try clear q16); (try clear q162); (try clear q166); (try clear q167); (try clear q168); (try clear q169); (try clear q17); (try clear q170); (try clear q171); (try clear q172)
                obtain ⟨x17_5, rfl, HA, HK5, HO_6, HO_14, HB⟩ := hrel
                cases gk with
                | zero => exact absurd HA.out (by simp [unisonlaw10_LexBlanks.l1])
                | succ k5 =>
                 have H := HA.out; clear HA
                 simp only [unisonlaw10_LexBlanks.l1] at H
                 by_cases c68 : x17_5 < (t152.length : Int)
                 ·
                  rw [if_pos c68] at H
                  have c68b0 : decide (x17_5 < (t152.length : Int)) = true := decide_eq_true c68; clear c68
                  by_cases c69 : 0 ≤ x17_5
                  ·
                   rw [if_pos c69] at H
                   have c69b0 : decide (0 ≤ x17_5) = true := decide_eq_true c69; clear c69
                   by_cases c70 : x17_5 < (t173.length : Int)
                   ·
                    rw [if_pos c70] at H
                    have c70b0 : decide (x17_5 < (t173.length : Int)) = true := decide_eq_true c70; clear c70; replace H := Option.bind_eq_some_iff.mp H
                    obtain ⟨t180, A710, H⟩ := H
                    replace H : (if t180 = true then (unisonlaw10_LexBlanks.l1 k5 t151 t152 t173 (wrap64 (x17_5 + 1))) else (none)) = some r := H; have A71 := Aside0.mk A710; clear A710
                    by_cases c72 : t180 = true
                    ·
                     subst c72
                     have H1 : (unisonlaw10_LexBlanks.l1 k5 t151 t152 t173 (wrap64 (x17_5 + 1))) = some r := by rw [if_pos rfl] at H; exact H
                     clear H; have H := H1; clear H1
                     have H' := Aside0.mk H
                     clear H
                     obtain ⟨Ao73, co73, eo73⟩ := Kd.R_slice HO_6.out
                     subst eo73
                     try go_wp2
                     replace HO_6 := Aside0.mk (Kd.R_drew HO_6.out); replace HO_14 := Aside0.mk (Kd.R_drew HO_14.out); replace HB := Aside0.mk (below_drew1 HB.out); have p178 : 0 ≤ (x17_5 : Int) := of_decide_eq_true (by first | (with_reducible assumption) | assumption); have q178 : x17_5 < (t152.length : Int) := of_decide_eq_true (by first | (with_reducible assumption) | assumption)
                     obtain ⟨ad178, e178, hx178_0, hx178_1, hx178_2, hx178_3⟩ := at_T29 (Kd.R_reads' HO_6.out).2.2 x17_5 p178 q178
                     cases e178
                     replace p178 := eq_true p178; replace q178 := eq_true q178
                     obtain ⟨Ao75, co75, eo75⟩ := Kd.R_slice HO_14.out
                     (first | subst eo75 | (injection eo75 with f1_ f2_ f3_; have f4_ := f1_.symm; have f5_ := f3_.symm; clear f1_ f2_ f3_; subst f4_; subst f5_))
                     have p179 : 0 ≤ (x17_5 : Int) := of_decide_eq_true (by first | (with_reducible assumption) | assumption); have q179 : x17_5 < (t173.length : Int) := of_decide_eq_true (by first | (with_reducible assumption) | assumption)
                     obtain ⟨ad179, e179, hx179_0, hx179_1, hx179_2, hx179_3⟩ := at_T29 (Kd.R_reads' HO_14.out).2.2 x17_5 p179 q179
                     cases e179
                     replace p179 := eq_true p179; replace q179 := eq_true q179
                     refine start_ (n := 10) (S := fun w' => w'.cell? (ad178.add ((x17_5).toNat * 4)) = some (.int .i64 ((rd_T29 t152 x17_5).f0)) ∧ w'.cell? ⟨(ad178.add ((x17_5).toNat * 4)).block, (ad178.add ((x17_5).toNat * 4)).off + 1, none⟩ = some (.int .i64 ((rd_T29 t152 x17_5).f1)) ∧ w'.cell? ⟨(ad178.add ((x17_5).toNat * 4)).block, (ad178.add ((x17_5).toNat * 4)).off + 2, none⟩ = some (.string ((rd_T29 t152 x17_5).f2)) ∧ w'.cell? ⟨(ad178.add ((x17_5).toNat * 4)).block, (ad178.add ((x17_5).toNat * 4)).off + 3, none⟩ = some (.int .i64 ((rd_T29 t152 x17_5).f3)) ∧ w'.cell? (ad179.add ((x17_5).toNat * 4)) = some (.int .i64 ((rd_T29 t173 x17_5).f0)) ∧ w'.cell? ⟨(ad179.add ((x17_5).toNat * 4)).block, (ad179.add ((x17_5).toNat * 4)).off + 1, none⟩ = some (.int .i64 ((rd_T29 t173 x17_5).f1)) ∧ w'.cell? ⟨(ad179.add ((x17_5).toNat * 4)).block, (ad179.add ((x17_5).toNat * 4)).off + 2, none⟩ = some (.string ((rd_T29 t173 x17_5).f2)) ∧ w'.cell? ⟨(ad179.add ((x17_5).toNat * 4)).block, (ad179.add ((x17_5).toNat * 4)).off + 3, none⟩ = some (.int .i64 ((rd_T29 t173 x17_5).f3))) (ds := []) #[false, false, false, false, false, false, false, false, false, false] (by kernel_rfl) rfl rfl ⟨hx178_0, hx178_1, hx178_2, hx178_3, hx179_0, hx179_1, hx179_2, hx179_3⟩ (fun hHeld => ?_); refine with_tabW unisonlaw10_LexBlanks.tab23 unisonlaw10_LexBlanks.bits23 (fun HT_ HW_ => ?_)
                     generalize wr.drew = w74 at HO_6 HO_14 HB hx178_0 hx178_1 hx178_2 hx178_3 hx179_0 hx179_1 hx179_2 hx179_3 hHeld ⊢
                     refine pure_ (i := 0) (N := some 128) (v := ?_) (a' := ?_) #[true, false, false, false, false, false, false, false, false, false] rfl rfl (any_of HT_.out (by kernel_rfl)) (fun _ _ _ h => h) (Or.inl ⟨by rfl, ?_⟩) ?_ ?_
                     rotate_left; focus (intro w'; go_simp; with_reducible rfl; done)
                     rotate_left; focus (simp only [Act.put, List.setIfInBounds_toArray, List.set_cons_zero, List.set_cons_succ, i64_w, i32_w, u8_w, u32_w]; rfl; done)
                     refine pure_ (i := 1) (N := some 129) (v := ?_) (a' := ?_) #[true, true, false, false, false, false, false, false, false, false] rfl rfl (any_of HT_.out (by kernel_rfl)) (fun _ _ _ h => h) (Or.inl ⟨by rfl, ?_⟩) ?_ ?_
                     rotate_left; focus (intro w'; go_simp; with_reducible rfl; done)
                     rotate_left; focus (simp only [Act.put, List.setIfInBounds_toArray, List.set_cons_zero, List.set_cons_succ, i64_w, i32_w, u8_w, u32_w]; rfl; done)
                     refine pure_ (i := 2) (N := some 130) (v := ?_) (a' := ?_) #[true, true, true, false, false, false, false, false, false, false] rfl rfl (any_of HT_.out (by kernel_rfl)) (fun _ _ _ h => h) (Or.inl ⟨by rfl, ?_⟩) ?_ ?_
                     rotate_left; focus (intro w'; go_simp; with_reducible rfl; done)
                     rotate_left; focus (simp only [Act.put, List.setIfInBounds_toArray, List.set_cons_zero, List.set_cons_succ, i64_w, i32_w, u8_w, u32_w]; rfl; done)
                     refine pure_ (i := 4) (N := some 132) (v := ?_) (a' := ?_) #[true, true, true, false, true, false, false, false, false, false] rfl rfl (any_of HT_.out (by kernel_rfl)) (fun _ _ _ h => h) (Or.inl ⟨by rfl, ?_⟩) ?_ ?_
                     rotate_left; focus (intro w'; go_simp; with_reducible rfl; done)
                     rotate_left; focus (simp only [Act.put, List.setIfInBounds_toArray, List.set_cons_zero, List.set_cons_succ, i64_w, i32_w, u8_w, u32_w]; rfl; done)
                     refine pure_ (i := 5) (N := some 133) (v := ?_) (a' := ?_) #[true, true, true, false, true, true, false, false, false, false] rfl rfl (any_of HT_.out (by kernel_rfl)) (fun _ _ _ h => h) (Or.inl ⟨by rfl, ?_⟩) ?_ ?_
                     rotate_left; focus (intro w'; go_simp; with_reducible rfl; done)
                     rotate_left; focus (simp only [Act.put, List.setIfInBounds_toArray, List.set_cons_zero, List.set_cons_succ, i64_w, i32_w, u8_w, u32_w]; rfl; done)
                     refine pure_ (i := 6) (N := some 134) (v := ?_) (a' := ?_) #[true, true, true, false, true, true, true, false, false, false] rfl rfl (any_of HT_.out (by kernel_rfl)) (fun _ _ _ h => h) (Or.inl ⟨by rfl, ?_⟩) ?_ ?_
                     rotate_left; focus (intro w'; go_simp; with_reducible rfl; done)
                     rotate_left; focus (simp only [Act.put, List.setIfInBounds_toArray, List.set_cons_zero, List.set_cons_succ, i64_w, i32_w, u8_w, u32_w]; rfl; done)
                     refine take_ (i := 3) (N := some 131) (v := ?_) (a' := ?_) #[true, true, true, true, true, true, true, false, false, false] rfl rfl (take_ofW HT_.out HW_.out (by kernel_rfl)) (fun _ _ _ h => h) (Or.inl ⟨by rfl, ?_⟩) hHeld ?_ ?_
                     rotate_left; focus (rintro w' ⟨s0, s1, s2, s3, s4, s5, s6, s7⟩; go_simp; with_reducible rfl; done)
                     rotate_left; focus (simp only [Act.put, List.setIfInBounds_toArray, List.set_cons_zero, List.set_cons_succ, i64_w, i32_w, u8_w, u32_w]; rfl; done)
                     refine take_ (i := 7) (N := some 135) (v := ?_) (a' := ?_) #[true, true, true, true, true, true, true, true, false, false] rfl rfl (take_ofW HT_.out HW_.out (by kernel_rfl)) (fun _ _ _ h => h) (Or.inl ⟨by rfl, ?_⟩) hHeld ?_ ?_
                     rotate_left; focus (rintro w' ⟨s0, s1, s2, s3, s4, s5, s6, s7⟩; go_simp; with_reducible rfl; done)
                     rotate_left; focus (simp only [Act.put, List.setIfInBounds_toArray, List.set_cons_zero, List.set_cons_succ, i64_w, i32_w, u8_w, u32_w]; rfl; done)
                     refine one_ (i := 8) (N := some 136) #[true, true, true, true, true, true, true, true, true, false] rfl rfl (one_of HT_.out (by kernel_rfl)) (by decide) (fun K hK => ?_)
                     refine goes_ Tryd.func14 (by kernel_rfl) rfl #[.agg #[.int .i64 ((rd_T29 t152 x17_5).f0), .int .i64 ((rd_T29 t152 x17_5).f1), .string ((rd_T29 t152 x17_5).f2), .int .i64 ((rd_T29 t152 x17_5).f3)], .agg #[.int .i64 ((rd_T29 t173 x17_5).f0), .int .i64 ((rd_T29 t173 x17_5).f1), .string ((rd_T29 t173 x17_5).f2), .int .i64 ((rd_T29 t173 x17_5).f3)]] (by rfl) rfl rfl (by (try simp only [List.map_toArray, List.map_cons, List.map_nil]); first | done | rfl | (simp only [List.length_drop, List.length_take]; rfl)) ?_
                     with_reducible refine (unisonlaw10_like.calls ((rd_T29 t152 x17_5).f0) ((rd_T29 t152 x17_5).f1) ((rd_T29 t152 x17_5).f2) ((rd_T29 t152 x17_5).f3) ((rd_T29 t173 x17_5).f0) ((rd_T29 t173 x17_5).f1) ((rd_T29 t173 x17_5).f2) ((rd_T29 t173 x17_5).f3) true _ A71.out).mono ?_
                     rintro e w76 ⟨rfl, hb⟩
                     have HS0_ := (hb.cell (World.block_lt_of_cell? _ _ (hHeld.1))).trans (hHeld.1); have HS1_ := (hb.cell (World.block_lt_of_cell? _ _ (hHeld.2.1))).trans (hHeld.2.1); have HS2_ := (hb.cell (World.block_lt_of_cell? _ _ (hHeld.2.2.1))).trans (hHeld.2.2.1); have HS3_ := (hb.cell (World.block_lt_of_cell? _ _ (hHeld.2.2.2.1))).trans (hHeld.2.2.2.1); have HS4_ := (hb.cell (World.block_lt_of_cell? _ _ (hHeld.2.2.2.2.1))).trans (hHeld.2.2.2.2.1); have HS5_ := (hb.cell (World.block_lt_of_cell? _ _ (hHeld.2.2.2.2.2.1))).trans (hHeld.2.2.2.2.2.1); have HS6_ := (hb.cell (World.block_lt_of_cell? _ _ (hHeld.2.2.2.2.2.2.1))).trans (hHeld.2.2.2.2.2.2.1); have HS7_ := (hb.cell (World.block_lt_of_cell? _ _ (hHeld.2.2.2.2.2.2.2))).trans (hHeld.2.2.2.2.2.2.2)
                     refine ⟨_, rfl, ?_⟩
                     replace HO_6 := Aside0.mk (Kd.R_below (by (with_reducible repeat (first | apply Kd.R_alloc | apply Kd.R_drewN | apply Kd.R_drew)); exact HO_6.out) hb); replace HO_14 := Aside0.mk (Kd.R_below (by (with_reducible repeat (first | apply Kd.R_alloc | apply Kd.R_drewN | apply Kd.R_drew)); exact HO_14.out) hb); replace HB := bs hb; (try clear hb); (try clear hb2); (try clear hk); (try clear hi)
                     refine hK.out _ _ ⟨HS0_, HS1_, HS2_, HS3_, HS4_, HS5_, HS6_, HS7_⟩ (fun hHeld => ?_)
                     clear hK K
                     refine norm_ (a' := ?_) ?_ ?_
                     rotate_left; focus (show Act.put _ (some 136) _ = _; simp only [Act.put, List.setIfInBounds_toArray, List.set_cons_zero, List.set_cons_succ, i64_w, i32_w, u8_w, u32_w]; rfl; done)
                     refine pure_ (i := 9) (N := some 18) (v := ?_) (a' := ?_) #[true, true, true, true, true, true, true, true, true, true] rfl rfl (any_of HT_.out (by kernel_rfl)) (fun _ _ _ h => h) (Or.inl ⟨by rfl, ?_⟩) ?_ ?_
                     rotate_left; focus (intro w'; go_simp; with_reducible rfl; done)
                     rotate_left; focus (simp only [Act.put, List.setIfInBounds_toArray, List.set_cons_zero, List.set_cons_succ, i64_w, i32_w, u8_w, u32_w]; rfl; done)
                     refine done_ (done_of HT_.out (by kernel_rfl)) ?_
                     try go_wp2
                     go_roundg k5
                     case measure => have := HJ4.out; have := HK2.out; have := HJ12.out; have := HJ61.out; have := HK5.out; omega
                     case rel => exact ⟨(wrap64 (x17_5 + 1)), (by first | rfl | (simp; done) | (simp [*]; done)), H', ⟨by have := HJ4.out; have := HK2.out; have := HJ12.out; have := HJ61.out; have := HK5.out; omega⟩, ⟨by (with_reducible repeat (first | apply Kd.R_alloc | apply Kd.R_drewN | apply Kd.R_drew)); exact HO_6.out⟩, ⟨by (with_reducible repeat (first | apply Kd.R_alloc | apply Kd.R_drewN | apply Kd.R_drew)); exact HO_14.out⟩, ⟨by repeat (first | (with_reducible first | exact HB.out | apply below_alloc | apply pw_below_drewN | apply below_drew1) | exact HB.out)⟩⟩
                    ·
                     replace c72 := Bool.eq_false_iff.mpr c72
                     subst c72
                     have H1 : (none) = some r := by rw [if_neg (show ¬ (false = true) by decide)] at H; exact H
                     clear H; have H := H1; clear H1
                     exact absurd H (by simp)
                   ·
                    rw [if_neg c70] at H
                    exact absurd H (by simp)
                  ·
                   rw [if_neg c69] at H
                   exact absurd H (by simp)
                 ·
                  rw [if_neg c68] at H
                  have c68b0 : decide (x17_5 < (t152.length : Int)) = false := decide_eq_false c68; clear c68
                  obtain rfl := Option.some.inj H
                  obtain ⟨Ao77, co77, eo77⟩ := Kd.R_slice HO_6.out
                  subst eo77
                  go_wp2
                  go_ret
                  exact ⟨by first | rfl | (simp [errW_none, errW_some] <;> rfl) | (simp [*, errW_none, errW_some] <;> rfl), by repeat (first | (with_reducible first | exact HB.out | apply below_alloc | apply pw_below_drewN | apply below_drew1) | exact HB.out)⟩
           ·
            rw [if_neg c60] at H
            exact absurd H (by simp)
          ·
           rw [if_neg c59] at H
           exact absurd H (by simp)
         ·
          rw [if_neg c58] at H
          exact absurd H (by simp)

end Go.Proofs.YtllehkjebikgpaaDoor.PA
