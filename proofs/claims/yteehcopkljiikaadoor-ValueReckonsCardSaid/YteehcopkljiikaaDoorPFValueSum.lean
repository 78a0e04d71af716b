-- Laid by a program of ours (wip/gen/xprint.py). Not trusted: Lean checks it.
import Derived.Test.YteehcopkljiikaaDoorPAx0
import Derived.Test.YteehcopkljiikaaDoorMA
namespace Go.Proofs.YteehcopkljiikaaDoor.PA
open Go.RowKit Go.Proofs.YteehcopkljiikaaDoorW.PrintWords Go.Proofs.YteehcopkljiikaaDoorW.PrintLast Go.Proofs.YteehcopkljiikaaDoorW.PrintMore Go.Proofs.YteehcopkljiikaaDoorX
attribute [local go_sem] max2_int min2_int max_two min_two max_three min_three max_four min_four   -- for this text's walks alone
set_option linter.unusedVariables false
set_option linter.unusedSimpArgs false

/-! ### value_Sum: function 20 -/
mutual
def value_Sum.l0 : Nat → List (S23) → Int → Int → List Int → List Int → Option (Int × Int × ByteArray × Int)
 | 0, _, _, _, _, _ => none
 | k + 1, x18, x19, x20, x147000, x148000 => if x20 < x19 then (if 0 ≤ x20 then (if x20 < (x18.length : Int) then (if ((rd_T23 x18 x20).f0) = 0 then (value_Sum.l0 k x18 x19 (wrap64 (x20 + 1)) x147000 x148000) else (if ((rd_T23 x18 x20).f1) < 0 then (if x148000.length < 17592186044416 then (value_Sum.l0 k x18 x19 (wrap64 (x20 + 1)) x147000 (x148000 ++ [(rd_T23 x18 x20).f1])) else (none)) else (if x147000.length < 17592186044416 then (value_Sum.l0 k x18 x19 (wrap64 (x20 + 1)) (x147000 ++ [(rd_T23 x18 x20).f1]) x148000) else (none)))) else (none)) else (none)) else (if (wrap64 ((x147000.length : Int) + (x148000.length : Int))) = 0 then (some (0, 0, (⟨#[]⟩ : ByteArray), 0)) else (value_Sum.l1 k 0 x147000 x148000))
def value_Sum.l1 : Nat → Int → List Int → List Int → Option (Int × Int × ByteArray × Int)
 | 0, _, _, _ => none
 | k + 1, x9, x147000, x148000 => if (wrap64 ((x147000.length : Int) + (x148000.length : Int))) > 0 then (if (x147000.length : Int) = 0 then (value_Sum.j2 k x9 true x147000 x148000) else (if x9 > 0 then (value_Sum.j2 k x9 (decide ((x148000.length : Int) > 0)) x147000 x148000) else (value_Sum.j2 k x9 false x147000 x148000))) else ((value_made.f x9).bind fun bt156 => (some (bt156.1, bt156.2.1, bt156.2.2.1, bt156.2.2.2)))
def value_Sum.j2 : Nat → Int → Bool → List Int → List Int → Option (Int × Int × ByteArray × Int)
 | 0, _, _, _, _ => none
 | k + 1, x9, x67, x147000, x148000 => if x67 = true then (if 0 < (x148000.length : Int) then (if 1 ≤ (x148000.length : Int) then ((some (x148000.drop (1 : Int).toNat : List Int)).bind fun y161 => (if x9 > 0 then (value_Sum.j3 k x9 (rd x148000 0) (decide ((rd x148000 0) > (wrap64 (4611686018427387904 - x9)))) x147000 y161) else (value_Sum.j3 k x9 (rd x148000 0) false x147000 y161))) else (none)) else (none)) else (if 0 < (x147000.length : Int) then (if 1 ≤ (x147000.length : Int) then ((some (x147000.drop (1 : Int).toNat : List Int)).bind fun y165 => (if x9 > 0 then (value_Sum.j4 k x9 (rd x147000 0) (decide ((rd x147000 0) > (wrap64 (4611686018427387904 - x9)))) y165 x148000) else (value_Sum.j4 k x9 (rd x147000 0) false y165 x148000))) else (none)) else (none))
def value_Sum.j3 : Nat → Int → Int → Bool → List Int → List Int → Option (Int × Int × ByteArray × Int)
 | 0, _, _, _, _, _ => none
 | k + 1, x9, x11, x86, x147000, x148000 => if x86 = true then (some (0, 0, (⟨#[]⟩ : ByteArray), 12)) else (if (wrap64 (x9 + x11)) < (-4611686018427387904) then (if (x147000.length : Int) = 0 then (some (0, 0, (⟨#[]⟩ : ByteArray), 12)) else (value_Sum.l1 k (wrap64 (x9 + x11)) x147000 x148000)) else (value_Sum.l1 k (wrap64 (x9 + x11)) x147000 x148000))
def value_Sum.j4 : Nat → Int → Int → Bool → List Int → List Int → Option (Int × Int × ByteArray × Int)
 | 0, _, _, _, _, _ => none
 | k + 1, x9, x11, x86, x147000, x148000 => if x86 = true then (some (0, 0, (⟨#[]⟩ : ByteArray), 12)) else (if (wrap64 (x9 + x11)) < (-4611686018427387904) then (if (x147000.length : Int) = 0 then (some (0, 0, (⟨#[]⟩ : ByteArray), 12)) else (value_Sum.l1 k (wrap64 (x9 + x11)) x147000 x148000)) else (value_Sum.l1 k (wrap64 (x9 + x11)) x147000 x148000))
end
def value_Sum.f (k : Nat) (l0 : List (S23)) : Option (Int × Int × ByteArray × Int) := (value_all.f k 1 l0).bind fun t145 => (if t145 = 0 then (value_Sum.l0 k l0 (l0.length : Int) 0 ([] : List Int) ([] : List Int)) else (some (0, 0, (⟨#[]⟩ : ByteArray), t145)))
theorem value_Sum.mono_l : ∀ k, (∀ y0 y1 y2 y3 y4, LeO (value_Sum.l0 k y0 y1 y2 y3 y4) (value_Sum.l0 (k + 1) y0 y1 y2 y3 y4)) ∧ (∀ y0 y1 y2, LeO (value_Sum.l1 k y0 y1 y2) (value_Sum.l1 (k + 1) y0 y1 y2)) ∧ (∀ y0 y1 y2 y3, LeO (value_Sum.j2 k y0 y1 y2 y3) (value_Sum.j2 (k + 1) y0 y1 y2 y3)) ∧ (∀ y0 y1 y2 y3 y4, LeO (value_Sum.j3 k y0 y1 y2 y3 y4) (value_Sum.j3 (k + 1) y0 y1 y2 y3 y4)) ∧ (∀ y0 y1 y2 y3 y4, LeO (value_Sum.j4 k y0 y1 y2 y3 y4) (value_Sum.j4 (k + 1) y0 y1 y2 y3 y4))
 | 0 => ⟨fun _ _ _ _ _ r h => by simp [value_Sum.l0] at h, fun _ _ _ r h => by simp [value_Sum.l1] at h, fun _ _ _ _ r h => by simp [value_Sum.j2] at h, fun _ _ _ _ _ r h => by simp [value_Sum.j3] at h, fun _ _ _ _ _ r h => by simp [value_Sum.j4] at h⟩
 | k + 1 => by
  obtain ⟨ih0, ih1, ih2, ih3, ih4⟩ := value_Sum.mono_l k
  refine ⟨?_, ?_, ?_, ?_, ?_⟩
  ·
   intro y0 y1 y2 y3 y4
   unfold value_Sum.l0
   repeat' first
   | (with_reducible exact ih0 _ _ _ _ _)
   | (with_reducible exact ih1 _ _ _)
   | (with_reducible exact ih2 _ _ _ _)
   | (with_reducible exact ih3 _ _ _ _ _)
   | (with_reducible exact ih4 _ _ _ _ _)
   | (with_reducible exact value_all.mono _ _ _)
   | (with_reducible exact LeO.refl _)
   | (with_reducible exact LeO.none _)
   | (with_reducible refine LeO.ite ?_ ?_)
   | (with_reducible refine LeO.bind ?_ (fun _ => ?_))
   | exact ih0 _ _ _ _ _
   | exact ih1 _ _ _
   | exact ih2 _ _ _ _
   | exact ih3 _ _ _ _ _
   | exact ih4 _ _ _ _ _
   | exact value_all.mono _ _ _
   | exact LeO.none _
   | refine LeO.ite ?_ ?_
   | refine LeO.bind ?_ (fun _ => ?_)
  ·
   intro y0 y1 y2
   unfold value_Sum.l1
   repeat' first
   | (with_reducible exact ih0 _ _ _ _ _)
   | (with_reducible exact ih1 _ _ _)
   | (with_reducible exact ih2 _ _ _ _)
   | (with_reducible exact ih3 _ _ _ _ _)
   | (with_reducible exact ih4 _ _ _ _ _)
   | (with_reducible exact value_all.mono _ _ _)
   | (with_reducible exact LeO.refl _)
   | (with_reducible exact LeO.none _)
   | (with_reducible refine LeO.ite ?_ ?_)
   | (with_reducible refine LeO.bind ?_ (fun _ => ?_))
   | exact ih0 _ _ _ _ _
   | exact ih1 _ _ _
   | exact ih2 _ _ _ _
   | exact ih3 _ _ _ _ _
   | exact ih4 _ _ _ _ _
   | exact value_all.mono _ _ _
   | exact LeO.none _
   | refine LeO.ite ?_ ?_
   | refine LeO.bind ?_ (fun _ => ?_)
  ·
   intro y0 y1 y2 y3
   unfold value_Sum.j2
   repeat' first
   | (with_reducible exact ih0 _ _ _ _ _)
   | (with_reducible exact ih1 _ _ _)
   | (with_reducible exact ih2 _ _ _ _)
   | (with_reducible exact ih3 _ _ _ _ _)
   | (with_reducible exact ih4 _ _ _ _ _)
   | (with_reducible exact value_all.mono _ _ _)
   | (with_reducible exact LeO.refl _)
   | (with_reducible exact LeO.none _)
   | (with_reducible refine LeO.ite ?_ ?_)
   | (with_reducible refine LeO.bind ?_ (fun _ => ?_))
   | exact ih0 _ _ _ _ _
   | exact ih1 _ _ _
   | exact ih2 _ _ _ _
   | exact ih3 _ _ _ _ _
   | exact ih4 _ _ _ _ _
   | exact value_all.mono _ _ _
   | exact LeO.none _
   | refine LeO.ite ?_ ?_
   | refine LeO.bind ?_ (fun _ => ?_)
  ·
   intro y0 y1 y2 y3 y4
   unfold value_Sum.j3
   repeat' first
   | (with_reducible exact ih0 _ _ _ _ _)
   | (with_reducible exact ih1 _ _ _)
   | (with_reducible exact ih2 _ _ _ _)
   | (with_reducible exact ih3 _ _ _ _ _)
   | (with_reducible exact ih4 _ _ _ _ _)
   | (with_reducible exact value_all.mono _ _ _)
   | (with_reducible exact LeO.refl _)
   | (with_reducible exact LeO.none _)
   | (with_reducible refine LeO.ite ?_ ?_)
   | (with_reducible refine LeO.bind ?_ (fun _ => ?_))
   | exact ih0 _ _ _ _ _
   | exact ih1 _ _ _
   | exact ih2 _ _ _ _
   | exact ih3 _ _ _ _ _
   | exact ih4 _ _ _ _ _
   | exact value_all.mono _ _ _
   | exact LeO.none _
   | refine LeO.ite ?_ ?_
   | refine LeO.bind ?_ (fun _ => ?_)
  ·
   intro y0 y1 y2 y3 y4
   unfold value_Sum.j4
   repeat' first
   | (with_reducible exact ih0 _ _ _ _ _)
   | (with_reducible exact ih1 _ _ _)
   | (with_reducible exact ih2 _ _ _ _)
   | (with_reducible exact ih3 _ _ _ _ _)
   | (with_reducible exact ih4 _ _ _ _ _)
   | (with_reducible exact value_all.mono _ _ _)
   | (with_reducible exact LeO.refl _)
   | (with_reducible exact LeO.none _)
   | (with_reducible refine LeO.ite ?_ ?_)
   | (with_reducible refine LeO.bind ?_ (fun _ => ?_))
   | exact ih0 _ _ _ _ _
   | exact ih1 _ _ _
   | exact ih2 _ _ _ _
   | exact ih3 _ _ _ _ _
   | exact ih4 _ _ _ _ _
   | exact value_all.mono _ _ _
   | exact LeO.none _
   | refine LeO.ite ?_ ?_
   | refine LeO.bind ?_ (fun _ => ?_)
theorem value_Sum.mono : ∀ a0 k, LeO (value_Sum.f k a0) (value_Sum.f (k + 1) a0) := by
 intro a0 k
 obtain ⟨ih0, ih1, ih2, ih3, ih4⟩ := value_Sum.mono_l k
 unfold value_Sum.f
 repeat' first
   | (with_reducible exact ih0 _ _ _ _ _)
   | (with_reducible exact ih1 _ _ _)
   | (with_reducible exact ih2 _ _ _ _)
   | (with_reducible exact ih3 _ _ _ _ _)
   | (with_reducible exact ih4 _ _ _ _ _)
   | (with_reducible exact value_all.mono _ _ _)
   | (with_reducible exact LeO.refl _)
   | (with_reducible exact LeO.none _)
   | (with_reducible refine LeO.ite ?_ ?_)
   | (with_reducible refine LeO.bind ?_ (fun _ => ?_))
   | exact ih0 _ _ _ _ _
   | exact ih1 _ _ _
   | exact ih2 _ _ _ _
   | exact ih3 _ _ _ _ _
   | exact ih4 _ _ _ _ _
   | exact value_all.mono _ _ _
   | exact LeO.none _
   | refine LeO.ite ?_ ?_
   | refine LeO.bind ?_ (fun _ => ?_)
set_option maxHeartbeats 8000000 in
set_option maxRecDepth 100000 in
theorem value_Sum.calls (k : Nat) (A0 : Option Addr) (c0 : Nat) (l0 : List (S23)) (r1 : Int) (r2 : Int) (r3 : ByteArray) (r4 : Int) (w : World) (hr0 : Kd.C k23 w A0 l0.length l0) (hc0 : l0.length ≤ c0) (h : value_Sum.f k l0 = some (r1, r2, r3, r4)) :
  Calls Tryd.prog 20 #[.slice A0 l0.length c0] w fun e w' => e = .returned (.tuple #[.agg #[.int .i64 r1, .int .i64 r2, .string r3], .int .i64 r4]) ∧ Below w.heap.size w w' := by
 have hu23 := Tryd.underlying23; have HR0 := Aside0.mk hr0; have HC0 := Aside0.mk hc0; clear hr0 hc0; have HB := Aside0.mk (Below.refl w.heap.size w); have H : ((value_all.f k 1 l0).bind fun t145 => (if t145 = 0 then (value_Sum.l0 k l0 (l0.length : Int) 0 ([] : List Int) ([] : List Int)) else (some (0, 0, (⟨#[]⟩ : ByteArray), t145)))) = some (r1, r2, r3, r4) := h; clear h; replace H := Option.bind_eq_some_iff.mp H
 obtain ⟨t145, A20, H⟩ := H
 replace H : (if t145 = 0 then (value_Sum.l0 k l0 (l0.length : Int) 0 ([] : List Int) ([] : List Int)) else (some (0, 0, (⟨#[]⟩ : ByteArray), t145))) = some (r1, r2, r3, r4) := H; have A2 := Aside0.mk A20; clear A20
 by_cases c3 : t145 = 0
 ·
  rw [if_pos c3] at H
  have c3b0 : (t145 == 0) = true := beq_iff_eq.mpr c3; have c3b1 : (t145 != 0) = false := bne_eq_false_iff_eq.mpr c3; clear c3
  have H' := Aside0.mk H
  clear H
  go_enter Tryd.func20, Tryd.ntmps20
  go_wp2_with (first | ((with_reducible refine gate_dst (N := 2) rfl ?_); (try (refine gate_guard (by rfl) ?_; dsimp only)); refine box_event ?hg (N := 2) ?hd (cs := #[.int .i64 0, .int .i64 0, .string (⟨#[]⟩ : ByteArray)]) (t := 23) ?hr ?_; (case hd => rfl); (case hg => rfl); (case hr => first | (go_simp; done) | (go_simp; rfl)); intro gb144 hg w4 hbox hb; have BK144 := Aside0.mk (hbox); have GW144 := bz hg; have GE144 := bz hg; replace HB := bs hb; clear hb hbox hg) | ((with_reducible refine gate_callee (f := 44) rfl ?_); refine gL (some 13) Tryd.func44 #[.int .i64 1, .slice A0 l0.length c0] ?_; (with_reducible refine (value_all.calls k 1 _ _ l0 t145 _ ?side1 ?side2 A2.out).mono ?_); (case side1 => repeat (first | exact (Kd.C_below HR0.out HB.out) | (with_reducible refine Kd.C_alloc ?_ _) | (with_reducible refine Kd.C_drewN ?_ _) | (with_reducible refine Kd.C_drew ?_))); (case side2 => exact HC0.out); rintro e w5 ⟨rfl, hb⟩; refine ⟨_, rfl, ?_⟩; replace BK144 := bb BK144 hb; replace HB := bs hb; (try clear hb); (try clear hb2); (try clear hk); (try clear hi)) | ((with_reducible refine gate_dst (N := 5) rfl ?_); (try (refine gate_guard (by rfl) ?_; dsimp only)); refine box_event ?hg (N := 5) ?hd (cs := #[.slice none 0 0]) (t := 52) ?hr ?_; (case hd => rfl); (case hg => rfl); (case hr => first | (go_simp; done) | (go_simp; rfl)); intro gb146 hg w6 hbox hb; have BK146 := Aside0.mk (hbox); have GW146 := bz hg; have GE146 := bz hg; have NB144_146 := bl BK144 hg; have NB146_144 := bg BK144 hg; replace BK144 := bb BK144 hb; replace HB := bs hb; clear hb hbox hg) | ((with_reducible refine gate_dst (N := 6) rfl ?_); (try (refine gate_guard (by rfl) ?_; dsimp only)); refine box_event ?hg (N := 6) ?hd (cs := #[.slice none 0 0]) (t := 52) ?hr ?_; (case hd => rfl); (case hg => rfl); (case hr => first | (go_simp; done) | (go_simp; rfl)); intro gb147 hg w7 hbox hb; have BK147 := Aside0.mk (hbox); have GW147 := bz hg; have GE147 := bz hg; have NB144_147 := bl BK144 hg; have NB147_144 := bg BK144 hg; have NB146_147 := bl BK146 hg; have NB147_146 := bg BK146 hg; replace BK144 := bb BK144 hb; replace BK146 := bb BK146 hb; replace HB := bs hb; clear hb hbox hg))
  go_loopg [20] k (fun kq v20 w' => ∃ (x20_1 : Int) (x147000_1 : List Int) (x148000_1 : List Int) (u147000 : Value) (u148000 : Value), v20 = .int .i64 x20_1 ∧ Aside0 (value_Sum.l0 kq l0 (l0.length : Int) x20_1 x147000_1 x148000_1 = some (r1, r2, r3, r4)) ∧ Aside0 (kq ≤ k) ∧ Aside0 (Kd.Q (Kd.int .i64) 3 w' w.heap.size (fun k_ => some k_ ≠ (u148000 : Value).ownBlock) u147000 x147000_1) ∧ Aside0 (Kd.Q (Kd.int .i64) 3 w' w.heap.size (fun k_ => some k_ ≠ (u147000 : Value).ownBlock) u148000 x148000_1) ∧ Aside0 (w'.heap[gb144]? = some (.cells #[.int .i64 0, .int .i64 0, .string (⟨#[]⟩ : ByteArray)] 23 (0, 0))) ∧ Aside0 (w'.heap[gb146]? = some (.cells #[u147000] 52 (0, 0))) ∧ Aside0 (w'.heap[gb147]? = some (.cells #[u148000] 52 (0, 0))) ∧ Aside0 (Below w.heap.size w w'))
  case atStart => exact ⟨(0), (([] : List Int)), (([] : List Int)), (.slice none 0 0), (.slice none 0 0), (by first | rfl | (simp; done) | (simp [*]; done)), H', ⟨Nat.le_refl _⟩, ⟨Kd.Q_of_R (by first | exact Kd.R_nil _ _ _ _ _ | exact Kd.N_nil _ _ _ _ _ | exact Kd.V_nil _ _ _ _ _ | exact Kd.Q_nil _ _ _ _ _ | exact Kd.S_nil _ _ _ _ _)⟩, ⟨Kd.Q_of_R (by first | exact Kd.R_nil _ _ _ _ _ | exact Kd.N_nil _ _ _ _ _ | exact Kd.V_nil _ _ _ _ _ | exact Kd.Q_nil _ _ _ _ _ | exact Kd.S_nil _ _ _ _ _)⟩, ⟨by (with_reducible repeat first | apply bN | apply bD | apply bA); exact BK144.out⟩, ⟨by (with_reducible repeat first | apply bN | apply bD | apply bA); exact BK146.out⟩, ⟨by (with_reducible repeat first | apply bN | apply bD | apply bA); exact BK147.out⟩, ⟨by repeat (first | (with_reducible first | exact HB.out | apply pA | apply pN | apply pD | refine pS ?_ GE144.out | refine pS ?_ GE146.out | refine pS ?_ GE147.out) | exact HB.out)⟩⟩
  case round =>
   clear H'
   (try clear c2); (try clear p2); (try clear c3); (try clear c3b0); (try clear c3b1); (try clear c4)
   obtain ⟨x20_1, x147000_1, x148000_1, u147000, u148000, rfl, HA, HK1, HO_147000, HO_148000, BK144, BK146, BK147, HB⟩ := hrel
   cases gk with
   | zero => exact absurd HA.out (by simp [value_Sum.l0])
   | succ k1 =>
    have H := HA.out; clear HA
    simp only [value_Sum.l0] at H
    by_cases c8 : x20_1 < (l0.length : Int)
    ·
     rw [if_pos c8] at H
     have c8b0 : decide (x20_1 < (l0.length : Int)) = true := decide_eq_true c8; clear c8
     by_cases c9 : 0 ≤ x20_1
     ·
      rw [if_pos c9] at H
      have c9b0 : decide (0 ≤ x20_1) = true := decide_eq_true c9; clear c9
      by_cases c10 : x20_1 < (l0.length : Int)
      ·
       rw [if_pos c10] at H
       have c10b0 : decide (x20_1 < (l0.length : Int)) = true := decide_eq_true c10; clear c10
       by_cases c11 : ((rd_T23 l0 x20_1).f0) = 0
       ·
        rw [if_pos c11] at H
        have c11b0 : (((rd_T23 l0 x20_1).f0) == 0) = true := beq_iff_eq.mpr c11; have c11b1 : (((rd_T23 l0 x20_1).f0) != 0) = false := bne_eq_false_iff_eq.mpr c11; clear c11
        have H' := Aside0.mk H
        clear H; have p148 : 0 ≤ (x20_1 : Int) := of_decide_eq_true (by first | (with_reducible assumption) | assumption); have q148 : x20_1 < (l0.length : Int) := of_decide_eq_true (by first | (with_reducible assumption) | assumption)
        obtain ⟨ad148, e148, hx148_0, hx148_1, hx148_2⟩ := at_T23 HR0.out x20_1 p148 q148
        cases e148
        replace hx148_0 := (HB.out.cell (World.block_lt_of_cell? w _ hx148_0)).trans hx148_0; replace hx148_1 := (HB.out.cell (World.block_lt_of_cell? w _ hx148_1)).trans hx148_1; replace hx148_2 := (HB.out.cell (World.block_lt_of_cell? w _ hx148_2)).trans hx148_2; replace p148 := eq_true p148; replace q148 := eq_true q148
        go_wp2_with (first | ((with_reducible refine gate_dst (N := 8) rfl ?_); (try (refine gate_guard (by rfl) ?_; dsimp only)); refine box_event ?hg (N := 8) ?hd (cs := #[.int .i64 0, .int .i64 0, .string (⟨#[]⟩ : ByteArray)]) (t := 23) ?hr ?_; (case hd => rfl); (case hg => rfl); (case hr => first | (go_simp; done) | (go_simp; rfl)); intro gb149 hg w12 hbox hb; have BK149 := Aside0.mk (hbox); have GW149 := bz hg; have GE149 := bz hg; have NB144_149 := bl BK144 hg; have NB149_144 := bg BK144 hg; have NB146_149 := bl BK146 hg; have NB149_146 := bg BK146 hg; have NB147_149 := bl BK147 hg; have NB149_147 := bg BK147 hg; replace HO_147000 := Aside0.mk (Kd.Q_below (by (with_reducible repeat (first | apply Kd.Q_alloc | apply Kd.Q_drewN | apply Kd.Q_drew)); exact HO_147000.out) hb); replace HO_148000 := Aside0.mk (Kd.Q_below (by (with_reducible repeat (first | apply Kd.Q_alloc | apply Kd.Q_drewN | apply Kd.Q_drew)); exact HO_148000.out) hb); replace BK144 := bb BK144 hb; replace BK146 := bb BK146 hb; replace BK147 := bb BK147 hb; replace HB := bs hb; clear hb hbox hg; have hnb13 := NB149_144.out; have hnc13 := NB144_149.out; have hnb14 := NB149_146.out; have hnc14 := NB146_149.out; have hnb15 := NB149_147.out; have hnc15 := NB147_149.out; have hcz16_0 : w12.cell? ⟨gb149, 0, none⟩ = some (.int .i64 0) := (blk_cell BK149.out 0).trans rfl; have hcz16_1 : w12.cell? ⟨gb149, 1, none⟩ = some (.int .i64 0) := (blk_cell BK149.out 1).trans rfl; have hcz16_2 : w12.cell? ⟨gb149, 2, none⟩ = some (.string (⟨#[]⟩ : ByteArray)) := (blk_cell BK149.out 2).trans rfl; have hfz16_0 := blk_frozen BK149.out 0; have hfz16_1 := blk_frozen BK149.out 1; have hfz16_2 := blk_frozen BK149.out 2) | ((with_reducible refine gate_store (t := 23) (p := 8) rfl ?_); refine store_event (t := 23) (p := 8) (v := ?vo_w17) (w1 := (((w12.setCell ⟨gb149, 0, none⟩ (.int .i64 ((rd_T23 l0 x20_1).f0))).setCell ⟨gb149, 1, none⟩ (.int .i64 ((rd_T23 l0 x20_1).f1))).setCell ⟨gb149, 2, none⟩ (.string ((rd_T23 l0 x20_1).f2)))) ?hg ?ho ?hn ?hr ?_; (case ho => rfl); (case hg => rfl); (case hn => rfl); (case hr => first | (go_simp; done) | (go_simp; rfl)); intro w17 hw; replace HO_147000 : Aside0 (Kd.Q (Kd.int .i64) 3 w17 w.heap.size (fun k_ => some k_ ≠ (u148000 : Value).ownBlock) u147000 x147000_1) := ⟨(by rw [hw]; exact (by (with_reducible repeat (first | apply Kd.Q_alloc | apply Kd.Q_drewN | apply Kd.Q_drew)); exact Kd.Q_mono (Kd.Q_far (p := ⟨gb149, 2, none⟩) (Kd.Q_far (p := ⟨gb149, 1, none⟩) (Kd.Q_far (p := ⟨gb149, 0, none⟩) (Kd.Q_types HO_147000.out BK149.out (by decide)) (fun _ hk => hk.2) (.int .i64 ((rd_T23 l0 x20_1).f0))) (fun _ hk => hk.2) (.int .i64 ((rd_T23 l0 x20_1).f1))) (fun _ hk => hk.2) (.string ((rd_T23 l0 x20_1).f2))) (fun _ hk => hk.1)))⟩; replace HO_148000 : Aside0 (Kd.Q (Kd.int .i64) 3 w17 w.heap.size (fun k_ => some k_ ≠ (u147000 : Value).ownBlock) u148000 x148000_1) := ⟨(by rw [hw]; exact (by (with_reducible repeat (first | apply Kd.Q_alloc | apply Kd.Q_drewN | apply Kd.Q_drew)); exact Kd.Q_mono (Kd.Q_far (p := ⟨gb149, 2, none⟩) (Kd.Q_far (p := ⟨gb149, 1, none⟩) (Kd.Q_far (p := ⟨gb149, 0, none⟩) (Kd.Q_types HO_148000.out BK149.out (by decide)) (fun _ hk => hk.2) (.int .i64 ((rd_T23 l0 x20_1).f0))) (fun _ hk => hk.2) (.int .i64 ((rd_T23 l0 x20_1).f1))) (fun _ hk => hk.2) (.string ((rd_T23 l0 x20_1).f2))) (fun _ hk => hk.1)))⟩; replace BK144 := bw BK144 hw; replace BK146 := bw BK146 hw; replace BK147 := bw BK147 hw; replace BK149 : Aside0 (w17.heap[gb149]? = some (.cells #[.int .i64 ((rd_T23 l0 x20_1).f0), .int .i64 ((rd_T23 l0 x20_1).f1), .string ((rd_T23 l0 x20_1).f2)] 23 (0, 0))) := bp BK149 hw; replace HB := bv hw; clear hw; have hcz18_0 : w17.cell? ⟨gb149, 0, none⟩ = some (.int .i64 ((rd_T23 l0 x20_1).f0)) := (blk_cell BK149.out 0).trans rfl; have hcz18_1 : w17.cell? ⟨gb149, 1, none⟩ = some (.int .i64 ((rd_T23 l0 x20_1).f1)) := (blk_cell BK149.out 1).trans rfl; have hcz18_2 : w17.cell? ⟨gb149, 2, none⟩ = some (.string ((rd_T23 l0 x20_1).f2)) := (blk_cell BK149.out 2).trans rfl; have hfz18_0 := blk_frozen BK149.out 0; have hfz18_1 := blk_frozen BK149.out 1; have hfz18_2 := blk_frozen BK149.out 2))
        go_roundg k1
        case measure => have := HK1.out; omega
        case rel => exact ⟨(wrap64 (x20_1 + 1)), (x147000_1), (x148000_1), (u147000), (u148000), (by first | rfl | (simp; done) | (simp [*]; done)), H', ⟨by have := HK1.out; omega⟩, ⟨by (with_reducible repeat (first | apply Kd.Q_alloc | apply Kd.Q_drewN | apply Kd.Q_drew)); exact HO_147000.out⟩, ⟨by (with_reducible repeat (first | apply Kd.Q_alloc | apply Kd.Q_drewN | apply Kd.Q_drew)); exact HO_148000.out⟩, ⟨by (with_reducible repeat first | apply bN | apply bD | apply bA); exact BK144.out⟩, ⟨by (with_reducible repeat first | apply bN | apply bD | apply bA); exact BK146.out⟩, ⟨by (with_reducible repeat first | apply bN | apply bD | apply bA); exact BK147.out⟩, ⟨by repeat (first | (with_reducible first | exact HB.out | apply pA | apply pN | apply pD | refine pS ?_ GE144.out | refine pS ?_ GE146.out | refine pS ?_ GE147.out | refine pS ?_ GE149.out) | exact HB.out)⟩⟩
       ·
        rw [if_neg c11] at H
        have c11b0 : (((rd_T23 l0 x20_1).f0) == 0) = false := beq_eq_false_iff_ne.mpr c11; have c11b1 : (((rd_T23 l0 x20_1).f0) != 0) = true := bne_iff_ne.mpr c11
        by_cases c19 : ((rd_T23 l0 x20_1).f1) < 0
        ·
         rw [if_pos c19] at H
         have c19b0 : decide (((rd_T23 l0 x20_1).f1) < 0) = true := decide_eq_true c19; clear c19
         by_cases c20 : x148000_1.length < 17592186044416
         ·
          rw [if_pos c20] at H
          have LMc20 := Aside0.mk c20; clear c20
          obtain ⟨y150, hy150⟩ : ∃ y_ : List Int, y_ = (x148000_1 ++ [(rd_T23 l0 x20_1).f1]) := ⟨_, rfl⟩
          replace H : (value_Sum.l0 k1 l0 (l0.length : Int) (wrap64 (x20_1 + 1)) x147000_1 y150) = some (r1, r2, r3, r4) := by first | (rw [hy150]; with_reducible exact H) | (have H2_ := (Option.bind_some _ _).symm.trans H; rw [hy150]; with_reducible exact H2_) | (have H2_ := (Option.bind_some _ _).symm.trans H; with_reducible exact H2_) | with_reducible exact H | (rw [hy150]; exact H) | exact H
          have Ny150 := Aside0.mk hy150; clear hy150
          have H' := Aside0.mk H
          clear H; have p148 : 0 ≤ (x20_1 : Int) := of_decide_eq_true (by first | (with_reducible assumption) | assumption); have q148 : x20_1 < (l0.length : Int) := of_decide_eq_true (by first | (with_reducible assumption) | assumption)
          obtain ⟨ad148, e148, hx148_0, hx148_1, hx148_2⟩ := at_T23 HR0.out x20_1 p148 q148
          cases e148
          replace hx148_0 := (HB.out.cell (World.block_lt_of_cell? w _ hx148_0)).trans hx148_0; replace hx148_1 := (HB.out.cell (World.block_lt_of_cell? w _ hx148_1)).trans hx148_1; replace hx148_2 := (HB.out.cell (World.block_lt_of_cell? w _ hx148_2)).trans hx148_2; replace p148 := eq_true p148; replace q148 := eq_true q148
          go_wp2_with (first | ((with_reducible refine gate_dst (N := 8) rfl ?_); (try (refine gate_guard (by rfl) ?_; dsimp only)); refine box_event ?hg (N := 8) ?hd (cs := #[.int .i64 0, .int .i64 0, .string (⟨#[]⟩ : ByteArray)]) (t := 23) ?hr ?_; (case hd => rfl); (case hg => rfl); (case hr => first | (go_simp; done) | (go_simp; rfl)); intro gb149 hg w21 hbox hb; have BK149 := Aside0.mk (hbox); have GW149 := bz hg; have GE149 := bz hg; have NB144_149 := bl BK144 hg; have NB149_144 := bg BK144 hg; have NB146_149 := bl BK146 hg; have NB149_146 := bg BK146 hg; have NB147_149 := bl BK147 hg; have NB149_147 := bg BK147 hg; replace HO_147000 := Aside0.mk (Kd.Q_below (by (with_reducible repeat (first | apply Kd.Q_alloc | apply Kd.Q_drewN | apply Kd.Q_drew)); exact HO_147000.out) hb); replace HO_148000 := Aside0.mk (Kd.Q_below (by (with_reducible repeat (first | apply Kd.Q_alloc | apply Kd.Q_drewN | apply Kd.Q_drew)); exact HO_148000.out) hb); replace BK144 := bb BK144 hb; replace BK146 := bb BK146 hb; replace BK147 := bb BK147 hb; replace HB := bs hb; clear hb hbox hg; have hnb22 := NB149_144.out; have hnc22 := NB144_149.out; have hnb23 := NB149_146.out; have hnc23 := NB146_149.out; have hnb24 := NB149_147.out; have hnc24 := NB147_149.out; have hcz25_0 : w21.cell? ⟨gb149, 0, none⟩ = some (.int .i64 0) := (blk_cell BK149.out 0).trans rfl; have hcz25_1 : w21.cell? ⟨gb149, 1, none⟩ = some (.int .i64 0) := (blk_cell BK149.out 1).trans rfl; have hcz25_2 : w21.cell? ⟨gb149, 2, none⟩ = some (.string (⟨#[]⟩ : ByteArray)) := (blk_cell BK149.out 2).trans rfl; have hfz25_0 := blk_frozen BK149.out 0; have hfz25_1 := blk_frozen BK149.out 1; have hfz25_2 := blk_frozen BK149.out 2) | ((with_reducible refine gate_store (t := 23) (p := 8) rfl ?_); refine store_event (t := 23) (p := 8) (v := ?vo_w26) (w1 := (((w21.setCell ⟨gb149, 0, none⟩ (.int .i64 ((rd_T23 l0 x20_1).f0))).setCell ⟨gb149, 1, none⟩ (.int .i64 ((rd_T23 l0 x20_1).f1))).setCell ⟨gb149, 2, none⟩ (.string ((rd_T23 l0 x20_1).f2)))) ?hg ?ho ?hn ?hr ?_; (case ho => rfl); (case hg => rfl); (case hn => rfl); (case hr => first | (go_simp; done) | (go_simp; rfl)); intro w26 hw; replace HO_147000 : Aside0 (Kd.Q (Kd.int .i64) 3 w26 w.heap.size (fun k_ => some k_ ≠ (u148000 : Value).ownBlock) u147000 x147000_1) := ⟨(by rw [hw]; exact (by (with_reducible repeat (first | apply Kd.Q_alloc | apply Kd.Q_drewN | apply Kd.Q_drew)); exact Kd.Q_mono (Kd.Q_far (p := ⟨gb149, 2, none⟩) (Kd.Q_far (p := ⟨gb149, 1, none⟩) (Kd.Q_far (p := ⟨gb149, 0, none⟩) (Kd.Q_types HO_147000.out BK149.out (by decide)) (fun _ hk => hk.2) (.int .i64 ((rd_T23 l0 x20_1).f0))) (fun _ hk => hk.2) (.int .i64 ((rd_T23 l0 x20_1).f1))) (fun _ hk => hk.2) (.string ((rd_T23 l0 x20_1).f2))) (fun _ hk => hk.1)))⟩; replace HO_148000 : Aside0 (Kd.Q (Kd.int .i64) 3 w26 w.heap.size (fun k_ => some k_ ≠ (u147000 : Value).ownBlock) u148000 x148000_1) := ⟨(by rw [hw]; exact (by (with_reducible repeat (first | apply Kd.Q_alloc | apply Kd.Q_drewN | apply Kd.Q_drew)); exact Kd.Q_mono (Kd.Q_far (p := ⟨gb149, 2, none⟩) (Kd.Q_far (p := ⟨gb149, 1, none⟩) (Kd.Q_far (p := ⟨gb149, 0, none⟩) (Kd.Q_types HO_148000.out BK149.out (by decide)) (fun _ hk => hk.2) (.int .i64 ((rd_T23 l0 x20_1).f0))) (fun _ hk => hk.2) (.int .i64 ((rd_T23 l0 x20_1).f1))) (fun _ hk => hk.2) (.string ((rd_T23 l0 x20_1).f2))) (fun _ hk => hk.1)))⟩; replace BK144 := bw BK144 hw; replace BK146 := bw BK146 hw; replace BK147 := bw BK147 hw; replace BK149 : Aside0 (w26.heap[gb149]? = some (.cells #[.int .i64 ((rd_T23 l0 x20_1).f0), .int .i64 ((rd_T23 l0 x20_1).f1), .string ((rd_T23 l0 x20_1).f2)] 23 (0, 0))) := bp BK149 hw; replace HB := bv hw; clear hw; have hcz27_0 : w26.cell? ⟨gb149, 0, none⟩ = some (.int .i64 ((rd_T23 l0 x20_1).f0)) := (blk_cell BK149.out 0).trans rfl; have hcz27_1 : w26.cell? ⟨gb149, 1, none⟩ = some (.int .i64 ((rd_T23 l0 x20_1).f1)) := (blk_cell BK149.out 1).trans rfl; have hcz27_2 : w26.cell? ⟨gb149, 2, none⟩ = some (.string ((rd_T23 l0 x20_1).f2)) := (blk_cell BK149.out 2).trans rfl; have hfz27_0 := blk_frozen BK149.out 0; have hfz27_1 := blk_frozen BK149.out 1; have hfz27_2 := blk_frozen BK149.out 2; have hnb28 := NB147_144.out; have hnc28 := NB144_147.out; have hnb29 := NB147_146.out; have hnc29 := NB146_147.out; have hcz30_0 : w26.cell? ⟨gb147, 0, none⟩ = some (u148000) := (blk_cell BK147.out 0).trans rfl; have hfz30_0 := blk_frozen BK147.out 0) | ((with_reducible refine gate_builtin (b := .append) (xs := #[.tmp 37, .tmp 40]) rfl ?_); (try (refine gate_guard (by rfl) ?_; dsimp only)); at_builtin; refine Kd.Q_append (Kd.int .i64) (w0 := w) w.heap.size rfl (.tmp 37) (.tmp 40) 52 3 (.int .i64 0) 8 rfl Tryd.underlying52 info3 rfl (by decide) (by omega) u148000 x148000_1 ((rd_T23 l0 x20_1).f1) [.int .i64 ((rd_T23 l0 x20_1).f1)] (fun k_ => some k_ ≠ (u147000 : Value).ownBlock) (fun _ => False) rfl rfl ?aP (fun _ hk => hk.elim) ?aF ?aO ?aB ?aS ?aL ?_; (case aP => exact rfl); (case aB => exact bel); (case aF => exact (fun k_ hk => Kd.fresh' (Kd.Q_lt (by (with_reducible repeat (first | apply Kd.Q_alloc | apply Kd.Q_drewN | apply Kd.Q_drew)); exact HO_147000.out)) k_ hk)); (case aO => exact (by (with_reducible repeat (first | apply Kd.Q_alloc | apply Kd.Q_drewN | apply Kd.Q_drew)); exact HO_148000.out)); (case aS => exact (below_size bel)); (case aL => have := LMc20.out; omega); intro v151 w31 ho hb hg hat; rw [← Ny150.out] at ho; have n0_ := Aside0.mk (Kd.Q_after (ok := (fun _ => True)) (by (with_reducible repeat (first | apply Kd.Q_alloc | apply Kd.Q_drewN | apply Kd.Q_drew)); exact Kd.Q_mono HO_147000.out (fun _ hk => ⟨trivial, hk⟩)) hg hat); have n1_ := Aside0.mk (blk_grown (g := gb144) (o := .cells #[.int .i64 0, .int .i64 0, .string (⟨#[]⟩ : ByteArray)] 23 (0, 0)) (by (with_reducible repeat first | apply bN | apply bD | apply bA); exact BK144.out) hg (Kd.Q_ne HO_148000.out BK144.out (by decide))); have n2_ := Aside0.mk (blk_grown (g := gb146) (o := .cells #[u147000] 52 (0, 0)) (by (with_reducible repeat first | apply bN | apply bD | apply bA); exact BK146.out) hg (Kd.Q_ne HO_148000.out BK146.out (by decide))); have n3_ := Aside0.mk (blk_grown (g := gb147) (o := .cells #[u148000] 52 (0, 0)) (by (with_reducible repeat first | apply bN | apply bD | apply bA); exact BK147.out) hg (Kd.Q_ne HO_148000.out BK147.out (by decide))); have n4_ := Aside0.mk (blk_grown (g := gb149) (o := .cells #[.int .i64 ((rd_T23 l0 x20_1).f0), .int .i64 ((rd_T23 l0 x20_1).f1), .string ((rd_T23 l0 x20_1).f2)] 23 (0, 0)) (by (with_reducible repeat first | apply bN | apply bD | apply bA); exact BK149.out) hg (Kd.Q_ne HO_148000.out BK149.out (by decide))); have n5_ := Aside0.mk (hb); have n6_ := Aside0.mk (ho); clear HO_147000; clear BK144; clear BK146; clear BK147; clear BK149; clear HB; clear HO_148000; have HO_147000 := n0_; have BK144 := n1_; have BK146 := n2_; have BK147 := n3_; have BK149 := n4_; have HB := n5_; have HO152 := n6_; clear n0_ n1_ n2_ n3_ n4_ n5_ n6_; clear ho hb hg hat; obtain ⟨Ao32, co32, eo32, _⟩ := Kd.Q_slice HO152.out; subst eo32; have hcz33_0 : w31.cell? ⟨gb147, 0, none⟩ = some (u148000) := (blk_cell BK147.out 0).trans rfl; have hfz33_0 := blk_frozen BK147.out 0))
          go_roundg k1
          case measure => have := HK1.out; omega
          case rel => exact ⟨(wrap64 (x20_1 + 1)), (x147000_1), (y150), (u147000), (.slice Ao32 y150.length co32), (by first | rfl | (simp; done) | (simp [*]; done)), H', ⟨by have := HK1.out; omega⟩, ⟨by (with_reducible repeat (first | apply Kd.Q_alloc | apply Kd.Q_drewN | apply Kd.Q_drew)); exact Kd.Q_mono (Kd.Q_far (p := ⟨gb147, 0, none⟩) (Kd.Q_types HO_147000.out BK147.out (by decide)) (fun _ hk => hk.2) (.slice Ao32 y150.length co32)) (fun _ hk => hk.1.2)⟩, ⟨by (with_reducible repeat (first | apply Kd.Q_alloc | apply Kd.Q_drewN | apply Kd.Q_drew)); exact Kd.Q_mono (Kd.Q_far (p := ⟨gb147, 0, none⟩) (Kd.Q_types HO152.out BK147.out (by decide)) (fun _ hk => hk.2) (.slice Ao32 y150.length co32)) (fun _ hk => hk.1)⟩, ⟨by (with_reducible repeat first | apply bN | apply bD | apply bA); refine bF ?_ NB144_147.out _; (with_reducible repeat first | apply bN | apply bD | apply bA); exact BK144.out⟩, ⟨by (with_reducible repeat first | apply bN | apply bD | apply bA); refine bF ?_ NB146_147.out _; (with_reducible repeat first | apply bN | apply bD | apply bA); exact BK146.out⟩, ⟨by (with_reducible repeat first | apply bN | apply bD | apply bA); refine blk_put (cs := #[u148000]) ?_ 0 _ rfl; (with_reducible repeat first | apply bN | apply bD | apply bA); exact BK147.out⟩, ⟨by repeat (first | (with_reducible first | exact HB.out | apply pA | apply pN | apply pD | refine pS ?_ GE144.out | refine pS ?_ GE146.out | refine pS ?_ GE147.out | refine pS ?_ GE149.out) | exact HB.out)⟩⟩
         ·
          rw [if_neg c20] at H
          exact absurd H (by simp)
        ·
         rw [if_neg c19] at H
         have c19b0 : decide (((rd_T23 l0 x20_1).f1) < 0) = false := decide_eq_false c19; clear c19
         by_cases c34 : x147000_1.length < 17592186044416
         ·
          rw [if_pos c34] at H
          have LMc34 := Aside0.mk c34; clear c34
          obtain ⟨y153, hy153⟩ : ∃ y_ : List Int, y_ = (x147000_1 ++ [(rd_T23 l0 x20_1).f1]) := ⟨_, rfl⟩
          replace H : (value_Sum.l0 k1 l0 (l0.length : Int) (wrap64 (x20_1 + 1)) y153 x148000_1) = some (r1, r2, r3, r4) := by first | (rw [hy153]; with_reducible exact H) | (have H2_ := (Option.bind_some _ _).symm.trans H; rw [hy153]; with_reducible exact H2_) | (have H2_ := (Option.bind_some _ _).symm.trans H; with_reducible exact H2_) | with_reducible exact H | (rw [hy153]; exact H) | exact H
          have Ny153 := Aside0.mk hy153; clear hy153
          have H' := Aside0.mk H
          clear H; have p148 : 0 ≤ (x20_1 : Int) := of_decide_eq_true (by first | (with_reducible assumption) | assumption); have q148 : x20_1 < (l0.length : Int) := of_decide_eq_true (by first | (with_reducible assumption) | assumption)
          obtain ⟨ad148, e148, hx148_0, hx148_1, hx148_2⟩ := at_T23 HR0.out x20_1 p148 q148
          cases e148
          replace hx148_0 := (HB.out.cell (World.block_lt_of_cell? w _ hx148_0)).trans hx148_0; replace hx148_1 := (HB.out.cell (World.block_lt_of_cell? w _ hx148_1)).trans hx148_1; replace hx148_2 := (HB.out.cell (World.block_lt_of_cell? w _ hx148_2)).trans hx148_2; replace p148 := eq_true p148; replace q148 := eq_true q148
          go_wp2_with (first | ((with_reducible refine gate_dst (N := 8) rfl ?_); (try (refine gate_guard (by rfl) ?_; dsimp only)); refine box_event ?hg (N := 8) ?hd (cs := #[.int .i64 0, .int .i64 0, .string (⟨#[]⟩ : ByteArray)]) (t := 23) ?hr ?_; (case hd => rfl); (case hg => rfl); (case hr => first | (go_simp; done) | (go_simp; rfl)); intro gb149 hg w35 hbox hb; have BK149 := Aside0.mk (hbox); have GW149 := bz hg; have GE149 := bz hg; have NB144_149 := bl BK144 hg; have NB149_144 := bg BK144 hg; have NB146_149 := bl BK146 hg; have NB149_146 := bg BK146 hg; have NB147_149 := bl BK147 hg; have NB149_147 := bg BK147 hg; replace HO_147000 := Aside0.mk (Kd.Q_below (by (with_reducible repeat (first | apply Kd.Q_alloc | apply Kd.Q_drewN | apply Kd.Q_drew)); exact HO_147000.out) hb); replace HO_148000 := Aside0.mk (Kd.Q_below (by (with_reducible repeat (first | apply Kd.Q_alloc | apply Kd.Q_drewN | apply Kd.Q_drew)); exact HO_148000.out) hb); replace BK144 := bb BK144 hb; replace BK146 := bb BK146 hb; replace BK147 := bb BK147 hb; replace HB := bs hb; clear hb hbox hg; have hnb36 := NB149_144.out; have hnc36 := NB144_149.out; have hnb37 := NB149_146.out; have hnc37 := NB146_149.out; have hnb38 := NB149_147.out; have hnc38 := NB147_149.out; have hcz39_0 : w35.cell? ⟨gb149, 0, none⟩ = some (.int .i64 0) := (blk_cell BK149.out 0).trans rfl; have hcz39_1 : w35.cell? ⟨gb149, 1, none⟩ = some (.int .i64 0) := (blk_cell BK149.out 1).trans rfl; have hcz39_2 : w35.cell? ⟨gb149, 2, none⟩ = some (.string (⟨#[]⟩ : ByteArray)) := (blk_cell BK149.out 2).trans rfl; have hfz39_0 := blk_frozen BK149.out 0; have hfz39_1 := blk_frozen BK149.out 1; have hfz39_2 := blk_frozen BK149.out 2) | ((with_reducible refine gate_store (t := 23) (p := 8) rfl ?_); refine store_event (t := 23) (p := 8) (v := ?vo_w40) (w1 := (((w35.setCell ⟨gb149, 0, none⟩ (.int .i64 ((rd_T23 l0 x20_1).f0))).setCell ⟨gb149, 1, none⟩ (.int .i64 ((rd_T23 l0 x20_1).f1))).setCell ⟨gb149, 2, none⟩ (.string ((rd_T23 l0 x20_1).f2)))) ?hg ?ho ?hn ?hr ?_; (case ho => rfl); (case hg => rfl); (case hn => rfl); (case hr => first | (go_simp; done) | (go_simp; rfl)); intro w40 hw; replace HO_147000 : Aside0 (Kd.Q (Kd.int .i64) 3 w40 w.heap.size (fun k_ => some k_ ≠ (u148000 : Value).ownBlock) u147000 x147000_1) := ⟨(by rw [hw]; exact (by (with_reducible repeat (first | apply Kd.Q_alloc | apply Kd.Q_drewN | apply Kd.Q_drew)); exact Kd.Q_mono (Kd.Q_far (p := ⟨gb149, 2, none⟩) (Kd.Q_far (p := ⟨gb149, 1, none⟩) (Kd.Q_far (p := ⟨gb149, 0, none⟩) (Kd.Q_types HO_147000.out BK149.out (by decide)) (fun _ hk => hk.2) (.int .i64 ((rd_T23 l0 x20_1).f0))) (fun _ hk => hk.2) (.int .i64 ((rd_T23 l0 x20_1).f1))) (fun _ hk => hk.2) (.string ((rd_T23 l0 x20_1).f2))) (fun _ hk => hk.1)))⟩; replace HO_148000 : Aside0 (Kd.Q (Kd.int .i64) 3 w40 w.heap.size (fun k_ => some k_ ≠ (u147000 : Value).ownBlock) u148000 x148000_1) := ⟨(by rw [hw]; exact (by (with_reducible repeat (first | apply Kd.Q_alloc | apply Kd.Q_drewN | apply Kd.Q_drew)); exact Kd.Q_mono (Kd.Q_far (p := ⟨gb149, 2, none⟩) (Kd.Q_far (p := ⟨gb149, 1, none⟩) (Kd.Q_far (p := ⟨gb149, 0, none⟩) (Kd.Q_types HO_148000.out BK149.out (by decide)) (fun _ hk => hk.2) (.int .i64 ((rd_T23 l0 x20_1).f0))) (fun _ hk => hk.2) (.int .i64 ((rd_T23 l0 x20_1).f1))) (fun _ hk => hk.2) (.string ((rd_T23 l0 x20_1).f2))) (fun _ hk => hk.1)))⟩; replace BK144 := bw BK144 hw; replace BK146 := bw BK146 hw; replace BK147 := bw BK147 hw; replace BK149 : Aside0 (w40.heap[gb149]? = some (.cells #[.int .i64 ((rd_T23 l0 x20_1).f0), .int .i64 ((rd_T23 l0 x20_1).f1), .string ((rd_T23 l0 x20_1).f2)] 23 (0, 0))) := bp BK149 hw; replace HB := bv hw; clear hw; have hcz41_0 : w40.cell? ⟨gb149, 0, none⟩ = some (.int .i64 ((rd_T23 l0 x20_1).f0)) := (blk_cell BK149.out 0).trans rfl; have hcz41_1 : w40.cell? ⟨gb149, 1, none⟩ = some (.int .i64 ((rd_T23 l0 x20_1).f1)) := (blk_cell BK149.out 1).trans rfl; have hcz41_2 : w40.cell? ⟨gb149, 2, none⟩ = some (.string ((rd_T23 l0 x20_1).f2)) := (blk_cell BK149.out 2).trans rfl; have hfz41_0 := blk_frozen BK149.out 0; have hfz41_1 := blk_frozen BK149.out 1; have hfz41_2 := blk_frozen BK149.out 2; have hnb42 := NB146_144.out; have hnc42 := NB144_146.out; have hnb43 := NB146_147.out; have hnc43 := NB147_146.out; have hcz44_0 : w40.cell? ⟨gb146, 0, none⟩ = some (u147000) := (blk_cell BK146.out 0).trans rfl; have hfz44_0 := blk_frozen BK146.out 0) | ((with_reducible refine gate_builtin (b := .append) (xs := #[.tmp 24, .tmp 27]) rfl ?_); (try (refine gate_guard (by rfl) ?_; dsimp only)); at_builtin; refine Kd.Q_append (Kd.int .i64) (w0 := w) w.heap.size rfl (.tmp 24) (.tmp 27) 52 3 (.int .i64 0) 8 rfl Tryd.underlying52 info3 rfl (by decide) (by omega) u147000 x147000_1 ((rd_T23 l0 x20_1).f1) [.int .i64 ((rd_T23 l0 x20_1).f1)] (fun k_ => some k_ ≠ (u148000 : Value).ownBlock) (fun _ => False) rfl rfl ?aP (fun _ hk => hk.elim) ?aF ?aO ?aB ?aS ?aL ?_; (case aP => exact rfl); (case aB => exact bel); (case aF => exact (fun k_ hk => Kd.fresh' (Kd.Q_lt (by (with_reducible repeat (first | apply Kd.Q_alloc | apply Kd.Q_drewN | apply Kd.Q_drew)); exact HO_148000.out)) k_ hk)); (case aO => exact (by (with_reducible repeat (first | apply Kd.Q_alloc | apply Kd.Q_drewN | apply Kd.Q_drew)); exact HO_147000.out)); (case aS => exact (below_size bel)); (case aL => have := LMc34.out; omega); intro v154 w45 ho hb hg hat; rw [← Ny153.out] at ho; have n0_ := Aside0.mk (Kd.Q_after (ok := (fun _ => True)) (by (with_reducible repeat (first | apply Kd.Q_alloc | apply Kd.Q_drewN | apply Kd.Q_drew)); exact Kd.Q_mono HO_148000.out (fun _ hk => ⟨trivial, hk⟩)) hg hat); have n1_ := Aside0.mk (blk_grown (g := gb144) (o := .cells #[.int .i64 0, .int .i64 0, .string (⟨#[]⟩ : ByteArray)] 23 (0, 0)) (by (with_reducible repeat first | apply bN | apply bD | apply bA); exact BK144.out) hg (Kd.Q_ne HO_147000.out BK144.out (by decide))); have n2_ := Aside0.mk (blk_grown (g := gb146) (o := .cells #[u147000] 52 (0, 0)) (by (with_reducible repeat first | apply bN | apply bD | apply bA); exact BK146.out) hg (Kd.Q_ne HO_147000.out BK146.out (by decide))); have n3_ := Aside0.mk (blk_grown (g := gb147) (o := .cells #[u148000] 52 (0, 0)) (by (with_reducible repeat first | apply bN | apply bD | apply bA); exact BK147.out) hg (Kd.Q_ne HO_147000.out BK147.out (by decide))); have n4_ := Aside0.mk (blk_grown (g := gb149) (o := .cells #[.int .i64 ((rd_T23 l0 x20_1).f0), .int .i64 ((rd_T23 l0 x20_1).f1), .string ((rd_T23 l0 x20_1).f2)] 23 (0, 0)) (by (with_reducible repeat first | apply bN | apply bD | apply bA); exact BK149.out) hg (Kd.Q_ne HO_147000.out BK149.out (by decide))); have n5_ := Aside0.mk (hb); have n6_ := Aside0.mk (ho); clear HO_148000; clear BK144; clear BK146; clear BK147; clear BK149; clear HB; clear HO_147000; have HO_148000 := n0_; have BK144 := n1_; have BK146 := n2_; have BK147 := n3_; have BK149 := n4_; have HB := n5_; have HO155 := n6_; clear n0_ n1_ n2_ n3_ n4_ n5_ n6_; clear ho hb hg hat; obtain ⟨Ao46, co46, eo46, _⟩ := Kd.Q_slice HO155.out; subst eo46; have hcz47_0 : w45.cell? ⟨gb146, 0, none⟩ = some (u147000) := (blk_cell BK146.out 0).trans rfl; have hfz47_0 := blk_frozen BK146.out 0))
          go_roundg k1
          case measure => have := HK1.out; omega
          case rel => exact ⟨(wrap64 (x20_1 + 1)), (y153), (x148000_1), (.slice Ao46 y153.length co46), (u148000), (by first | rfl | (simp; done) | (simp [*]; done)), H', ⟨by have := HK1.out; omega⟩, ⟨by (with_reducible repeat (first | apply Kd.Q_alloc | apply Kd.Q_drewN | apply Kd.Q_drew)); exact Kd.Q_mono (Kd.Q_far (p := ⟨gb146, 0, none⟩) (Kd.Q_types HO155.out BK146.out (by decide)) (fun _ hk => hk.2) (.slice Ao46 y153.length co46)) (fun _ hk => hk.1)⟩, ⟨by (with_reducible repeat (first | apply Kd.Q_alloc | apply Kd.Q_drewN | apply Kd.Q_drew)); exact Kd.Q_mono (Kd.Q_far (p := ⟨gb146, 0, none⟩) (Kd.Q_types HO_148000.out BK146.out (by decide)) (fun _ hk => hk.2) (.slice Ao46 y153.length co46)) (fun _ hk => hk.1.2)⟩, ⟨by (with_reducible repeat first | apply bN | apply bD | apply bA); refine bF ?_ NB144_146.out _; (with_reducible repeat first | apply bN | apply bD | apply bA); exact BK144.out⟩, ⟨by (with_reducible repeat first | apply bN | apply bD | apply bA); refine blk_put (cs := #[u147000]) ?_ 0 _ rfl; (with_reducible repeat first | apply bN | apply bD | apply bA); exact BK146.out⟩, ⟨by (with_reducible repeat first | apply bN | apply bD | apply bA); refine bF ?_ NB147_146.out _; (with_reducible repeat first | apply bN | apply bD | apply bA); exact BK147.out⟩, ⟨by repeat (first | (with_reducible first | exact HB.out | apply pA | apply pN | apply pD | refine pS ?_ GE144.out | refine pS ?_ GE146.out | refine pS ?_ GE147.out | refine pS ?_ GE149.out) | exact HB.out)⟩⟩
         ·
          rw [if_neg c34] at H
          exact absurd H (by simp)
      ·
       rw [if_neg c10] at H
       exact absurd H (by simp)
     ·
      rw [if_neg c9] at H
      exact absurd H (by simp)
    ·
     rw [if_neg c8] at H
     have c8b0 : decide (x20_1 < (l0.length : Int)) = false := decide_eq_false c8; clear c8
     by_cases c48 : (wrap64 ((x147000_1.length : Int) + (x148000_1.length : Int))) = 0
     ·
      rw [if_pos c48] at H
      have c48b0 : ((wrap64 ((x147000_1.length : Int) + (x148000_1.length : Int))) == 0) = true := beq_iff_eq.mpr c48; have c48b1 : ((wrap64 ((x147000_1.length : Int) + (x148000_1.length : Int))) != 0) = false := bne_eq_false_iff_eq.mpr c48; clear c48
      simp only [Option.some.injEq, Prod.mk.injEq] at H
      obtain ⟨rfl, rfl, rfl, rfl⟩ := H
      have hnb49 := NB146_144.out; have hnc49 := NB144_146.out; have hnb50 := NB146_147.out; have hnc50 := NB147_146.out; have hcz51_0 : wr.cell? ⟨gb146, 0, none⟩ = some (u147000) := (blk_cell BK146.out 0).trans rfl; have hfz51_0 := blk_frozen BK146.out 0
      obtain ⟨Ao52, co52, eo52, _⟩ := Kd.Q_slice HO_147000.out
      subst eo52
      have hnb53 := NB147_144.out; have hnc53 := NB144_147.out; have hcz54_0 : wr.cell? ⟨gb147, 0, none⟩ = some (u148000) := (blk_cell BK147.out 0).trans rfl; have hfz54_0 := blk_frozen BK147.out 0
      obtain ⟨Ao55, co55, eo55, _⟩ := Kd.Q_slice HO_148000.out
      subst eo55
      have hcz56_0 : wr.cell? ⟨gb144, 0, none⟩ = some (.int .i64 0) := (blk_cell BK144.out 0).trans rfl; have hcz56_1 : wr.cell? ⟨gb144, 1, none⟩ = some (.int .i64 0) := (blk_cell BK144.out 1).trans rfl; have hcz56_2 : wr.cell? ⟨gb144, 2, none⟩ = some (.string (⟨#[]⟩ : ByteArray)) := (blk_cell BK144.out 2).trans rfl; have hfz56_0 := blk_frozen BK144.out 0; have hfz56_1 := blk_frozen BK144.out 1; have hfz56_2 := blk_frozen BK144.out 2
      go_wp2_with (first | ((with_reducible refine gate_store (t := 23) (p := 2) rfl ?_); refine store_event (t := 23) (p := 2) (v := ?vo_w57) (w1 := (((wr.setCell ⟨gb144, 0, none⟩ (.int .i64 0)).setCell ⟨gb144, 1, none⟩ (.int .i64 0)).setCell ⟨gb144, 2, none⟩ (.string (⟨#[]⟩ : ByteArray)))) ?hg ?ho ?hn ?hr ?_; (case ho => rfl); (case hg => rfl); (case hn => rfl); (case hr => first | (go_simp; done) | (go_simp; rfl)); intro w57 hw; replace HO_147000 : Aside0 (Kd.Q (Kd.int .i64) 3 w57 w.heap.size (fun k_ => some k_ ≠ (.slice Ao55 x148000_1.length co55 : Value).ownBlock) (.slice Ao52 x147000_1.length co52) x147000_1) := ⟨(by rw [hw]; exact (by (with_reducible repeat (first | apply Kd.Q_alloc | apply Kd.Q_drewN | apply Kd.Q_drew)); exact Kd.Q_mono (Kd.Q_far (p := ⟨gb144, 2, none⟩) (Kd.Q_far (p := ⟨gb144, 1, none⟩) (Kd.Q_far (p := ⟨gb144, 0, none⟩) (Kd.Q_types HO_147000.out BK144.out (by decide)) (fun _ hk => hk.2) (.int .i64 0)) (fun _ hk => hk.2) (.int .i64 0)) (fun _ hk => hk.2) (.string (⟨#[]⟩ : ByteArray))) (fun _ hk => hk.1)))⟩; replace HO_148000 : Aside0 (Kd.Q (Kd.int .i64) 3 w57 w.heap.size (fun k_ => some k_ ≠ (.slice Ao52 x147000_1.length co52 : Value).ownBlock) (.slice Ao55 x148000_1.length co55) x148000_1) := ⟨(by rw [hw]; exact (by (with_reducible repeat (first | apply Kd.Q_alloc | apply Kd.Q_drewN | apply Kd.Q_drew)); exact Kd.Q_mono (Kd.Q_far (p := ⟨gb144, 2, none⟩) (Kd.Q_far (p := ⟨gb144, 1, none⟩) (Kd.Q_far (p := ⟨gb144, 0, none⟩) (Kd.Q_types HO_148000.out BK144.out (by decide)) (fun _ hk => hk.2) (.int .i64 0)) (fun _ hk => hk.2) (.int .i64 0)) (fun _ hk => hk.2) (.string (⟨#[]⟩ : ByteArray))) (fun _ hk => hk.1)))⟩; replace BK144 : Aside0 (w57.heap[gb144]? = some (.cells #[.int .i64 0, .int .i64 0, .string (⟨#[]⟩ : ByteArray)] 23 (0, 0))) := bp BK144 hw; replace BK146 := bw BK146 hw; replace BK147 := bw BK147 hw; replace HB := bv hw; clear hw))
      refine bodyPost_ret (results_ct rfl _ _ gb144 23 #[.int .i64 0, .int .i64 0, .string (⟨#[]⟩ : ByteArray)] (0, 0) _ rfl (by (with_reducible repeat first | apply bN | apply bD | apply bA); exact BK144.out) Tryd.underlying23 rfl (by kernel_rfl)) rfl ?_
      exact ⟨by first | (simp only [ByteArray.size_extract, Nat.min_self]; rfl) | rfl | (simp [errW_none, errW_some] <;> rfl) | (simp [*, errW_none, errW_some] <;> rfl), by repeat (first | (with_reducible first | exact HB.out | apply pA | apply pN | apply pD | refine pS ?_ GE144.out | refine pS ?_ GE146.out | refine pS ?_ GE147.out) | exact HB.out)⟩
     ·
      rw [if_neg c48] at H
      have c48b0 : ((wrap64 ((x147000_1.length : Int) + (x148000_1.length : Int))) == 0) = false := beq_eq_false_iff_ne.mpr c48; have c48b1 : ((wrap64 ((x147000_1.length : Int) + (x148000_1.length : Int))) != 0) = true := bne_iff_ne.mpr c48
      have H' := Aside0.mk H
      clear H; have hnb58 := NB146_144.out; have hnc58 := NB144_146.out; have hnb59 := NB146_147.out; have hnc59 := NB147_146.out; have hcz60_0 : wr.cell? ⟨gb146, 0, none⟩ = some (u147000) := (blk_cell BK146.out 0).trans rfl; have hfz60_0 := blk_frozen BK146.out 0
      obtain ⟨Ao61, co61, eo61, _⟩ := Kd.Q_slice HO_147000.out
      subst eo61
      have hnb62 := NB147_144.out; have hnc62 := NB144_147.out; have hcz63_0 : wr.cell? ⟨gb147, 0, none⟩ = some (u148000) := (blk_cell BK147.out 0).trans rfl; have hfz63_0 := blk_frozen BK147.out 0
      obtain ⟨Ao64, co64, eo64, _⟩ := Kd.Q_slice HO_148000.out
      subst eo64
      go_wp2
      go_loopg [9] k1 (fun kq v9 w' => ∃ (x9_2 : Int) (x145000_2 : Int) (x145001_2 : Int) (x145002_2 : ByteArray) (x147000_2 : List Int) (x148000_2 : List Int) (u147000 : Value) (u148000 : Value), v9 = .int .i64 x9_2 ∧ Aside0 (value_Sum.l1 kq x9_2 x147000_2 x148000_2 = some (r1, r2, r3, r4)) ∧ Aside0 (kq ≤ k1) ∧ Aside0 (Kd.Q (Kd.int .i64) 3 w' w.heap.size (fun k_ => some k_ ≠ (u148000 : Value).ownBlock) u147000 x147000_2) ∧ Aside0 (Kd.Q (Kd.int .i64) 3 w' w.heap.size (fun k_ => some k_ ≠ (u147000 : Value).ownBlock) u148000 x148000_2) ∧ Aside0 (w'.heap[gb144]? = some (.cells #[.int .i64 x145000_2, .int .i64 x145001_2, .string x145002_2] 23 (0, 0))) ∧ Aside0 (w'.heap[gb146]? = some (.cells #[u147000] 52 (0, 0))) ∧ Aside0 (w'.heap[gb147]? = some (.cells #[u148000] 52 (0, 0))) ∧ Aside0 (Below w.heap.size w w'))
      case atStart => exact ⟨(0), (0), (0), ((⟨#[]⟩ : ByteArray)), (x147000_1), (x148000_1), (.slice Ao61 x147000_1.length co61), (.slice Ao64 x148000_1.length co64), (by first | rfl | (simp; done) | (simp [*]; done)), H', ⟨Nat.le_refl _⟩, ⟨by (with_reducible repeat (first | apply Kd.Q_alloc | apply Kd.Q_drewN | apply Kd.Q_drew)); exact HO_147000.out⟩, ⟨by (with_reducible repeat (first | apply Kd.Q_alloc | apply Kd.Q_drewN | apply Kd.Q_drew)); exact HO_148000.out⟩, ⟨by (with_reducible repeat first | apply bN | apply bD | apply bA); exact BK144.out⟩, ⟨by (with_reducible repeat first | apply bN | apply bD | apply bA); exact BK146.out⟩, ⟨by (with_reducible repeat first | apply bN | apply bD | apply bA); exact BK147.out⟩, ⟨by repeat (first | (with_reducible first | exact HB.out | apply pA | apply pN | apply pD | refine pS ?_ GE144.out | refine pS ?_ GE146.out | refine pS ?_ GE147.out) | exact HB.out)⟩⟩
      case round =>
       clear H'
       (try clear c1); (try clear p1); (try clear q1); (try clear hx1); (try clear c2); (try clear p2); (try clear c3); (try clear c3b0); (try clear c3b1); (try clear c4); (try clear c5); (try clear c6); (try clear p6); (try clear c8); (try clear c8b0); (try clear c9); (try clear c9b0); (try clear c10); (try clear c10b0); (try clear c11); (try clear c11b0); (try clear c11b1); (try clear c13); (try clear c14); (try clear p14); (try clear q14); (try clear hx14); (try clear c15); (try clear c19); (try clear c19b0); (try clear c20); (try clear c22); (try clear c23); (try clear c24); (try clear c28); (try clear c29); (try clear c34); (try clear c36); (try clear c37); (try clear c38); (try clear c42); (try clear c43); (try clear c44); (try clear c48); (try clear c48b0); (try clear c48b1); (try clear c49); (try clear c50); (try clear c53); (try clear c58); (try clear c59); (try clear c62); (try clear p64); (try clear hcz16_0); (try clear hcz16_1); (try clear hcz16_2); (try clear hcz18_0); (try clear hcz18_1); (try clear hcz18_2); (try clear hcz25_0); (try clear hcz25_1); (try clear hcz25_2); (try clear hcz27_0); (try clear hcz27_1); (try clear hcz27_2); (try clear hcz30_0); (try clear hcz33_0); (try clear hcz39_0); (try clear hcz39_1); (try clear hcz39_2); (try clear hcz41_0); (try clear hcz41_1); (try clear hcz41_2); (try clear hcz44_0); (try clear hcz47_0); (try clear hcz51_0); (try clear hcz54_0); (try clear hcz56_0); (try clear hcz56_1); (try clear hcz56_2); (try clear hcz60_0); (try clear hcz63_0); (try clear hfz16_0); (try clear hfz16_1); (try clear hfz16_2); (try clear hfz18_0); (try clear hfz18_1); (try clear hfz18_2); (try clear hfz25_0); (try clear hfz25_1); (try clear hfz25_2); (try clear hfz27_0); (try clear hfz27_1); (try clear hfz27_2); (try clear hfz30_0); (try clear hfz33_0); (try clear hfz39_0); (try clear hfz39_1); (try clear hfz39_2); (try clear hfz41_0); (try clear hfz41_1); (try clear hfz41_2); (try clear hfz44_0); (try clear hfz47_0); (try clear hfz51_0); (try clear hfz54_0); (try clear hfz56_0); (try clear hfz56_1); (try clear hfz56_2); (try clear hfz60_0); (try clear hfz63_0); (try clear hx148_0); (try clear hx148_1); (try clear hx148_2); (try clear p148); (try clear p2); (try clear q148)
       obtain ⟨x9_2, x145000_2, x145001_2, x145002_2, x147000_2, x148000_2, u147000, u148000, rfl, HA, HK2, HO_147000, HO_148000, BK144, BK146, BK147, HB⟩ := hrel
       cases gk with
       | zero => exact absurd HA.out (by simp [value_Sum.l1])
       | succ k2 =>
        have H := HA.out; clear HA
        simp only [value_Sum.l1] at H
        by_cases c65 : (wrap64 ((x147000_2.length : Int) + (x148000_2.length : Int))) > 0
        ·
         rw [if_pos c65] at H
         have c65b0 : decide (0 < (wrap64 ((x147000_2.length : Int) + (x148000_2.length : Int)))) = true := decide_eq_true c65; clear c65; have HC66 := Aside0.mk H; clear H; have hnb67 := NB146_144.out; have hnc67 := NB144_146.out; have hnb68 := NB146_147.out; have hnc68 := NB147_146.out; have hcz69_0 : wr.cell? ⟨gb146, 0, none⟩ = some (u147000) := (blk_cell BK146.out 0).trans rfl; have hfz69_0 := blk_frozen BK146.out 0
         obtain ⟨Ao70, co70, eo70, _⟩ := Kd.Q_slice HO_147000.out
         subst eo70
         have hnb71 := NB147_144.out; have hnc71 := NB144_147.out; have hcz72_0 : wr.cell? ⟨gb147, 0, none⟩ = some (u148000) := (blk_cell BK147.out 0).trans rfl; have hfz72_0 := blk_frozen BK147.out 0
         obtain ⟨Ao73, co73, eo73, _⟩ := Kd.Q_slice HO_148000.out
         subst eo73
         go_upto_region 18 with (fail)
         go_cut [67] (fun v67 wc => ∃ (kq : Nat) (x67_65 : Bool), v67 = .bool x67_65 ∧ Aside0 (value_Sum.j2 kq x9_2 x67_65 x147000_2 x148000_2 = some (r1, r2, r3, r4)) ∧ Aside0 (kq ≤ k2) ∧ Aside0 (Kd.Q (Kd.int .i64) 3 wc w.heap.size (fun k_ => some k_ ≠ ((.slice Ao73 x148000_2.length co73) : Value).ownBlock) (.slice Ao70 x147000_2.length co70) x147000_2) ∧ Aside0 (Kd.Q (Kd.int .i64) 3 wc w.heap.size (fun k_ => some k_ ≠ ((.slice Ao70 x147000_2.length co70) : Value).ownBlock) (.slice Ao73 x148000_2.length co73) x148000_2) ∧ Aside0 (wc.heap[gb144]? = some (.cells #[.int .i64 x145000_2, .int .i64 x145001_2, .string x145002_2] 23 (0, 0))) ∧ Aside0 (wc.heap[gb146]? = some (.cells #[(.slice Ao70 x147000_2.length co70)] 52 (0, 0))) ∧ Aside0 (wc.heap[gb147]? = some (.cells #[(.slice Ao73 x148000_2.length co73)] 52 (0, 0))) ∧ Aside0 (Below w.heap.size w wc))
         case first =>
          have H := HC66.out; clear HC66
          by_cases c74 : (x147000_2.length : Int) = 0
          ·
           rw [if_pos c74] at H
           have c74b0 : ((x147000_2.length : Int) == 0) = true := beq_iff_eq.mpr c74; have c74b1 : ((x147000_2.length : Int) != 0) = false := bne_eq_false_iff_eq.mpr c74; clear c74
           (first | rw [c74b0] | (simp only [i64_w, i32_w, u8_w, u32_w]; rw [c74b0]) | rw [c74b1] | skip)
           have H' := Aside0.mk H
           clear H; have hnb75 := NB146_144.out; have hnc75 := NB144_146.out; have hnb76 := NB146_147.out; have hnc76 := NB147_146.out; have hcz77_0 : wr.cell? ⟨gb146, 0, none⟩ = some (.slice Ao70 x147000_2.length co70) := (blk_cell BK146.out 0).trans rfl; have hfz77_0 := blk_frozen BK146.out 0
           go_wp2
           go_meet
           case rel => exact ⟨_, (true), (by first | rfl | (simp; done) | (simp [*]; done)), H', ⟨by have := HK1.out; have := HK2.out; first | omega | exact Nat.le_refl _⟩, ⟨by (with_reducible repeat (first | apply Kd.Q_alloc | apply Kd.Q_drewN | apply Kd.Q_drew)); exact HO_147000.out⟩, ⟨by (with_reducible repeat (first | apply Kd.Q_alloc | apply Kd.Q_drewN | apply Kd.Q_drew)); exact HO_148000.out⟩, ⟨by (with_reducible repeat first | apply bN | apply bD | apply bA); exact BK144.out⟩, ⟨by (with_reducible repeat first | apply bN | apply bD | apply bA); exact BK146.out⟩, ⟨by (with_reducible repeat first | apply bN | apply bD | apply bA); exact BK147.out⟩, ⟨by repeat (first | (with_reducible first | exact HB.out | apply pA | apply pN | apply pD | refine pS ?_ GE144.out | refine pS ?_ GE146.out | refine pS ?_ GE147.out) | exact HB.out)⟩⟩
          ·
           rw [if_neg c74] at H
           have c74b0 : ((x147000_2.length : Int) == 0) = false := beq_eq_false_iff_ne.mpr c74; have c74b1 : ((x147000_2.length : Int) != 0) = true := bne_iff_ne.mpr c74
           have c74b2 : ¬ (x147000_2 = []) := fun h_ => c74 (by rw [h_]; rfl)
           (first | rw [c74b0] | (simp only [i64_w, i32_w, u8_w, u32_w]; rw [c74b0]) | rw [c74b1] | skip)
           by_cases c78 : x9_2 > 0
           ·
            rw [if_pos c78] at H
            have c78b0 : decide (0 < x9_2) = true := decide_eq_true c78; clear c78
            have H' := Aside0.mk H
            clear H; have hnb79 := NB146_144.out; have hnc79 := NB144_146.out; have hnb80 := NB146_147.out; have hnc80 := NB147_146.out; have hcz81_0 : wr.cell? ⟨gb146, 0, none⟩ = some (.slice Ao70 x147000_2.length co70) := (blk_cell BK146.out 0).trans rfl; have hfz81_0 := blk_frozen BK146.out 0; have hnb82 := NB147_144.out; have hnc82 := NB144_147.out; have hcz83_0 : wr.cell? ⟨gb147, 0, none⟩ = some (.slice Ao73 x148000_2.length co73) := (blk_cell BK147.out 0).trans rfl; have hfz83_0 := blk_frozen BK147.out 0
            go_wp2
            go_meet
            case rel => exact ⟨_, (decide ((x148000_2.length : Int) > 0)), (by first | rfl | (simp; done) | (simp [*]; done)), H', ⟨by have := HK1.out; have := HK2.out; first | omega | exact Nat.le_refl _⟩, ⟨by (with_reducible repeat (first | apply Kd.Q_alloc | apply Kd.Q_drewN | apply Kd.Q_drew)); exact HO_147000.out⟩, ⟨by (with_reducible repeat (first | apply Kd.Q_alloc | apply Kd.Q_drewN | apply Kd.Q_drew)); exact HO_148000.out⟩, ⟨by (with_reducible repeat first | apply bN | apply bD | apply bA); exact BK144.out⟩, ⟨by (with_reducible repeat first | apply bN | apply bD | apply bA); exact BK146.out⟩, ⟨by (with_reducible repeat first | apply bN | apply bD | apply bA); exact BK147.out⟩, ⟨by repeat (first | (with_reducible first | exact HB.out | apply pA | apply pN | apply pD | refine pS ?_ GE144.out | refine pS ?_ GE146.out | refine pS ?_ GE147.out) | exact HB.out)⟩⟩
           ·
            rw [if_neg c78] at H
            have c78b0 : decide (0 < x9_2) = false := decide_eq_false c78; clear c78
            have H' := Aside0.mk H
            clear H; have hnb84 := NB146_144.out; have hnc84 := NB144_146.out; have hnb85 := NB146_147.out; have hnc85 := NB147_146.out; have hcz86_0 : wr.cell? ⟨gb146, 0, none⟩ = some (.slice Ao70 x147000_2.length co70) := (blk_cell BK146.out 0).trans rfl; have hfz86_0 := blk_frozen BK146.out 0
            go_wp2
            go_meet
            case rel => exact ⟨_, (false), (by first | rfl | (simp; done) | (simp [*]; done)), H', ⟨by have := HK1.out; have := HK2.out; first | omega | exact Nat.le_refl _⟩, ⟨by (with_reducible repeat (first | apply Kd.Q_alloc | apply Kd.Q_drewN | apply Kd.Q_drew)); exact HO_147000.out⟩, ⟨by (with_reducible repeat (first | apply Kd.Q_alloc | apply Kd.Q_drewN | apply Kd.Q_drew)); exact HO_148000.out⟩, ⟨by (with_reducible repeat first | apply bN | apply bD | apply bA); exact BK144.out⟩, ⟨by (with_reducible repeat first | apply bN | apply bD | apply bA); exact BK146.out⟩, ⟨by (with_reducible repeat first | apply bN | apply bD | apply bA); exact BK147.out⟩, ⟨by repeat (first | (with_reducible first | exact HB.out | apply pA | apply pN | apply pD | refine pS ?_ GE144.out | refine pS ?_ GE146.out | refine pS ?_ GE147.out) | exact HB.out)⟩⟩
         case rest =>
          clear HC66; (try clear c1); (try clear p1); (try clear q1); (try clear hx1); (try clear c2); (try clear p2); (try clear c3); (try clear c3b0); (try clear c3b1); (try clear c4); (try clear c5); (try clear c6); (try clear p6); (try clear c7); (try clear c8); (try clear c8b0); (try clear c9); (try clear c9b0); (try clear c10); (try clear c10b0); (try clear c11); (try clear c11b0); (try clear c11b1); (try clear c13); (try clear c14); (try clear p14); (try clear q14); (try clear hx14); (try clear c15); (try clear c19); (try clear c19b0); (try clear c20); (try clear c22); (try clear c23); (try clear c24); (try clear c28); (try clear c29); (try clear c34); (try clear c36); (try clear c37); (try clear c38); (try clear c42); (try clear c43); (try clear c44); (try clear c48); (try clear c48b0); (try clear c48b1); (try clear c49); (try clear c50); (try clear c53); (try clear c58); (try clear c59); (try clear c62); (try clear p64); (try clear c65); (try clear c65b0); (try clear c67); (try clear c68); (try clear c71); (try clear c74); (try clear c74b0); (try clear c74b1); (try clear c74b2); (try clear c75); (try clear c76); (try clear c78); (try clear c78b0); (try clear c79); (try clear c80); (try clear c82); (try clear c84); (try clear c85); (try clear hcz16_0); (try clear hcz16_1); (try clear hcz16_2); (try clear hcz18_0); (try clear hcz18_1); (try clear hcz18_2); (try clear hcz25_0); (try clear hcz25_1); (try clear hcz25_2); (try clear hcz27_0); (try clear hcz27_1); (try clear hcz27_2); (try clear hcz30_0); (try clear hcz33_0); (try clear hcz39_0); (try clear hcz39_1); (try clear hcz39_2); (try clear hcz41_0); (try clear hcz41_1); (try clear hcz41_2); (try clear hcz44_0); (try clear hcz47_0); (try clear hcz51_0); (try clear hcz54_0); (try clear hcz56_0); (try clear hcz56_1); (try clear hcz56_2); (try clear hcz60_0); (try clear hcz63_0); (try clear hcz69_0); (try clear hcz72_0); (try clear hcz77_0); (try clear hcz81_0); (try clear hcz83_0); (try clear hcz86_0); (try clear hfz16_0); (try clear hfz16_1); (try clear hfz16_2); (try clear hfz18_0); (try clear hfz18_1); (try clear hfz18_2); (try clear hfz25_0); (try clear hfz25_1); (try clear hfz25_2); (try clear hfz27_0); (try clear hfz27_1); (try clear hfz27_2); (try clear hfz30_0); (try clear hfz33_0); (try clear hfz39_0); (try clear hfz39_1); (try clear hfz39_2); (try clear hfz41_0); (try clear hfz41_1); (try clear hfz41_2); (try clear hfz44_0); (try clear hfz47_0); (try clear hfz51_0); (try clear hfz54_0); (try clear hfz56_0); (try clear hfz56_1); (try clear hfz56_2); (try clear hfz60_0); (try clear hfz63_0); (try clear hfz69_0); (try clear hfz72_0); (try clear hfz77_0); (try clear hfz81_0); (try clear hfz83_0); (try clear hfz86_0); (try clear hx148_0); (try clear hx148_1); (try clear hx148_2); (try clear p1); (try clear p14); (try clear p148); (try clear p2); (try clear p6); (try clear p64); (try clear q1); (try clear q14); (try clear q148)
          obtain ⟨kq, x67_65, rfl, HA, HJ65, HO_147000, HO_148000, BK144, BK146, BK147, HB⟩ := hcut
          cases kq with
          | zero => exact absurd HA.out (by simp [value_Sum.j2])
          | succ kj65 =>
           have H := HA.out; clear HA
           simp only [value_Sum.j2] at H
           by_cases c87 : x67_65 = true
           ·
            subst c87
            have H1 : (if 0 < (x148000_2.length : Int) then (if 1 ≤ (x148000_2.length : Int) then ((some (x148000_2.drop (1 : Int).toNat : List Int)).bind fun y161 => (if x9_2 > 0 then (value_Sum.j3 kj65 x9_2 (rd x148000_2 0) (decide ((rd x148000_2 0) > (wrap64 (4611686018427387904 - x9_2)))) x147000_2 y161) else (value_Sum.j3 kj65 x9_2 (rd x148000_2 0) false x147000_2 y161))) else (none)) else (none)) = some (r1, r2, r3, r4) := by (first | rw [if_pos rfl] at H | rw [if_pos True.intro] at H | skip); exact H
            clear H; have H := H1; clear H1
            by_cases c88 : 0 < (x148000_2.length : Int)
            ·
             rw [if_pos c88] at H
             have c88b0 : decide (0 < (x148000_2.length : Int)) = true := decide_eq_true c88; have c88b1 : decide (0 < x148000_2.length) = true := decide_eq_true (by omega); clear c88
             by_cases c89 : 1 ≤ (x148000_2.length : Int)
             ·
              rw [if_pos c89] at H
              have c89b0 := eq_true c89; have c89b1 : decide (1 ≤ (x148000_2.length : Int)) = true := decide_eq_true c89; clear c89
              obtain ⟨y161, hy161⟩ : ∃ y_ : List Int, y_ = (x148000_2.drop (1 : Int).toNat) := ⟨_, rfl⟩
              replace H : (if x9_2 > 0 then (value_Sum.j3 kj65 x9_2 (rd x148000_2 0) (decide ((rd x148000_2 0) > (wrap64 (4611686018427387904 - x9_2)))) x147000_2 y161) else (value_Sum.j3 kj65 x9_2 (rd x148000_2 0) false x147000_2 y161)) = some (r1, r2, r3, r4) := by first | (rw [hy161]; with_reducible exact H) | (have H2_ := (Option.bind_some _ _).symm.trans H; rw [hy161]; with_reducible exact H2_) | (have H2_ := (Option.bind_some _ _).symm.trans H; with_reducible exact H2_) | with_reducible exact H | (rw [hy161]; exact H) | exact H
              have Ny161 := Aside0.mk hy161; clear hy161; have HC90 := Aside0.mk H; clear H; have hnb91 := NB147_144.out; have hnc91 := NB144_147.out; have hnb92 := NB147_146.out; have hnc92 := NB146_147.out; have hcz93_0 : wc.cell? ⟨gb147, 0, none⟩ = some (.slice Ao73 x148000_2.length co73) := (blk_cell BK147.out 0).trans rfl; have hfz93_0 := blk_frozen BK147.out 0; have p160 : 0 ≤ (0 : Int) := (by omega); have q160 : 0 < (x148000_2.length : Int) := of_decide_eq_true (by first | (with_reducible assumption) | assumption)
              obtain ⟨ad160, e160, hx160_0⟩ := Kd.at_int (Kd.Q_reads' HO_148000.out).2.2 0 p160 q160
              cases e160
              have qi160 : (0 < x148000_2.length) = True := eq_true (by omega)
              (try rw [show ((0 : Int)).toNat = 0 from rfl] at hx160_0)
              (try rw [Addr.add_zero'] at hx160_0)
              replace p160 := eq_true p160; replace q160 := eq_true q160; have q94 : (1 : Int) ≤ ((x148000_2.length : Int) : Int) := of_decide_eq_true (by first | (with_reducible assumption) | assumption)
              obtain ⟨i094, hi094, _, hsz94, _⟩ := info_parts info3
              have hcut94 := cut_from (P := Tryd.prog) 52 3 .i64 Tryd.underlying52 hi094 1 hsz94 (some ad160) x148000_2.length co73 1 (by omega) q94; have hr94 := Kd.Q_drop (k := (1 : Int).toNat) HO_148000.out (by omega)
              obtain ⟨A94, hA94⟩ : ∃ A1, A1 = (if co73 = (1 : Int).toNat then (some ad160) else ((some ad160) : Option Addr).map (·.add ((1 : Int).toNat * 1))) := ⟨_, rfl⟩
              obtain ⟨c94, hc94⟩ : ∃ c1, c1 = co73 - (1 : Int).toNat := ⟨_, rfl⟩
              have hy94 : y161.length = x148000_2.length - (1 : Int).toNat := (by rw [Ny161.out, List.length_drop])
              rw [← Ny161.out] at hr94
              rw [← hy94, ← hA94, ← hc94] at hcut94
              replace hr94 : Kd.Q (Kd.int .i64) 3 wc w.heap.size (fun k_ => some k_ ≠ (.slice Ao70 x147000_2.length co70 : Value).ownBlock) (.slice A94 y161.length c94) y161 := (by rw [hA94, hc94, hy94]; exact hr94); have HE94 : Aside0 ((Value.slice A94 y161.length c94).ownBlock = (.slice (some ad160) x148000_2.length co73 : Value).ownBlock) := ⟨by rw [hA94]; split <;> (cases ((some ad160) : Option Addr) <;> rfl)⟩; clear hy94 hi094 hsz94 HO_148000 hA94 hc94; have HO163 := Aside0.mk hr94; clear hr94; replace q94 := eq_true q94; have n_ := Aside0.mk (Kd.Q_mono (ok' := fun k_ => some k_ ≠ (.slice A94 y161.length c94 : Value).ownBlock) HO_147000.out (fun k_ hk => (by rw [HE94.out]; exact hk))); clear HO_147000; have HO_147000 := n_; clear n_
              go_upto_region 22 with (fail)
              go_cut [86] (fun v86 wc => ∃ (kq : Nat) (x86_89 : Bool), v86 = .bool x86_89 ∧ Aside0 (value_Sum.j3 kq x9_2 (rd x148000_2 0) x86_89 x147000_2 y161 = some (r1, r2, r3, r4)) ∧ Aside0 (kq ≤ kj65) ∧ Aside0 (Kd.Q (Kd.int .i64) 3 wc w.heap.size (fun k_ => some k_ ≠ ((.slice A94 y161.length c94) : Value).ownBlock) (.slice Ao70 x147000_2.length co70) x147000_2) ∧ Aside0 (Kd.Q (Kd.int .i64) 3 wc w.heap.size (fun k_ => some k_ ≠ ((.slice Ao70 x147000_2.length co70) : Value).ownBlock) (.slice A94 y161.length c94) y161) ∧ Aside0 (wc.heap[gb144]? = some (.cells #[.int .i64 x145000_2, .int .i64 x145001_2, .string x145002_2] 23 (0, 0))) ∧ Aside0 (wc.heap[gb146]? = some (.cells #[(.slice Ao70 x147000_2.length co70)] 52 (0, 0))) ∧ Aside0 (wc.heap[gb147]? = some (.cells #[(.slice A94 y161.length c94)] 52 (0, 0))) ∧ Aside0 (Below w.heap.size w wc))
              case first =>
               have H := HC90.out; clear HC90
               by_cases c95 : x9_2 > 0
               ·
                rw [if_pos c95] at H
                have c95b0 : decide (0 < x9_2) = true := decide_eq_true c95; clear c95
                (first | rw [c95b0] | (simp only [i64_w, i32_w, u8_w, u32_w]; rw [c95b0]) | rw [c95b1] | skip)
                have H' := Aside0.mk H
                clear H
                go_wp2
                go_meet
                case rel => exact ⟨_, (decide ((rd x148000_2 0) > (wrap64 (4611686018427387904 - x9_2)))), (by first | rfl | (simp; done) | (simp [*]; done)), H', ⟨by have := HK1.out; have := HK2.out; have := HJ65.out; first | omega | exact Nat.le_refl _⟩, ⟨by (with_reducible repeat (first | apply Kd.Q_alloc | apply Kd.Q_drewN | apply Kd.Q_drew)); exact Kd.Q_mono (Kd.Q_far (p := ⟨gb147, 0, none⟩) (Kd.Q_types HO_147000.out BK147.out (by decide)) (fun _ hk => hk.2) (.slice A94 y161.length c94)) (fun _ hk => hk.1)⟩, ⟨by (with_reducible repeat (first | apply Kd.Q_alloc | apply Kd.Q_drewN | apply Kd.Q_drew)); exact Kd.Q_mono (Kd.Q_far (p := ⟨gb147, 0, none⟩) (Kd.Q_types HO163.out BK147.out (by decide)) (fun _ hk => hk.2) (.slice A94 y161.length c94)) (fun _ hk => hk.1)⟩, ⟨by (with_reducible repeat first | apply bN | apply bD | apply bA); refine bF ?_ NB144_147.out _; (with_reducible repeat first | apply bN | apply bD | apply bA); exact BK144.out⟩, ⟨by (with_reducible repeat first | apply bN | apply bD | apply bA); refine bF ?_ NB146_147.out _; (with_reducible repeat first | apply bN | apply bD | apply bA); exact BK146.out⟩, ⟨by (with_reducible repeat first | apply bN | apply bD | apply bA); refine blk_put (cs := #[.slice (some ad160) x148000_2.length co73]) ?_ 0 _ rfl; (with_reducible repeat first | apply bN | apply bD | apply bA); exact BK147.out⟩, ⟨by repeat (first | (with_reducible first | exact HB.out | apply pA | apply pN | apply pD | refine pS ?_ GE144.out | refine pS ?_ GE146.out | refine pS ?_ GE147.out) | exact HB.out)⟩⟩
               ·
                rw [if_neg c95] at H
                have c95b0 : decide (0 < x9_2) = false := decide_eq_false c95; clear c95
                (first | rw [c95b0] | (simp only [i64_w, i32_w, u8_w, u32_w]; rw [c95b0]) | rw [c95b1] | skip)
                have H' := Aside0.mk H
                clear H
                go_wp2
                go_meet
                case rel => exact ⟨_, (false), (by first | rfl | (simp; done) | (simp [*]; done)), H', ⟨by have := HK1.out; have := HK2.out; have := HJ65.out; first | omega | exact Nat.le_refl _⟩, ⟨by (with_reducible repeat (first | apply Kd.Q_alloc | apply Kd.Q_drewN | apply Kd.Q_drew)); exact Kd.Q_mono (Kd.Q_far (p := ⟨gb147, 0, none⟩) (Kd.Q_types HO_147000.out BK147.out (by decide)) (fun _ hk => hk.2) (.slice A94 y161.length c94)) (fun _ hk => hk.1)⟩, ⟨by (with_reducible repeat (first | apply Kd.Q_alloc | apply Kd.Q_drewN | apply Kd.Q_drew)); exact Kd.Q_mono (Kd.Q_far (p := ⟨gb147, 0, none⟩) (Kd.Q_types HO163.out BK147.out (by decide)) (fun _ hk => hk.2) (.slice A94 y161.length c94)) (fun _ hk => hk.1)⟩, ⟨by (with_reducible repeat first | apply bN | apply bD | apply bA); refine bF ?_ NB144_147.out _; (with_reducible repeat first | apply bN | apply bD | apply bA); exact BK144.out⟩, ⟨by (with_reducible repeat first | apply bN | apply bD | apply bA); refine bF ?_ NB146_147.out _; (with_reducible repeat first | apply bN | apply bD | apply bA); exact BK146.out⟩, ⟨by (with_reducible repeat first | apply bN | apply bD | apply bA); refine blk_put (cs := #[.slice (some ad160) x148000_2.length co73]) ?_ 0 _ rfl; (with_reducible repeat first | apply bN | apply bD | apply bA); exact BK147.out⟩, ⟨by repeat (first | (with_reducible first | exact HB.out | apply pA | apply pN | apply pD | refine pS ?_ GE144.out | refine pS ?_ GE146.out | refine pS ?_ GE147.out) | exact HB.out)⟩⟩
              case rest =>
               clear HC90; (try clear c1); (try clear p1); (try clear q1); (try clear hx1); (try clear qi1); (try clear c2); (try clear p2); (try clear c3); (try clear c3b0); (try clear c3b1); (try clear c4); (try clear c5); (try clear c6); (try clear p6); (try clear c7); (try clear c8); (try clear c8b0); (try clear c9); (try clear c9b0); (try clear q9); (try clear c10); (try clear c10b0); (try clear c11); (try clear c11b0); (try clear c11b1); (try clear c13); (try clear c14); (try clear p14); (try clear q14); (try clear hx14); (try clear c15); (try clear p16); (try clear q16); (try clear hx16); (try clear qi16); (try clear c19); (try clear c19b0); (try clear c20); (try clear c22); (try clear c23); (try clear c24); (try clear c28); (try clear c29); (try clear c34); (try clear c36); (try clear c37); (try clear c38); (try clear c42); (try clear c43); (try clear c44); (try clear c48); (try clear c48b0); (try clear c48b1); (try clear c49); (try clear c50); (try clear c53); (try clear c58); (try clear c59); (try clear c62); (try clear p64); (try clear c65); (try clear c65b0); (try clear c67); (try clear c68); (try clear c71); (try clear c74); (try clear c74b0); (try clear c74b1); (try clear c74b2); (try clear c75); (try clear c76); (try clear c78); (try clear c78b0); (try clear c79); (try clear c80); (try clear c82); (try clear c84); (try clear c85); (try clear c87); (try clear c88); (try clear c88b0); (try clear c88b1); (try clear c89); (try clear c89b0); (try clear c89b1); (try clear c91); (try clear c92); (try clear c94); (try clear q94); (try clear c95); (try clear c95b0); (try clear c95b1); (try clear hcz16_0); (try clear hcz16_1); (try clear hcz16_2); (try clear hcz18_0); (try clear hcz18_1); (try clear hcz18_2); (try clear hcz25_0); (try clear hcz25_1); (try clear hcz25_2); (try clear hcz27_0); (try clear hcz27_1); (try clear hcz27_2); (try clear hcz30_0); (try clear hcz33_0); (try clear hcz39_0); (try clear hcz39_1); (try clear hcz39_2); (try clear hcz41_0); (try clear hcz41_1); (try clear hcz41_2); (try clear hcz44_0); (try clear hcz47_0); (try clear hcz51_0); (try clear hcz54_0); (try clear hcz56_0); (try clear hcz56_1); (try clear hcz56_2); (try clear hcz60_0); (try clear hcz63_0); (try clear hcz69_0); (try clear hcz72_0); (try clear hcz77_0); (try clear hcz81_0); (try clear hcz83_0); (try clear hcz86_0); (try clear hcz93_0); (try clear hfz16_0); (try clear hfz16_1); (try clear hfz16_2); (try clear hfz18_0); (try clear hfz18_1); (try clear hfz18_2); (try clear hfz25_0); (try clear hfz25_1); (try clear hfz25_2); (try clear hfz27_0); (try clear hfz27_1); (try clear hfz27_2); (try clear hfz30_0); (try clear hfz33_0); (try clear hfz39_0); (try clear hfz39_1); (try clear hfz39_2); (try clear hfz41_0); (try clear hfz41_1); (try clear hfz41_2); (try clear hfz44_0); (try clear hfz47_0); (try clear hfz51_0); (try clear hfz54_0); (try clear hfz56_0); (try clear hfz56_1); (try clear hfz56_2); (try clear hfz60_0); (try clear hfz63_0); (try clear hfz69_0); (try clear hfz72_0); (try clear hfz77_0); (try clear hfz81_0); (try clear hfz83_0); (try clear hfz86_0); (try clear hfz93_0); (try clear hx148_0); (try clear hx148_1); (try clear hx148_2); (try clear hx160_0); (try clear p1); (try clear p14); (try clear p148); (try clear p160); (try clear p2); (try clear p6); (try clear p64); (try clear q1); (try clear q14); (try clear q148); (try clear q160); (try clear q94)
               obtain ⟨kq, x86_89, rfl, HA, HJ89, HO_147000, HO_148000, BK144, BK146, BK147, HB⟩ := hcut
               cases kq with
               | zero => exact absurd HA.out (by simp [value_Sum.j3])
               | succ kj89 =>
                have H := HA.out; clear HA
                simp only [value_Sum.j3] at H
                by_cases c96 : x86_89 = true
                ·
                 subst c96
                 have H1 : (some (0, 0, (⟨#[]⟩ : ByteArray), 12)) = some (r1, r2, r3, r4) := by (first | rw [if_pos rfl] at H | rw [if_pos True.intro] at H | skip); exact H
                 clear H; have H := H1; clear H1
                 simp only [Option.some.injEq, Prod.mk.injEq] at H
                 obtain ⟨rfl, rfl, rfl, rfl⟩ := H
                 have hnb97 := NB144_146.out; have hnc97 := NB146_144.out; have hnb98 := NB144_147.out; have hnc98 := NB147_144.out; have hcz99_0 : wc.cell? ⟨gb144, 0, none⟩ = some (.int .i64 x145000_2) := (blk_cell BK144.out 0).trans rfl; have hcz99_1 : wc.cell? ⟨gb144, 1, none⟩ = some (.int .i64 x145001_2) := (blk_cell BK144.out 1).trans rfl; have hcz99_2 : wc.cell? ⟨gb144, 2, none⟩ = some (.string x145002_2) := (blk_cell BK144.out 2).trans rfl; have hfz99_0 := blk_frozen BK144.out 0; have hfz99_1 := blk_frozen BK144.out 1; have hfz99_2 := blk_frozen BK144.out 2
                 go_wp2_with (first | ((with_reducible refine gate_store (t := 23) (p := 2) rfl ?_); refine store_event (t := 23) (p := 2) (v := ?vo_w100) (w1 := (((wc.setCell ⟨gb144, 0, none⟩ (.int .i64 0)).setCell ⟨gb144, 1, none⟩ (.int .i64 0)).setCell ⟨gb144, 2, none⟩ (.string (⟨#[]⟩ : ByteArray)))) ?hg ?ho ?hn ?hr ?_; (case ho => rfl); (case hg => rfl); (case hn => rfl); (case hr => first | (go_simp; done) | (go_simp; rfl)); intro w100 hw; replace HO_147000 : Aside0 (Kd.Q (Kd.int .i64) 3 w100 w.heap.size (fun k_ => some k_ ≠ (.slice A94 y161.length c94 : Value).ownBlock) (.slice Ao70 x147000_2.length co70) x147000_2) := ⟨(by rw [hw]; exact (by (with_reducible repeat (first | apply Kd.Q_alloc | apply Kd.Q_drewN | apply Kd.Q_drew)); exact Kd.Q_mono (Kd.Q_far (p := ⟨gb144, 2, none⟩) (Kd.Q_far (p := ⟨gb144, 1, none⟩) (Kd.Q_far (p := ⟨gb144, 0, none⟩) (Kd.Q_types HO_147000.out BK144.out (by decide)) (fun _ hk => hk.2) (.int .i64 0)) (fun _ hk => hk.2) (.int .i64 0)) (fun _ hk => hk.2) (.string (⟨#[]⟩ : ByteArray))) (fun _ hk => hk.1)))⟩; replace HO_148000 : Aside0 (Kd.Q (Kd.int .i64) 3 w100 w.heap.size (fun k_ => some k_ ≠ (.slice Ao70 x147000_2.length co70 : Value).ownBlock) (.slice A94 y161.length c94) y161) := ⟨(by rw [hw]; exact (by (with_reducible repeat (first | apply Kd.Q_alloc | apply Kd.Q_drewN | apply Kd.Q_drew)); exact Kd.Q_mono (Kd.Q_far (p := ⟨gb144, 2, none⟩) (Kd.Q_far (p := ⟨gb144, 1, none⟩) (Kd.Q_far (p := ⟨gb144, 0, none⟩) (Kd.Q_types HO_148000.out BK144.out (by decide)) (fun _ hk => hk.2) (.int .i64 0)) (fun _ hk => hk.2) (.int .i64 0)) (fun _ hk => hk.2) (.string (⟨#[]⟩ : ByteArray))) (fun _ hk => hk.1)))⟩; replace BK144 : Aside0 (w100.heap[gb144]? = some (.cells #[.int .i64 0, .int .i64 0, .string (⟨#[]⟩ : ByteArray)] 23 (0, 0))) := bp BK144 hw; replace BK146 := bw BK146 hw; replace BK147 := bw BK147 hw; replace HB := bv hw; clear hw))
                 refine bodyPost_ret (results_ct rfl _ _ gb144 23 #[.int .i64 0, .int .i64 0, .string (⟨#[]⟩ : ByteArray)] (0, 0) _ rfl (by (with_reducible repeat first | apply bN | apply bD | apply bA); exact BK144.out) Tryd.underlying23 rfl (by kernel_rfl)) rfl ?_
                 exact ⟨by first | (simp only [ByteArray.size_extract, Nat.min_self]; rfl) | rfl | (simp [errW_none, errW_some] <;> rfl) | (simp [*, errW_none, errW_some] <;> rfl), by repeat (first | (with_reducible first | exact HB.out | apply pA | apply pN | apply pD | refine pS ?_ GE144.out | refine pS ?_ GE146.out | refine pS ?_ GE147.out) | exact HB.out)⟩
                ·
                 replace c96 := Bool.eq_false_iff.mpr c96
                 subst c96
                 have H1 : (if (wrap64 (x9_2 + (rd x148000_2 0))) < (-4611686018427387904) then (if (x147000_2.length : Int) = 0 then (some (0, 0, (⟨#[]⟩ : ByteArray), 12)) else (value_Sum.l1 kj89 (wrap64 (x9_2 + (rd x148000_2 0))) x147000_2 y161)) else (value_Sum.l1 kj89 (wrap64 (x9_2 + (rd x148000_2 0))) x147000_2 y161)) = some (r1, r2, r3, r4) := by rw [if_neg (show ¬ (false = true) by decide)] at H; exact H
                 clear H; have H := H1; clear H1
                 by_cases c101 : (wrap64 (x9_2 + (rd x148000_2 0))) < (-4611686018427387904)
                 ·
                  rw [if_pos c101] at H
                  have c101b0 : decide ((wrap64 (x9_2 + (rd x148000_2 0))) < (-4611686018427387904)) = true := decide_eq_true c101; clear c101
                  by_cases c102 : (x147000_2.length : Int) = 0
                  ·
                   rw [if_pos c102] at H
                   have c102b0 : ((x147000_2.length : Int) == 0) = true := beq_iff_eq.mpr c102; have c102b1 : ((x147000_2.length : Int) != 0) = false := bne_eq_false_iff_eq.mpr c102; clear c102
                   simp only [Option.some.injEq, Prod.mk.injEq] at H
                   obtain ⟨rfl, rfl, rfl, rfl⟩ := H
                   have hnb103 := NB146_144.out; have hnc103 := NB144_146.out; have hnb104 := NB146_147.out; have hnc104 := NB147_146.out; have hcz105_0 : wc.cell? ⟨gb146, 0, none⟩ = some (.slice Ao70 x147000_2.length co70) := (blk_cell BK146.out 0).trans rfl; have hfz105_0 := blk_frozen BK146.out 0; have hnb106 := NB144_147.out; have hnc106 := NB147_144.out; have hcz107_0 : wc.cell? ⟨gb144, 0, none⟩ = some (.int .i64 x145000_2) := (blk_cell BK144.out 0).trans rfl; have hcz107_1 : wc.cell? ⟨gb144, 1, none⟩ = some (.int .i64 x145001_2) := (blk_cell BK144.out 1).trans rfl; have hcz107_2 : wc.cell? ⟨gb144, 2, none⟩ = some (.string x145002_2) := (blk_cell BK144.out 2).trans rfl; have hfz107_0 := blk_frozen BK144.out 0; have hfz107_1 := blk_frozen BK144.out 1; have hfz107_2 := blk_frozen BK144.out 2
                   go_wp2_with (first | ((with_reducible refine gate_store (t := 23) (p := 2) rfl ?_); refine store_event (t := 23) (p := 2) (v := ?vo_w108) (w1 := (((wc.setCell ⟨gb144, 0, none⟩ (.int .i64 0)).setCell ⟨gb144, 1, none⟩ (.int .i64 0)).setCell ⟨gb144, 2, none⟩ (.string (⟨#[]⟩ : ByteArray)))) ?hg ?ho ?hn ?hr ?_; (case ho => rfl); (case hg => rfl); (case hn => rfl); (case hr => first | (go_simp; done) | (go_simp; rfl)); intro w108 hw; replace HO_147000 : Aside0 (Kd.Q (Kd.int .i64) 3 w108 w.heap.size (fun k_ => some k_ ≠ (.slice A94 y161.length c94 : Value).ownBlock) (.slice Ao70 x147000_2.length co70) x147000_2) := ⟨(by rw [hw]; exact (by (with_reducible repeat (first | apply Kd.Q_alloc | apply Kd.Q_drewN | apply Kd.Q_drew)); exact Kd.Q_mono (Kd.Q_far (p := ⟨gb144, 2, none⟩) (Kd.Q_far (p := ⟨gb144, 1, none⟩) (Kd.Q_far (p := ⟨gb144, 0, none⟩) (Kd.Q_types HO_147000.out BK144.out (by decide)) (fun _ hk => hk.2) (.int .i64 0)) (fun _ hk => hk.2) (.int .i64 0)) (fun _ hk => hk.2) (.string (⟨#[]⟩ : ByteArray))) (fun _ hk => hk.1)))⟩; replace HO_148000 : Aside0 (Kd.Q (Kd.int .i64) 3 w108 w.heap.size (fun k_ => some k_ ≠ (.slice Ao70 x147000_2.length co70 : Value).ownBlock) (.slice A94 y161.length c94) y161) := ⟨(by rw [hw]; exact (by (with_reducible repeat (first | apply Kd.Q_alloc | apply Kd.Q_drewN | apply Kd.Q_drew)); exact Kd.Q_mono (Kd.Q_far (p := ⟨gb144, 2, none⟩) (Kd.Q_far (p := ⟨gb144, 1, none⟩) (Kd.Q_far (p := ⟨gb144, 0, none⟩) (Kd.Q_types HO_148000.out BK144.out (by decide)) (fun _ hk => hk.2) (.int .i64 0)) (fun _ hk => hk.2) (.int .i64 0)) (fun _ hk => hk.2) (.string (⟨#[]⟩ : ByteArray))) (fun _ hk => hk.1)))⟩; replace BK144 : Aside0 (w108.heap[gb144]? = some (.cells #[.int .i64 0, .int .i64 0, .string (⟨#[]⟩ : ByteArray)] 23 (0, 0))) := bp BK144 hw; replace BK146 := bw BK146 hw; replace BK147 := bw BK147 hw; replace HB := bv hw; clear hw))
                   refine bodyPost_ret (results_ct rfl _ _ gb144 23 #[.int .i64 0, .int .i64 0, .string (⟨#[]⟩ : ByteArray)] (0, 0) _ rfl (by (with_reducible repeat first | apply bN | apply bD | apply bA); exact BK144.out) Tryd.underlying23 rfl (by kernel_rfl)) rfl ?_
                   exact ⟨by first | (simp only [ByteArray.size_extract, Nat.min_self]; rfl) | rfl | (simp [errW_none, errW_some] <;> rfl) | (simp [*, errW_none, errW_some] <;> rfl), by repeat (first | (with_reducible first | exact HB.out | apply pA | apply pN | apply pD | refine pS ?_ GE144.out | refine pS ?_ GE146.out | refine pS ?_ GE147.out) | exact HB.out)⟩
                  ·
                   rw [if_neg c102] at H
                   have c102b0 : ((x147000_2.length : Int) == 0) = false := beq_eq_false_iff_ne.mpr c102; have c102b1 : ((x147000_2.length : Int) != 0) = true := bne_iff_ne.mpr c102
                   have c102b2 : ¬ (x147000_2 = []) := fun h_ => c102 (by rw [h_]; rfl)
                   have H' := Aside0.mk H
                   clear H; have hnb109 := NB146_144.out; have hnc109 := NB144_146.out; have hnb110 := NB146_147.out; have hnc110 := NB147_146.out; have hcz111_0 : wc.cell? ⟨gb146, 0, none⟩ = some (.slice Ao70 x147000_2.length co70) := (blk_cell BK146.out 0).trans rfl; have hfz111_0 := blk_frozen BK146.out 0
                   go_wp2
                   go_roundg kj89
                   case measure => have := HK1.out; have := HK2.out; have := HJ65.out; have := HJ89.out; omega
                   case rel => exact ⟨(wrap64 (x9_2 + (rd x148000_2 0))), (x145000_2), (x145001_2), (x145002_2), (x147000_2), (y161), (.slice Ao70 x147000_2.length co70), (.slice A94 y161.length c94), (by first | rfl | (simp; done) | (simp [*]; done)), H', ⟨by have := HK1.out; have := HK2.out; have := HJ65.out; have := HJ89.out; omega⟩, ⟨by (with_reducible repeat (first | apply Kd.Q_alloc | apply Kd.Q_drewN | apply Kd.Q_drew)); exact HO_147000.out⟩, ⟨by (with_reducible repeat (first | apply Kd.Q_alloc | apply Kd.Q_drewN | apply Kd.Q_drew)); exact HO_148000.out⟩, ⟨by (with_reducible repeat first | apply bN | apply bD | apply bA); exact BK144.out⟩, ⟨by (with_reducible repeat first | apply bN | apply bD | apply bA); exact BK146.out⟩, ⟨by (with_reducible repeat first | apply bN | apply bD | apply bA); exact BK147.out⟩, ⟨by repeat (first | (with_reducible first | exact HB.out | apply pA | apply pN | apply pD | refine pS ?_ GE144.out | refine pS ?_ GE146.out | refine pS ?_ GE147.out) | exact HB.out)⟩⟩
                 ·
                  rw [if_neg c101] at H
                  have c101b0 : decide ((wrap64 (x9_2 + (rd x148000_2 0))) < (-4611686018427387904)) = false := decide_eq_false c101; clear c101
                  have H' := Aside0.mk H
                  clear H
                  go_wp2
                  go_roundg kj89
                  case measure => have := HK1.out; have := HK2.out; have := HJ65.out; have := HJ89.out; omega
                  case rel => exact ⟨(wrap64 (x9_2 + (rd x148000_2 0))), (x145000_2), (x145001_2), (x145002_2), (x147000_2), (y161), (.slice Ao70 x147000_2.length co70), (.slice A94 y161.length c94), (by first | rfl | (simp; done) | (simp [*]; done)), H', ⟨by have := HK1.out; have := HK2.out; have := HJ65.out; have := HJ89.out; omega⟩, ⟨by (with_reducible repeat (first | apply Kd.Q_alloc | apply Kd.Q_drewN | apply Kd.Q_drew)); exact HO_147000.out⟩, ⟨by (with_reducible repeat (first | apply Kd.Q_alloc | apply Kd.Q_drewN | apply Kd.Q_drew)); exact HO_148000.out⟩, ⟨by (with_reducible repeat first | apply bN | apply bD | apply bA); exact BK144.out⟩, ⟨by (with_reducible repeat first | apply bN | apply bD | apply bA); exact BK146.out⟩, ⟨by (with_reducible repeat first | apply bN | apply bD | apply bA); exact BK147.out⟩, ⟨by repeat (first | (with_reducible first | exact HB.out | apply pA | apply pN | apply pD | refine pS ?_ GE144.out | refine pS ?_ GE146.out | refine pS ?_ GE147.out) | exact HB.out)⟩⟩
             ·
              rw [if_neg c89] at H
              exact absurd H (by simp)
            ·
             rw [if_neg c88] at H
             exact absurd H (by simp)
           ·
            replace c87 := Bool.eq_false_iff.mpr c87
            subst c87
            have H1 : (if 0 < (x147000_2.length : Int) then (if 1 ≤ (x147000_2.length : Int) then ((some (x147000_2.drop (1 : Int).toNat : List Int)).bind fun y165 => (if x9_2 > 0 then (value_Sum.j4 kj65 x9_2 (rd x147000_2 0) (decide ((rd x147000_2 0) > (wrap64 (4611686018427387904 - x9_2)))) y165 x148000_2) else (value_Sum.j4 kj65 x9_2 (rd x147000_2 0) false y165 x148000_2))) else (none)) else (none)) = some (r1, r2, r3, r4) := by rw [if_neg (show ¬ (false = true) by decide)] at H; exact H
            clear H; have H := H1; clear H1
            by_cases c112 : 0 < (x147000_2.length : Int)
            ·
             rw [if_pos c112] at H
             have c112b0 : decide (0 < (x147000_2.length : Int)) = true := decide_eq_true c112; have c112b1 : decide (0 < x147000_2.length) = true := decide_eq_true (by omega); clear c112
             by_cases c113 : 1 ≤ (x147000_2.length : Int)
             ·
              rw [if_pos c113] at H
              have c113b0 := eq_true c113; have c113b1 : decide (1 ≤ (x147000_2.length : Int)) = true := decide_eq_true c113; clear c113
              obtain ⟨y165, hy165⟩ : ∃ y_ : List Int, y_ = (x147000_2.drop (1 : Int).toNat) := ⟨_, rfl⟩
              replace H : (if x9_2 > 0 then (value_Sum.j4 kj65 x9_2 (rd x147000_2 0) (decide ((rd x147000_2 0) > (wrap64 (4611686018427387904 - x9_2)))) y165 x148000_2) else (value_Sum.j4 kj65 x9_2 (rd x147000_2 0) false y165 x148000_2)) = some (r1, r2, r3, r4) := by first | (rw [hy165]; with_reducible exact H) | (have H2_ := (Option.bind_some _ _).symm.trans H; rw [hy165]; with_reducible exact H2_) | (have H2_ := (Option.bind_some _ _).symm.trans H; with_reducible exact H2_) | with_reducible exact H | (rw [hy165]; exact H) | exact H
              have Ny165 := Aside0.mk hy165; clear hy165; have HC114 := Aside0.mk H; clear H; have hnb115 := NB146_144.out; have hnc115 := NB144_146.out; have hnb116 := NB146_147.out; have hnc116 := NB147_146.out; have hcz117_0 : wc.cell? ⟨gb146, 0, none⟩ = some (.slice Ao70 x147000_2.length co70) := (blk_cell BK146.out 0).trans rfl; have hfz117_0 := blk_frozen BK146.out 0; have p164 : 0 ≤ (0 : Int) := (by omega); have q164 : 0 < (x147000_2.length : Int) := of_decide_eq_true (by first | (with_reducible assumption) | assumption)
              obtain ⟨ad164, e164, hx164_0⟩ := Kd.at_int (Kd.Q_reads' HO_147000.out).2.2 0 p164 q164
              cases e164
              have qi164 : (0 < x147000_2.length) = True := eq_true (by omega)
              (try rw [show ((0 : Int)).toNat = 0 from rfl] at hx164_0)
              (try rw [Addr.add_zero'] at hx164_0)
              replace p164 := eq_true p164; replace q164 := eq_true q164; have q118 : (1 : Int) ≤ ((x147000_2.length : Int) : Int) := of_decide_eq_true (by first | (with_reducible assumption) | assumption)
              obtain ⟨i0118, hi0118, _, hsz118, _⟩ := info_parts info3
              have hcut118 := cut_from (P := Tryd.prog) 52 3 .i64 Tryd.underlying52 hi0118 1 hsz118 (some ad164) x147000_2.length co70 1 (by omega) q118; have hr118 := Kd.Q_drop (k := (1 : Int).toNat) HO_147000.out (by omega)
              obtain ⟨A118, hA118⟩ : ∃ A1, A1 = (if co70 = (1 : Int).toNat then (some ad164) else ((some ad164) : Option Addr).map (·.add ((1 : Int).toNat * 1))) := ⟨_, rfl⟩
              obtain ⟨c118, hc118⟩ : ∃ c1, c1 = co70 - (1 : Int).toNat := ⟨_, rfl⟩
              have hy118 : y165.length = x147000_2.length - (1 : Int).toNat := (by rw [Ny165.out, List.length_drop])
              rw [← Ny165.out] at hr118
              rw [← hy118, ← hA118, ← hc118] at hcut118
              replace hr118 : Kd.Q (Kd.int .i64) 3 wc w.heap.size (fun k_ => some k_ ≠ (.slice Ao73 x148000_2.length co73 : Value).ownBlock) (.slice A118 y165.length c118) y165 := (by rw [hA118, hc118, hy118]; exact hr118); have HE118 : Aside0 ((Value.slice A118 y165.length c118).ownBlock = (.slice (some ad164) x147000_2.length co70 : Value).ownBlock) := ⟨by rw [hA118]; split <;> (cases ((some ad164) : Option Addr) <;> rfl)⟩; clear hy118 hi0118 hsz118 HO_147000 hA118 hc118; have HO167 := Aside0.mk hr118; clear hr118; replace q118 := eq_true q118; have n_ := Aside0.mk (Kd.Q_mono (ok' := fun k_ => some k_ ≠ (.slice A118 y165.length c118 : Value).ownBlock) HO_148000.out (fun k_ hk => (by rw [HE118.out]; exact hk))); clear HO_148000; have HO_148000 := n_; clear n_
              go_upto_region 22 with (fail)
              go_cut [86] (fun v86 wc => ∃ (kq : Nat) (x86_113 : Bool), v86 = .bool x86_113 ∧ Aside0 (value_Sum.j4 kq x9_2 (rd x147000_2 0) x86_113 y165 x148000_2 = some (r1, r2, r3, r4)) ∧ Aside0 (kq ≤ kj65) ∧ Aside0 (Kd.Q (Kd.int .i64) 3 wc w.heap.size (fun k_ => some k_ ≠ ((.slice Ao73 x148000_2.length co73) : Value).ownBlock) (.slice A118 y165.length c118) y165) ∧ Aside0 (Kd.Q (Kd.int .i64) 3 wc w.heap.size (fun k_ => some k_ ≠ ((.slice A118 y165.length c118) : Value).ownBlock) (.slice Ao73 x148000_2.length co73) x148000_2) ∧ Aside0 (wc.heap[gb144]? = some (.cells #[.int .i64 x145000_2, .int .i64 x145001_2, .string x145002_2] 23 (0, 0))) ∧ Aside0 (wc.heap[gb146]? = some (.cells #[(.slice A118 y165.length c118)] 52 (0, 0))) ∧ Aside0 (wc.heap[gb147]? = some (.cells #[(.slice Ao73 x148000_2.length co73)] 52 (0, 0))) ∧ Aside0 (Below w.heap.size w wc))
              case first =>
               have H := HC114.out; clear HC114
               by_cases c119 : x9_2 > 0
               ·
                rw [if_pos c119] at H
                have c119b0 : decide (0 < x9_2) = true := decide_eq_true c119; clear c119
                (first | rw [c119b0] | (simp only [i64_w, i32_w, u8_w, u32_w]; rw [c119b0]) | rw [c119b1] | skip)
                have H' := Aside0.mk H
                clear H
                go_wp2
                go_meet
                case rel => exact ⟨_, (decide ((rd x147000_2 0) > (wrap64 (4611686018427387904 - x9_2)))), (by first | rfl | (simp; done) | (simp [*]; done)), H', ⟨by have := HK1.out; have := HK2.out; have := HJ65.out; first | omega | exact Nat.le_refl _⟩, ⟨by (with_reducible repeat (first | apply Kd.Q_alloc | apply Kd.Q_drewN | apply Kd.Q_drew)); exact Kd.Q_mono (Kd.Q_far (p := ⟨gb146, 0, none⟩) (Kd.Q_types HO167.out BK146.out (by decide)) (fun _ hk => hk.2) (.slice A118 y165.length c118)) (fun _ hk => hk.1)⟩, ⟨by (with_reducible repeat (first | apply Kd.Q_alloc | apply Kd.Q_drewN | apply Kd.Q_drew)); exact Kd.Q_mono (Kd.Q_far (p := ⟨gb146, 0, none⟩) (Kd.Q_types HO_148000.out BK146.out (by decide)) (fun _ hk => hk.2) (.slice A118 y165.length c118)) (fun _ hk => hk.1)⟩, ⟨by (with_reducible repeat first | apply bN | apply bD | apply bA); refine bF ?_ NB144_146.out _; (with_reducible repeat first | apply bN | apply bD | apply bA); exact BK144.out⟩, ⟨by (with_reducible repeat first | apply bN | apply bD | apply bA); refine blk_put (cs := #[.slice (some ad164) x147000_2.length co70]) ?_ 0 _ rfl; (with_reducible repeat first | apply bN | apply bD | apply bA); exact BK146.out⟩, ⟨by (with_reducible repeat first | apply bN | apply bD | apply bA); refine bF ?_ NB147_146.out _; (with_reducible repeat first | apply bN | apply bD | apply bA); exact BK147.out⟩, ⟨by repeat (first | (with_reducible first | exact HB.out | apply pA | apply pN | apply pD | refine pS ?_ GE144.out | refine pS ?_ GE146.out | refine pS ?_ GE147.out) | exact HB.out)⟩⟩
               ·
                rw [if_neg c119] at H
                have c119b0 : decide (0 < x9_2) = false := decide_eq_false c119; clear c119
                (first | rw [c119b0] | (simp only [i64_w, i32_w, u8_w, u32_w]; rw [c119b0]) | rw [c119b1] | skip)
                have H' := Aside0.mk H
                clear H
                go_wp2
                go_meet
                case rel => exact ⟨_, (false), (by first | rfl | (simp; done) | (simp [*]; done)), H', ⟨by have := HK1.out; have := HK2.out; have := HJ65.out; first | omega | exact Nat.le_refl _⟩, ⟨by (with_reducible repeat (first | apply Kd.Q_alloc | apply Kd.Q_drewN | apply Kd.Q_drew)); exact Kd.Q_mono (Kd.Q_far (p := ⟨gb146, 0, none⟩) (Kd.Q_types HO167.out BK146.out (by decide)) (fun _ hk => hk.2) (.slice A118 y165.length c118)) (fun _ hk => hk.1)⟩, ⟨by (with_reducible repeat (first | apply Kd.Q_alloc | apply Kd.Q_drewN | apply Kd.Q_drew)); exact Kd.Q_mono (Kd.Q_far (p := ⟨gb146, 0, none⟩) (Kd.Q_types HO_148000.out BK146.out (by decide)) (fun _ hk => hk.2) (.slice A118 y165.length c118)) (fun _ hk => hk.1)⟩, ⟨by (with_reducible repeat first | apply bN | apply bD | apply bA); refine bF ?_ NB144_146.out _; (with_reducible repeat first | apply bN | apply bD | apply bA); exact BK144.out⟩, ⟨by (with_reducible repeat first | apply bN | apply bD | apply bA); refine blk_put (cs := #[.slice (some ad164) x147000_2.length co70]) ?_ 0 _ rfl; (with_reducible repeat first | apply bN | apply bD | apply bA); exact BK146.out⟩, ⟨by (with_reducible repeat first | apply bN | apply bD | apply bA); refine bF ?_ NB147_146.out _; (with_reducible repeat first | apply bN | apply bD | apply bA); exact BK147.out⟩, ⟨by repeat (first | (with_reducible first | exact HB.out | apply pA | apply pN | apply pD | refine pS ?_ GE144.out | refine pS ?_ GE146.out | refine pS ?_ GE147.out) | exact HB.out)⟩⟩
              case rest =>
               clear HC114; (try clear c1); (try clear p1); (try clear q1); (try clear hx1); (try clear qi1); (try clear c2); (try clear p2); (try clear c3); (try clear c3b0); (try clear c3b1); (try clear c4); (try clear c5); (try clear c6); (try clear p6); (try clear c7); (try clear c8); (try clear c8b0); (try clear c9); (try clear c9b0); (try clear q9); (try clear c10); (try clear c10b0); (try clear c11); (try clear c11b0); (try clear c11b1); (try clear q11); (try clear c13); (try clear c14); (try clear p14); (try clear q14); (try clear hx14); (try clear c15); (try clear p16); (try clear q16); (try clear hx16); (try clear qi16); (try clear c19); (try clear c19b0); (try clear c20); (try clear c22); (try clear c23); (try clear c24); (try clear c28); (try clear c29); (try clear c34); (try clear c36); (try clear c37); (try clear c38); (try clear c42); (try clear c43); (try clear c44); (try clear c48); (try clear c48b0); (try clear c48b1); (try clear c49); (try clear c50); (try clear c53); (try clear c58); (try clear c59); (try clear c62); (try clear p64); (try clear c65); (try clear c65b0); (try clear c67); (try clear c68); (try clear c71); (try clear c74); (try clear c74b0); (try clear c74b1); (try clear c74b2); (try clear c75); (try clear c76); (try clear c78); (try clear c78b0); (try clear c79); (try clear c80); (try clear c82); (try clear c84); (try clear c85); (try clear c87); (try clear c88); (try clear c88b0); (try clear c88b1); (try clear c89); (try clear c89b0); (try clear c89b1); (try clear c91); (try clear c92); (try clear c94); (try clear q94); (try clear c95); (try clear c95b0); (try clear c95b1); (try clear c96); (try clear c97); (try clear c98); (try clear c101); (try clear c101b0); (try clear c102); (try clear c102b0); (try clear c102b1); (try clear c102b2); (try clear c103); (try clear c104); (try clear c106); (try clear c109); (try clear c110); (try clear c112); (try clear c112b0); (try clear c112b1); (try clear c113); (try clear c113b0); (try clear c113b1); (try clear c115); (try clear c116); (try clear c118); (try clear q118); (try clear c119); (try clear c119b0); (try clear c119b1); (try clear hcz105_0); (try clear hcz107_0); (try clear hcz107_1); (try clear hcz107_2); (try clear hcz111_0); (try clear hcz117_0); (try clear hcz16_0); (try clear hcz16_1); (try clear hcz16_2); (try clear hcz18_0); (try clear hcz18_1); (try clear hcz18_2); (try clear hcz25_0); (try clear hcz25_1); (try clear hcz25_2); (try clear hcz27_0); (try clear hcz27_1); (try clear hcz27_2); (try clear hcz30_0); (try clear hcz33_0); (try clear hcz39_0); (try clear hcz39_1); (try clear hcz39_2); (try clear hcz41_0); (try clear hcz41_1); (try clear hcz41_2); (try clear hcz44_0); (try clear hcz47_0); (try clear hcz51_0); (try clear hcz54_0); (try clear hcz56_0); (try clear hcz56_1); (try clear hcz56_2); (try clear hcz60_0); (try clear hcz63_0); (try clear hcz69_0); (try clear hcz72_0); (try clear hcz77_0); (try clear hcz81_0); (try clear hcz83_0); (try clear hcz86_0); (try clear hcz93_0); (try clear hcz99_0); (try clear hcz99_1); (try clear hcz99_2); (try clear hfz105_0); (try clear hfz107_0); (try clear hfz107_1); (try clear hfz107_2); (try clear hfz111_0); (try clear hfz117_0); (try clear hfz16_0); (try clear hfz16_1); (try clear hfz16_2); (try clear hfz18_0); (try clear hfz18_1); (try clear hfz18_2); (try clear hfz25_0); (try clear hfz25_1); (try clear hfz25_2); (try clear hfz27_0); (try clear hfz27_1); (try clear hfz27_2); (try clear hfz30_0); (try clear hfz33_0); (try clear hfz39_0); (try clear hfz39_1); (try clear hfz39_2); (try clear hfz41_0); (try clear hfz41_1); (try clear hfz41_2); (try clear hfz44_0); (try clear hfz47_0); (try clear hfz51_0); (try clear hfz54_0); (try clear hfz56_0); (try clear hfz56_1); (try clear hfz56_2); (try clear hfz60_0); (try clear hfz63_0); (try clear hfz69_0); (try clear hfz72_0); (try clear hfz77_0); (try clear hfz81_0); (try clear hfz83_0); (try clear hfz86_0); (try clear hfz93_0); (try clear hfz99_0); (try clear hfz99_1); (try clear hfz99_2); (try clear hx148_0); (try clear hx148_1); (try clear hx148_2); (try clear hx160_0); (try clear hx164_0); (try clear p1); (try clear p14); (try clear p148); (try clear p16); (try clear p160); (try clear p164); (try clear p2); (try clear p6); (try clear p64); (try clear q1); (try clear q118); (try clear q14); (try clear q148); (try clear q16); (try clear q160); (try clear q164); (try clear q9); (try clear q94)
               obtain ⟨kq, x86_113, rfl, HA, HJ113, HO_147000, HO_148000, BK144, BK146, BK147, HB⟩ := hcut
               cases kq with
               | zero => exact absurd HA.out (by simp [value_Sum.j4])
               | succ kj113 =>
                have H := HA.out; clear HA
                simp only [value_Sum.j4] at H
                by_cases c120 : x86_113 = true
                ·
                 subst c120
                 have H1 : (some (0, 0, (⟨#[]⟩ : ByteArray), 12)) = some (r1, r2, r3, r4) := by (first | rw [if_pos rfl] at H | rw [if_pos True.intro] at H | skip); exact H
                 clear H; have H := H1; clear H1
                 simp only [Option.some.injEq, Prod.mk.injEq] at H
                 obtain ⟨rfl, rfl, rfl, rfl⟩ := H
                 have hnb121 := NB144_146.out; have hnc121 := NB146_144.out; have hnb122 := NB144_147.out; have hnc122 := NB147_144.out; have hcz123_0 : wc.cell? ⟨gb144, 0, none⟩ = some (.int .i64 x145000_2) := (blk_cell BK144.out 0).trans rfl; have hcz123_1 : wc.cell? ⟨gb144, 1, none⟩ = some (.int .i64 x145001_2) := (blk_cell BK144.out 1).trans rfl; have hcz123_2 : wc.cell? ⟨gb144, 2, none⟩ = some (.string x145002_2) := (blk_cell BK144.out 2).trans rfl; have hfz123_0 := blk_frozen BK144.out 0; have hfz123_1 := blk_frozen BK144.out 1; have hfz123_2 := blk_frozen BK144.out 2
                 go_wp2_with (first | ((with_reducible refine gate_store (t := 23) (p := 2) rfl ?_); refine store_event (t := 23) (p := 2) (v := ?vo_w124) (w1 := (((wc.setCell ⟨gb144, 0, none⟩ (.int .i64 0)).setCell ⟨gb144, 1, none⟩ (.int .i64 0)).setCell ⟨gb144, 2, none⟩ (.string (⟨#[]⟩ : ByteArray)))) ?hg ?ho ?hn ?hr ?_; (case ho => rfl); (case hg => rfl); (case hn => rfl); (case hr => first | (go_simp; done) | (go_simp; rfl)); intro w124 hw; replace HO_147000 : Aside0 (Kd.Q (Kd.int .i64) 3 w124 w.heap.size (fun k_ => some k_ ≠ (.slice Ao73 x148000_2.length co73 : Value).ownBlock) (.slice A118 y165.length c118) y165) := ⟨(by rw [hw]; exact (by (with_reducible repeat (first | apply Kd.Q_alloc | apply Kd.Q_drewN | apply Kd.Q_drew)); exact Kd.Q_mono (Kd.Q_far (p := ⟨gb144, 2, none⟩) (Kd.Q_far (p := ⟨gb144, 1, none⟩) (Kd.Q_far (p := ⟨gb144, 0, none⟩) (Kd.Q_types HO_147000.out BK144.out (by decide)) (fun _ hk => hk.2) (.int .i64 0)) (fun _ hk => hk.2) (.int .i64 0)) (fun _ hk => hk.2) (.string (⟨#[]⟩ : ByteArray))) (fun _ hk => hk.1)))⟩; replace HO_148000 : Aside0 (Kd.Q (Kd.int .i64) 3 w124 w.heap.size (fun k_ => some k_ ≠ (.slice A118 y165.length c118 : Value).ownBlock) (.slice Ao73 x148000_2.length co73) x148000_2) := ⟨(by rw [hw]; exact (by (with_reducible repeat (first | apply Kd.Q_alloc | apply Kd.Q_drewN | apply Kd.Q_drew)); exact Kd.Q_mono (Kd.Q_far (p := ⟨gb144, 2, none⟩) (Kd.Q_far (p := ⟨gb144, 1, none⟩) (Kd.Q_far (p := ⟨gb144, 0, none⟩) (Kd.Q_types HO_148000.out BK144.out (by decide)) (fun _ hk => hk.2) (.int .i64 0)) (fun _ hk => hk.2) (.int .i64 0)) (fun _ hk => hk.2) (.string (⟨#[]⟩ : ByteArray))) (fun _ hk => hk.1)))⟩; replace BK144 : Aside0 (w124.heap[gb144]? = some (.cells #[.int .i64 0, .int .i64 0, .string (⟨#[]⟩ : ByteArray)] 23 (0, 0))) := bp BK144 hw; replace BK146 := bw BK146 hw; replace BK147 := bw BK147 hw; replace HB := bv hw; clear hw))
                 refine bodyPost_ret (results_ct rfl _ _ gb144 23 #[.int .i64 0, .int .i64 0, .string (⟨#[]⟩ : ByteArray)] (0, 0) _ rfl (by (with_reducible repeat first | apply bN | apply bD | apply bA); exact BK144.out) Tryd.underlying23 rfl (by kernel_rfl)) rfl ?_
                 exact ⟨by first | (simp only [ByteArray.size_extract, Nat.min_self]; rfl) | rfl | (simp [errW_none, errW_some] <;> rfl) | (simp [*, errW_none, errW_some] <;> rfl), by repeat (first | (with_reducible first | exact HB.out | apply pA | apply pN | apply pD | refine pS ?_ GE144.out | refine pS ?_ GE146.out | refine pS ?_ GE147.out) | exact HB.out)⟩
                ·
                 replace c120 := Bool.eq_false_iff.mpr c120
                 subst c120
                 have H1 : (if (wrap64 (x9_2 + (rd x147000_2 0))) < (-4611686018427387904) then (if (y165.length : Int) = 0 then (some (0, 0, (⟨#[]⟩ : ByteArray), 12)) else (value_Sum.l1 kj113 (wrap64 (x9_2 + (rd x147000_2 0))) y165 x148000_2)) else (value_Sum.l1 kj113 (wrap64 (x9_2 + (rd x147000_2 0))) y165 x148000_2)) = some (r1, r2, r3, r4) := by rw [if_neg (show ¬ (false = true) by decide)] at H; exact H
                 clear H; have H := H1; clear H1
                 by_cases c125 : (wrap64 (x9_2 + (rd x147000_2 0))) < (-4611686018427387904)
                 ·
                  rw [if_pos c125] at H
                  have c125b0 : decide ((wrap64 (x9_2 + (rd x147000_2 0))) < (-4611686018427387904)) = true := decide_eq_true c125; clear c125
                  by_cases c126 : (y165.length : Int) = 0
                  ·
                   rw [if_pos c126] at H
                   have c126b0 : ((y165.length : Int) == 0) = true := beq_iff_eq.mpr c126; have c126b1 : ((y165.length : Int) != 0) = false := bne_eq_false_iff_eq.mpr c126; clear c126
                   simp only [Option.some.injEq, Prod.mk.injEq] at H
                   obtain ⟨rfl, rfl, rfl, rfl⟩ := H
                   have hnb127 := NB146_144.out; have hnc127 := NB144_146.out; have hnb128 := NB146_147.out; have hnc128 := NB147_146.out; have hcz129_0 : wc.cell? ⟨gb146, 0, none⟩ = some (.slice A118 y165.length c118) := (blk_cell BK146.out 0).trans rfl; have hfz129_0 := blk_frozen BK146.out 0; have hnb130 := NB144_147.out; have hnc130 := NB147_144.out; have hcz131_0 : wc.cell? ⟨gb144, 0, none⟩ = some (.int .i64 x145000_2) := (blk_cell BK144.out 0).trans rfl; have hcz131_1 : wc.cell? ⟨gb144, 1, none⟩ = some (.int .i64 x145001_2) := (blk_cell BK144.out 1).trans rfl; have hcz131_2 : wc.cell? ⟨gb144, 2, none⟩ = some (.string x145002_2) := (blk_cell BK144.out 2).trans rfl; have hfz131_0 := blk_frozen BK144.out 0; have hfz131_1 := blk_frozen BK144.out 1; have hfz131_2 := blk_frozen BK144.out 2
                   go_wp2_with (first | ((with_reducible refine gate_store (t := 23) (p := 2) rfl ?_); refine store_event (t := 23) (p := 2) (v := ?vo_w132) (w1 := (((wc.setCell ⟨gb144, 0, none⟩ (.int .i64 0)).setCell ⟨gb144, 1, none⟩ (.int .i64 0)).setCell ⟨gb144, 2, none⟩ (.string (⟨#[]⟩ : ByteArray)))) ?hg ?ho ?hn ?hr ?_; (case ho => rfl); (case hg => rfl); (case hn => rfl); (case hr => first | (go_simp; done) | (go_simp; rfl)); intro w132 hw; replace HO_147000 : Aside0 (Kd.Q (Kd.int .i64) 3 w132 w.heap.size (fun k_ => some k_ ≠ (.slice Ao73 x148000_2.length co73 : Value).ownBlock) (.slice A118 y165.length c118) y165) := ⟨(by rw [hw]; exact (by (with_reducible repeat (first | apply Kd.Q_alloc | apply Kd.Q_drewN | apply Kd.Q_drew)); exact Kd.Q_mono (Kd.Q_far (p := ⟨gb144, 2, none⟩) (Kd.Q_far (p := ⟨gb144, 1, none⟩) (Kd.Q_far (p := ⟨gb144, 0, none⟩) (Kd.Q_types HO_147000.out BK144.out (by decide)) (fun _ hk => hk.2) (.int .i64 0)) (fun _ hk => hk.2) (.int .i64 0)) (fun _ hk => hk.2) (.string (⟨#[]⟩ : ByteArray))) (fun _ hk => hk.1)))⟩; replace HO_148000 : Aside0 (Kd.Q (Kd.int .i64) 3 w132 w.heap.size (fun k_ => some k_ ≠ (.slice A118 y165.length c118 : Value).ownBlock) (.slice Ao73 x148000_2.length co73) x148000_2) := ⟨(by rw [hw]; exact (by (with_reducible repeat (first | apply Kd.Q_alloc | apply Kd.Q_drewN | apply Kd.Q_drew)); exact Kd.Q_mono (Kd.Q_far (p := ⟨gb144, 2, none⟩) (Kd.Q_far (p := ⟨gb144, 1, none⟩) (Kd.Q_far (p := ⟨gb144, 0, none⟩) (Kd.Q_types HO_148000.out BK144.out (by decide)) (fun _ hk => hk.2) (.int .i64 0)) (fun _ hk => hk.2) (.int .i64 0)) (fun _ hk => hk.2) (.string (⟨#[]⟩ : ByteArray))) (fun _ hk => hk.1)))⟩; replace BK144 : Aside0 (w132.heap[gb144]? = some (.cells #[.int .i64 0, .int .i64 0, .string (⟨#[]⟩ : ByteArray)] 23 (0, 0))) := bp BK144 hw; replace BK146 := bw BK146 hw; replace BK147 := bw BK147 hw; replace HB := bv hw; clear hw))
                   refine bodyPost_ret (results_ct rfl _ _ gb144 23 #[.int .i64 0, .int .i64 0, .string (⟨#[]⟩ : ByteArray)] (0, 0) _ rfl (by (with_reducible repeat first | apply bN | apply bD | apply bA); exact BK144.out) Tryd.underlying23 rfl (by kernel_rfl)) rfl ?_
                   exact ⟨by first | (simp only [ByteArray.size_extract, Nat.min_self]; rfl) | rfl | (simp [errW_none, errW_some] <;> rfl) | (simp [*, errW_none, errW_some] <;> rfl), by repeat (first | (with_reducible first | exact HB.out | apply pA | apply pN | apply pD | refine pS ?_ GE144.out | refine pS ?_ GE146.out | refine pS ?_ GE147.out) | exact HB.out)⟩
                  ·
                   rw [if_neg c126] at H
                   have c126b0 : ((y165.length : Int) == 0) = false := beq_eq_false_iff_ne.mpr c126; have c126b1 : ((y165.length : Int) != 0) = true := bne_iff_ne.mpr c126
                   have c126b2 : ¬ (y165 = []) := fun h_ => c126 (by rw [h_]; rfl)
                   have H' := Aside0.mk H
                   clear H; have hnb133 := NB146_144.out; have hnc133 := NB144_146.out; have hnb134 := NB146_147.out; have hnc134 := NB147_146.out; have hcz135_0 : wc.cell? ⟨gb146, 0, none⟩ = some (.slice A118 y165.length c118) := (blk_cell BK146.out 0).trans rfl; have hfz135_0 := blk_frozen BK146.out 0
                   go_wp2
                   go_roundg kj113
                   case measure => have := HK1.out; have := HK2.out; have := HJ65.out; have := HJ113.out; omega
                   case rel => exact ⟨(wrap64 (x9_2 + (rd x147000_2 0))), (x145000_2), (x145001_2), (x145002_2), (y165), (x148000_2), (.slice A118 y165.length c118), (.slice Ao73 x148000_2.length co73), (by first | rfl | (simp; done) | (simp [*]; done)), H', ⟨by have := HK1.out; have := HK2.out; have := HJ65.out; have := HJ113.out; omega⟩, ⟨by (with_reducible repeat (first | apply Kd.Q_alloc | apply Kd.Q_drewN | apply Kd.Q_drew)); exact HO_147000.out⟩, ⟨by (with_reducible repeat (first | apply Kd.Q_alloc | apply Kd.Q_drewN | apply Kd.Q_drew)); exact HO_148000.out⟩, ⟨by (with_reducible repeat first | apply bN | apply bD | apply bA); exact BK144.out⟩, ⟨by (with_reducible repeat first | apply bN | apply bD | apply bA); exact BK146.out⟩, ⟨by (with_reducible repeat first | apply bN | apply bD | apply bA); exact BK147.out⟩, ⟨by repeat (first | (with_reducible first | exact HB.out | apply pA | apply pN | apply pD | refine pS ?_ GE144.out | refine pS ?_ GE146.out | refine pS ?_ GE147.out) | exact HB.out)⟩⟩
                 ·
                  rw [if_neg c125] at H
                  have c125b0 : decide ((wrap64 (x9_2 + (rd x147000_2 0))) < (-4611686018427387904)) = false := decide_eq_false c125; clear c125
                  have H' := Aside0.mk H
                  clear H
                  go_wp2
                  go_roundg kj113
                  case measure => have := HK1.out; have := HK2.out; have := HJ65.out; have := HJ113.out; omega
                  case rel => exact ⟨(wrap64 (x9_2 + (rd x147000_2 0))), (x145000_2), (x145001_2), (x145002_2), (y165), (x148000_2), (.slice A118 y165.length c118), (.slice Ao73 x148000_2.length co73), (by first | rfl | (simp; done) | (simp [*]; done)), H', ⟨by have := HK1.out; have := HK2.out; have := HJ65.out; have := HJ113.out; omega⟩, ⟨by (with_reducible repeat (first | apply Kd.Q_alloc | apply Kd.Q_drewN | apply Kd.Q_drew)); exact HO_147000.out⟩, ⟨by (with_reducible repeat (first | apply Kd.Q_alloc | apply Kd.Q_drewN | apply Kd.Q_drew)); exact HO_148000.out⟩, ⟨by (with_reducible repeat first | apply bN | apply bD | apply bA); exact BK144.out⟩, ⟨by (with_reducible repeat first | apply bN | apply bD | apply bA); exact BK146.out⟩, ⟨by (with_reducible repeat first | apply bN | apply bD | apply bA); exact BK147.out⟩, ⟨by repeat (first | (with_reducible first | exact HB.out | apply pA | apply pN | apply pD | refine pS ?_ GE144.out | refine pS ?_ GE146.out | refine pS ?_ GE147.out) | exact HB.out)⟩⟩
             ·
              rw [if_neg c113] at H
              exact absurd H (by simp)
            ·
             rw [if_neg c112] at H
             exact absurd H (by simp)
        ·
         rw [if_neg c65] at H
         have c65b0 : decide (0 < (wrap64 ((x147000_2.length : Int) + (x148000_2.length : Int)))) = false := decide_eq_false c65; clear c65; replace H := Option.bind_eq_some_iff.mp H
         obtain ⟨⟨t156, t157, t158, t159⟩, A1360, H⟩ := H
         replace H : (some (t156, t157, t158, t159)) = some (r1, r2, r3, r4) := H; have A136 := Aside0.mk A1360; clear A1360
         simp only [Option.some.injEq, Prod.mk.injEq] at H
         obtain ⟨rfl, rfl, rfl, rfl⟩ := H
         have hnb137 := NB146_144.out; have hnc137 := NB144_146.out; have hnb138 := NB146_147.out; have hnc138 := NB147_146.out; have hcz139_0 : wr.cell? ⟨gb146, 0, none⟩ = some (u147000) := (blk_cell BK146.out 0).trans rfl; have hfz139_0 := blk_frozen BK146.out 0
         obtain ⟨Ao140, co140, eo140, _⟩ := Kd.Q_slice HO_147000.out
         subst eo140
         have hnb141 := NB147_144.out; have hnc141 := NB144_147.out; have hcz142_0 : wr.cell? ⟨gb147, 0, none⟩ = some (u148000) := (blk_cell BK147.out 0).trans rfl; have hfz142_0 := blk_frozen BK147.out 0
         obtain ⟨Ao143, co143, eo143, _⟩ := Kd.Q_slice HO_148000.out
         subst eo143
         go_wp2_with (first | ((with_reducible refine gate_callee (f := 45) rfl ?_); refine gL (some 100) Tryd.func45 #[.int .i64 x9_2] ?_; (with_reducible refine (value_made.calls x9_2 t156 t157 t158 t159 _ A136.out).mono ?_); rintro e w144 ⟨rfl, hb⟩; refine ⟨_, rfl, ?_⟩; replace HO_147000 := Aside0.mk (Kd.Q_below (by (with_reducible repeat (first | apply Kd.Q_alloc | apply Kd.Q_drewN | apply Kd.Q_drew)); exact HO_147000.out) hb); replace HO_148000 := Aside0.mk (Kd.Q_below (by (with_reducible repeat (first | apply Kd.Q_alloc | apply Kd.Q_drewN | apply Kd.Q_drew)); exact HO_148000.out) hb); replace BK144 := bb BK144 hb; replace BK146 := bb BK146 hb; replace BK147 := bb BK147 hb; replace HB := bs hb; (try clear hb); (try clear hb2); (try clear hk); (try clear hi); have hcz145_0 : w144.cell? ⟨gb144, 0, none⟩ = some (.int .i64 x145000_2) := (blk_cell BK144.out 0).trans rfl; have hcz145_1 : w144.cell? ⟨gb144, 1, none⟩ = some (.int .i64 x145001_2) := (blk_cell BK144.out 1).trans rfl; have hcz145_2 : w144.cell? ⟨gb144, 2, none⟩ = some (.string x145002_2) := (blk_cell BK144.out 2).trans rfl; have hfz145_0 := blk_frozen BK144.out 0; have hfz145_1 := blk_frozen BK144.out 1; have hfz145_2 := blk_frozen BK144.out 2) | ((with_reducible refine gate_store (t := 23) (p := 2) rfl ?_); refine store_event (t := 23) (p := 2) (v := ?vo_w146) (w1 := (((w144.setCell ⟨gb144, 0, none⟩ (.int .i64 t156)).setCell ⟨gb144, 1, none⟩ (.int .i64 t157)).setCell ⟨gb144, 2, none⟩ (.string t158))) ?hg ?ho ?hn ?hr ?_; (case ho => rfl); (case hg => rfl); (case hn => rfl); (case hr => first | (go_simp; done) | (go_simp; rfl)); intro w146 hw; replace HO_147000 : Aside0 (Kd.Q (Kd.int .i64) 3 w146 w.heap.size (fun k_ => some k_ ≠ (.slice Ao143 x148000_2.length co143 : Value).ownBlock) (.slice Ao140 x147000_2.length co140) x147000_2) := ⟨(by rw [hw]; exact (by (with_reducible repeat (first | apply Kd.Q_alloc | apply Kd.Q_drewN | apply Kd.Q_drew)); exact Kd.Q_mono (Kd.Q_far (p := ⟨gb144, 2, none⟩) (Kd.Q_far (p := ⟨gb144, 1, none⟩) (Kd.Q_far (p := ⟨gb144, 0, none⟩) (Kd.Q_types HO_147000.out BK144.out (by decide)) (fun _ hk => hk.2) (.int .i64 t156)) (fun _ hk => hk.2) (.int .i64 t157)) (fun _ hk => hk.2) (.string t158)) (fun _ hk => hk.1)))⟩; replace HO_148000 : Aside0 (Kd.Q (Kd.int .i64) 3 w146 w.heap.size (fun k_ => some k_ ≠ (.slice Ao140 x147000_2.length co140 : Value).ownBlock) (.slice Ao143 x148000_2.length co143) x148000_2) := ⟨(by rw [hw]; exact (by (with_reducible repeat (first | apply Kd.Q_alloc | apply Kd.Q_drewN | apply Kd.Q_drew)); exact Kd.Q_mono (Kd.Q_far (p := ⟨gb144, 2, none⟩) (Kd.Q_far (p := ⟨gb144, 1, none⟩) (Kd.Q_far (p := ⟨gb144, 0, none⟩) (Kd.Q_types HO_148000.out BK144.out (by decide)) (fun _ hk => hk.2) (.int .i64 t156)) (fun _ hk => hk.2) (.int .i64 t157)) (fun _ hk => hk.2) (.string t158)) (fun _ hk => hk.1)))⟩; replace BK144 : Aside0 (w146.heap[gb144]? = some (.cells #[.int .i64 t156, .int .i64 t157, .string t158] 23 (0, 0))) := bp BK144 hw; replace BK146 := bw BK146 hw; replace BK147 := bw BK147 hw; replace HB := bv hw; clear hw))
         refine bodyPost_ret (results_ct rfl _ _ gb144 23 #[.int .i64 t156, .int .i64 t157, .string t158] (0, 0) _ rfl (by (with_reducible repeat first | apply bN | apply bD | apply bA); exact BK144.out) Tryd.underlying23 rfl (by kernel_rfl)) rfl ?_
         exact ⟨by first | (simp only [ByteArray.size_extract, Nat.min_self]; rfl) | rfl | (simp [errW_none, errW_some] <;> rfl) | (simp [*, errW_none, errW_some] <;> rfl), by repeat (first | (with_reducible first | exact HB.out | apply pA | apply pN | apply pD | refine pS ?_ GE144.out | refine pS ?_ GE146.out | refine pS ?_ GE147.out) | exact HB.out)⟩
 ·
  rw [if_neg c3] at H
  have c3b0 : (t145 == 0) = false := beq_eq_false_iff_ne.mpr c3; have c3b1 : (t145 != 0) = true := bne_iff_ne.mpr c3
  simp only [Option.some.injEq, Prod.mk.injEq] at H
  obtain ⟨rfl, rfl, rfl, rfl⟩ := H
  go_enter Tryd.func20, Tryd.ntmps20
  go_wp2_with (first | ((with_reducible refine gate_dst (N := 2) rfl ?_); (try (refine gate_guard (by rfl) ?_; dsimp only)); refine box_event ?hg (N := 2) ?hd (cs := #[.int .i64 0, .int .i64 0, .string (⟨#[]⟩ : ByteArray)]) (t := 23) ?hr ?_; (case hd => rfl); (case hg => rfl); (case hr => first | (go_simp; done) | (go_simp; rfl)); intro gb144 hg w147 hbox hb; have BK144 := Aside0.mk (hbox); have GW144 := bz hg; have GE144 := bz hg; replace HB := bs hb; clear hb hbox hg) | ((with_reducible refine gate_callee (f := 44) rfl ?_); refine gL (some 13) Tryd.func44 #[.int .i64 1, .slice A0 l0.length c0] ?_; (with_reducible refine (value_all.calls k 1 _ _ l0 t145 _ ?side1 ?side2 A2.out).mono ?_); (case side1 => repeat (first | exact (Kd.C_below HR0.out HB.out) | (with_reducible refine Kd.C_alloc ?_ _) | (with_reducible refine Kd.C_drewN ?_ _) | (with_reducible refine Kd.C_drew ?_))); (case side2 => exact HC0.out); rintro e w148 ⟨rfl, hb⟩; refine ⟨_, rfl, ?_⟩; replace BK144 := bb BK144 hb; replace HB := bs hb; (try clear hb); (try clear hb2); (try clear hk); (try clear hi); have hcz149_0 : w148.cell? ⟨gb144, 0, none⟩ = some (.int .i64 0) := (blk_cell BK144.out 0).trans rfl; have hcz149_1 : w148.cell? ⟨gb144, 1, none⟩ = some (.int .i64 0) := (blk_cell BK144.out 1).trans rfl; have hcz149_2 : w148.cell? ⟨gb144, 2, none⟩ = some (.string (⟨#[]⟩ : ByteArray)) := (blk_cell BK144.out 2).trans rfl; have hfz149_0 := blk_frozen BK144.out 0; have hfz149_1 := blk_frozen BK144.out 1; have hfz149_2 := blk_frozen BK144.out 2) | ((with_reducible refine gate_store (t := 23) (p := 2) rfl ?_); refine store_event (t := 23) (p := 2) (v := ?vo_w150) (w1 := (((w148.setCell ⟨gb144, 0, none⟩ (.int .i64 0)).setCell ⟨gb144, 1, none⟩ (.int .i64 0)).setCell ⟨gb144, 2, none⟩ (.string (⟨#[]⟩ : ByteArray)))) ?hg ?ho ?hn ?hr ?_; (case ho => rfl); (case hg => rfl); (case hn => rfl); (case hr => first | (go_simp; done) | (go_simp; rfl)); intro w150 hw; replace BK144 : Aside0 (w150.heap[gb144]? = some (.cells #[.int .i64 0, .int .i64 0, .string (⟨#[]⟩ : ByteArray)] 23 (0, 0))) := bp BK144 hw; replace HB := bv hw; clear hw))
  refine bodyPost_ret (results_ct rfl _ _ gb144 23 #[.int .i64 0, .int .i64 0, .string (⟨#[]⟩ : ByteArray)] (0, 0) _ rfl (by (with_reducible repeat first | apply bN | apply bD | apply bA); exact BK144.out) Tryd.underlying23 rfl (by kernel_rfl)) rfl ?_
  exact ⟨by first | (simp only [ByteArray.size_extract, Nat.min_self]; rfl) | rfl | (simp [errW_none, errW_some] <;> rfl) | (simp [*, errW_none, errW_some] <;> rfl), by repeat (first | (with_reducible first | exact HB.out | apply pA | apply pN | apply pD | refine pS ?_ GE144.out) | exact HB.out)⟩
end Go.Proofs.YteehcopkljiikaaDoor.PA
