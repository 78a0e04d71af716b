-- Laid by a program of ours (wip/gen/xprint.py). Not trusted: Lean checks it.
import Derived.Test.YtohknmlcleifpaaDoorX2
import Derived.Test.YtohknmlcleifpaaDoorPAx0
import Derived.Test.YtohknmlcleifpaaDoorPAx3
import Derived.Test.YtohknmlcleifpaaDoorPAx6
import Derived.Test.YtohknmlcleifpaaDoorPAx8
import Derived.Test.YtohknmlcleifpaaDoorPAx10
namespace Go.Proofs.YtohknmlcleifpaaDoor.PA
open Go.RowKit Go.Proofs.YtohknmlcleifpaaDoorW.PrintWords Go.Proofs.YtohknmlcleifpaaDoorW.PrintLast Go.Proofs.YtohknmlcleifpaaDoorW.PrintMore Go.Proofs.YtohknmlcleifpaaDoorX
attribute [local go_sem] max2_int min2_int max_two min_two max_three min_three max_four min_four   -- for this text's walks alone
set_option linter.unusedVariables false
set_option linter.unusedSimpArgs false

theorem info9 : (Tryd.prog.info? 9).map (fun i => (i.zero, i.size, i.bytes)) = some (some (.string ⟨#[]⟩), 1, 16) := by kernel_rfl
theorem info22 : (Tryd.prog.info? 22).map (fun i => (i.zero, i.size, i.bytes)) = some (some (.slice none 0 0), 1, 24) := by kernel_rfl
/-! ### unisonlaw02_KeySorted: function 9 -/
mutual
def unisonlaw02_KeySorted.l0 : Nat → List (List (S25)) → Bool → List ByteArray → List (List (S25)) → Int → Option (Bool)
 | 0, _, _, _, _, _ => none
 | k + 1, x0, x3, x4, x5, x6 => if x6 < (x0.length : Int) then (if 0 ≤ x6 then (if ((rd_L4 x0 x6).length : Int) > 8 then (unisonlaw02_KeySorted.l0 k x0 x3 x4 x5 (wrap64 (x6 + 1))) else ((key_Encode.f k (rd_L4 x0 x6)).bind fun bt386 => ((unisonref02_Encode.f k (rd_L4 x0 x6)).bind fun bt389 => (if bt386.2 = bt389.2 then (if bt386.2 = 0 then (if x4.length < 8796093022208 then ((some (x4 ++ [bt386.1] : List ByteArray)).bind fun y391 => (if x5.length < 5864062014805 then (unisonlaw02_KeySorted.l1 k x0 x3 y391 (x5 ++ [rd_L4 x0 x6]) x6 bt386.1 (wrap64 ((y391.length : Int) - 1))) else (none))) else (none)) else (unisonlaw02_KeySorted.l0 k x0 x3 x4 x5 (wrap64 (x6 + 1)))) else (none))))) else (none)) else (unisonlaw02_KeySorted.l2 k x3 x4 x5 1)
def unisonlaw02_KeySorted.l1 : Nat → List (List (S25)) → Bool → List ByteArray → List (List (S25)) → Int → ByteArray → Int → Option (Bool)
 | 0, _, _, _, _, _, _, _ => none
 | k + 1, x0, x3, x4, x5, x6, x7, x11 => if x11 > 0 then (if 0 ≤ (wrap64 (x11 - 1)) then (if (wrap64 (x11 - 1)) < (x4.length : Int) then (if 0 ≤ x11 then (if x11 < (x4.length : Int) then (if (Op.bytesLess ((rdOf ByteArray.empty x4 x11).toList) ((rdOf ByteArray.empty x4 (wrap64 (x11 - 1))).toList)) = true then (if (wrap64 (x11 - 1)) < (x5.length : Int) then (if x11 < (x5.length : Int) then (if 0 ≤ x6 then (if x6 < (x0.length : Int) then (unisonlaw02_KeySorted.l1 k x0 x3 ((x4.set (x11 : Int).toNat (rdOf ByteArray.empty x4 (wrap64 (x11 - 1)))).set ((wrap64 (x11 - 1)) : Int).toNat x7) ((x5.set (x11 : Int).toNat (rd_L4 x5 (wrap64 (x11 - 1)))).set ((wrap64 (x11 - 1)) : Int).toNat (rd_L4 x0 x6)) x6 x7 (wrap64 (x11 - 1))) else (none)) else (none)) else (none)) else (none)) else (unisonlaw02_KeySorted.l0 k x0 x3 x4 x5 (wrap64 (x6 + 1)))) else (none)) else (none)) else (none)) else (none)) else (unisonlaw02_KeySorted.l0 k x0 x3 x4 x5 (wrap64 (x6 + 1)))
def unisonlaw02_KeySorted.l2 : Nat → Bool → List ByteArray → List (List (S25)) → Int → Option (Bool)
 | 0, _, _, _, _ => none
 | k + 1, x3, x4, x5, x12 => if x12 < (x5.length : Int) then (if 0 ≤ (wrap64 (x12 - 1)) then (if (wrap64 (x12 - 1)) < (x5.length : Int) then (if 0 ≤ x12 then ((key_Order.f k (rd_L4 x5 (wrap64 (x12 - 1))) (rd_L4 x5 x12)).bind fun t409 => (if t409 > 0 then (none) else (if (wrap64 (x12 - 1)) < (x4.length : Int) then (if x12 < (x4.length : Int) then (if ((t409 == 0) != ((rdOf ByteArray.empty x4 (wrap64 (x12 - 1))).toList == (rdOf ByteArray.empty x4 x12).toList)) = true then (none) else (unisonlaw02_KeySorted.l2 k x3 x4 x5 (wrap64 (x12 + 1)))) else (none)) else (none)))) else (none)) else (none)) else (none)) else (some x3)
end
def unisonlaw02_KeySorted.f (k : Nat) (l0 : List (List (S25))) : Option (Bool) := if (l0.length : Int) > 2147483647 then (some true) else ((unisonlaw02_awake.f k).bind fun t383 => (unisonlaw02_KeySorted.l0 k l0 t383 ([] : List ByteArray) ([] : List (List (S25))) 0))
theorem unisonlaw02_KeySorted.mono_l : ∀ k, (∀ y0 y1 y2 y3 y4, LeO (unisonlaw02_KeySorted.l0 k y0 y1 y2 y3 y4) (unisonlaw02_KeySorted.l0 (k + 1) y0 y1 y2 y3 y4)) ∧ (∀ y0 y1 y2 y3 y4 y5 y6, LeO (unisonlaw02_KeySorted.l1 k y0 y1 y2 y3 y4 y5 y6) (unisonlaw02_KeySorted.l1 (k + 1) y0 y1 y2 y3 y4 y5 y6)) ∧ (∀ y0 y1 y2 y3, LeO (unisonlaw02_KeySorted.l2 k y0 y1 y2 y3) (unisonlaw02_KeySorted.l2 (k + 1) y0 y1 y2 y3))
 | 0 => ⟨fun _ _ _ _ _ r h => by simp [unisonlaw02_KeySorted.l0] at h, fun _ _ _ _ _ _ _ r h => by simp [unisonlaw02_KeySorted.l1] at h, fun _ _ _ _ r h => by simp [unisonlaw02_KeySorted.l2] at h⟩
 | k + 1 => by
  obtain ⟨ih0, ih1, ih2⟩ := unisonlaw02_KeySorted.mono_l k
  refine ⟨?_, ?_, ?_⟩
  ·
   intro y0 y1 y2 y3 y4
   unfold unisonlaw02_KeySorted.l0
   repeat' first
   | (with_reducible exact ih0 _ _ _ _ _)
   | (with_reducible exact ih1 _ _ _ _ _ _ _)
   | (with_reducible exact ih2 _ _ _ _)
   | (with_reducible exact key_Encode.mono _ _)
   | (with_reducible exact key_Order.mono _ _ _)
   | (with_reducible exact unisonlaw02_awake.mono _)
   | (with_reducible exact unisonref02_Encode.mono _ _)
   | (with_reducible exact LeO.refl _)
   | (with_reducible exact LeO.none _)
   | (with_reducible refine LeO.ite ?_ ?_)
   | (with_reducible refine LeO.bind ?_ (fun _ => ?_))
   | exact ih0 _ _ _ _ _
   | exact ih1 _ _ _ _ _ _ _
   | exact ih2 _ _ _ _
   | exact key_Encode.mono _ _
   | exact key_Order.mono _ _ _
   | exact unisonlaw02_awake.mono _
   | exact unisonref02_Encode.mono _ _
   | exact LeO.none _
   | refine LeO.ite ?_ ?_
   | refine LeO.bind ?_ (fun _ => ?_)
  ·
   intro y0 y1 y2 y3 y4 y5 y6
   unfold unisonlaw02_KeySorted.l1
   repeat' first
   | (with_reducible exact ih0 _ _ _ _ _)
   | (with_reducible exact ih1 _ _ _ _ _ _ _)
   | (with_reducible exact ih2 _ _ _ _)
   | (with_reducible exact key_Encode.mono _ _)
   | (with_reducible exact key_Order.mono _ _ _)
   | (with_reducible exact unisonlaw02_awake.mono _)
   | (with_reducible exact unisonref02_Encode.mono _ _)
   | (with_reducible exact LeO.refl _)
   | (with_reducible exact LeO.none _)
   | (with_reducible refine LeO.ite ?_ ?_)
   | (with_reducible refine LeO.bind ?_ (fun _ => ?_))
   | exact ih0 _ _ _ _ _
   | exact ih1 _ _ _ _ _ _ _
   | exact ih2 _ _ _ _
   | exact key_Encode.mono _ _
   | exact key_Order.mono _ _ _
   | exact unisonlaw02_awake.mono _
   | exact unisonref02_Encode.mono _ _
   | exact LeO.none _
   | refine LeO.ite ?_ ?_
   | refine LeO.bind ?_ (fun _ => ?_)
  ·
   intro y0 y1 y2 y3
   unfold unisonlaw02_KeySorted.l2
   repeat' first
   | (with_reducible exact ih0 _ _ _ _ _)
   | (with_reducible exact ih1 _ _ _ _ _ _ _)
   | (with_reducible exact ih2 _ _ _ _)
   | (with_reducible exact key_Encode.mono _ _)
   | (with_reducible exact key_Order.mono _ _ _)
   | (with_reducible exact unisonlaw02_awake.mono _)
   | (with_reducible exact unisonref02_Encode.mono _ _)
   | (with_reducible exact LeO.refl _)
   | (with_reducible exact LeO.none _)
   | (with_reducible refine LeO.ite ?_ ?_)
   | (with_reducible refine LeO.bind ?_ (fun _ => ?_))
   | exact ih0 _ _ _ _ _
   | exact ih1 _ _ _ _ _ _ _
   | exact ih2 _ _ _ _
   | exact key_Encode.mono _ _
   | exact key_Order.mono _ _ _
   | exact unisonlaw02_awake.mono _
   | exact unisonref02_Encode.mono _ _
   | exact LeO.none _
   | refine LeO.ite ?_ ?_
   | refine LeO.bind ?_ (fun _ => ?_)
theorem unisonlaw02_KeySorted.mono : ∀ a0 k, LeO (unisonlaw02_KeySorted.f k a0) (unisonlaw02_KeySorted.f (k + 1) a0) := by
 intro a0 k
 obtain ⟨ih0, ih1, ih2⟩ := unisonlaw02_KeySorted.mono_l k
 unfold unisonlaw02_KeySorted.f
 repeat' first
   | (with_reducible exact ih0 _ _ _ _ _)
   | (with_reducible exact ih1 _ _ _ _ _ _ _)
   | (with_reducible exact ih2 _ _ _ _)
   | (with_reducible exact key_Encode.mono _ _)
   | (with_reducible exact key_Order.mono _ _ _)
   | (with_reducible exact unisonlaw02_awake.mono _)
   | (with_reducible exact unisonref02_Encode.mono _ _)
   | (with_reducible exact LeO.refl _)
   | (with_reducible exact LeO.none _)
   | (with_reducible refine LeO.ite ?_ ?_)
   | (with_reducible refine LeO.bind ?_ (fun _ => ?_))
   | exact ih0 _ _ _ _ _
   | exact ih1 _ _ _ _ _ _ _
   | exact ih2 _ _ _ _
   | exact key_Encode.mono _ _
   | exact key_Order.mono _ _ _
   | exact unisonlaw02_awake.mono _
   | exact unisonref02_Encode.mono _ _
   | exact LeO.none _
   | refine LeO.ite ?_ ?_
   | refine LeO.bind ?_ (fun _ => ?_)
def unisonlaw02_KeySorted.T18 : Bool × List (List Nat × List Nat) := (true, [([], []), ([0], [0]), ([1], [1]), ([2], [2]), ([2], [2]), ([4, 2], [2, 4]), ([3, 5, 2], [2, 3, 5]), ([6, 2], [2, 6]), ([2], [2]), ([2], [2]), ([8, 9, 2], [2, 8, 9]), ([10, 2], [2, 10]), ([7, 11, 2], [2, 7, 11]), ([2, 12], [2, 12])])
def unisonlaw02_KeySorted.B18 : List Nat := [0, 1, 3, 7, 7, 23, 63, 127, 7, 7, 775, 1799, 4095, 8191]
theorem unisonlaw02_KeySorted.tab18 : rtab .any (opsOf Tryd.f9 18) = unisonlaw02_KeySorted.T18 := by kernel_rfl
theorem unisonlaw02_KeySorted.bits18 : waitsOk unisonlaw02_KeySorted.T18.2 unisonlaw02_KeySorted.B18 = true := by kernel_rfl
def unisonlaw02_KeySorted.T27 : Bool × List (List Nat × List Nat) := (true, [([], []), ([], []), ([1], [1]), ([0, 2], [0, 2]), ([3], [3]), ([], []), ([], []), ([5, 6], [5, 6]), ([7], [7]), ([4, 8], [4, 8]), ([9, 9, 0, 1, 2, 3, 4, 5, 6, 7, 8, 9], [9])])
def unisonlaw02_KeySorted.B27 : List Nat := [0, 0, 2, 7, 15, 0, 0, 96, 224, 511, 1023]
theorem unisonlaw02_KeySorted.tab27 : rtab .any (opsOf Tryd.f9 27) = unisonlaw02_KeySorted.T27 := by kernel_rfl
theorem unisonlaw02_KeySorted.bits27 : waitsOk unisonlaw02_KeySorted.T27.2 unisonlaw02_KeySorted.B27 = true := by kernel_rfl
def unisonlaw02_KeySorted.T28 : Bool × List (List Nat × List Nat) := (true, [([], []), ([0], [0]), ([1], [1]), ([2], [2]), ([3, 2], [2, 3]), ([2], [2]), ([2], [2]), ([6, 2], [2, 6]), ([5, 7, 2], [2, 5, 7]), ([8, 2], [2, 8]), ([2], [2]), ([2], [2]), ([10, 11, 2], [2, 10, 11]), ([12, 2], [2, 12]), ([9, 13, 2], [2, 9, 13]), ([4, 14, 2], [2, 4, 14]), ([2, 15], [2, 15])])
def unisonlaw02_KeySorted.B28 : List Nat := [0, 1, 3, 7, 15, 7, 7, 71, 231, 487, 7, 7, 3079, 7175, 16359, 32767, 65535]
theorem unisonlaw02_KeySorted.tab28 : rtab .any (opsOf Tryd.f9 28) = unisonlaw02_KeySorted.T28 := by kernel_rfl
theorem unisonlaw02_KeySorted.bits28 : waitsOk unisonlaw02_KeySorted.T28.2 unisonlaw02_KeySorted.B28 = true := by kernel_rfl
set_option maxHeartbeats 8000000 in
set_option maxRecDepth 100000 in
theorem unisonlaw02_KeySorted.calls (k : Nat) (P0_ : Nat → Prop) (A0 : Option Addr) (c0 : Nat) (l0 : List (List (S25))) (r : Bool) (w : World) (hs0 : Kd.V (Kd.slice 25 k25) 22 w w.heap.size (fun k_ => P0_ k_) (.slice A0 l0.length c0) l0) (h : unisonlaw02_KeySorted.f k l0 = some r) :
  Calls Tryd.prog 9 #[.slice A0 l0.length c0] w fun e w' => e = .returned (.bool r) ∧ Below w.heap.size w w' := by
 have HO0 := Aside0.mk (show Kd.V (Kd.slice 25 k25) 22 w w.heap.size (fun k_ => (P0_ k_ ∨ w.heap.size ≤ k_)) (.slice A0 l0.length c0) l0 from Kd.V_mono hs0 (fun k_ hk => .inl hk))
 have HB := Aside0.mk (Below.refl w.heap.size w)
 have H : (if (l0.length : Int) > 2147483647 then (some true) else ((unisonlaw02_awake.f k).bind fun t383 => (unisonlaw02_KeySorted.l0 k l0 t383 ([] : List ByteArray) ([] : List (List (S25))) 0))) = some r := h
 clear h
 by_cases c2 : (l0.length : Int) > 2147483647
 ·
  rw [if_pos c2] at H
  have c2b0 : decide (2147483647 < (l0.length : Int)) = true := decide_eq_true c2
  have c2b1 : decide (2147483647 < l0.length) = true := decide_eq_true (by omega)
  clear c2
  obtain rfl := Option.some.inj H
  go_enter Tryd.func9, Tryd.ntmps9
  go_wp2
  go_ret
  exact ⟨by first | (simp only [ByteArray.size_extract, Nat.min_self]; rfl) | rfl | (simp [errW_none, errW_some] <;> rfl) | (simp [*, errW_none, errW_some] <;> rfl), by repeat (first | (with_reducible first | exact HB.out | apply below_alloc | apply pw_below_drewN | apply below_drew1) | exact HB.out)⟩
 ·
  rw [if_neg c2] at H
  have c2b0 : decide (2147483647 < (l0.length : Int)) = false := decide_eq_false c2
  have c2b1 : decide (2147483647 < l0.length) = false := decide_eq_false (by omega)
  clear c2
  replace H := Option.bind_eq_some_iff.mp H
  obtain ⟨t383, A30, H⟩ := H
  replace H : (unisonlaw02_KeySorted.l0 k l0 t383 ([] : List ByteArray) ([] : List (List (S25))) 0) = some r := H
  have A3 := Aside0.mk A30
  clear A30
  have H' := Aside0.mk H
  clear H
  go_enter Tryd.func9, Tryd.ntmps9
  go_wp2_with (first | ((with_reducible refine gate_callee (f := 10) rfl ?_); refine goesL_ (some 17) rfl rfl Tryd.func10 (by kernel_rfl) rfl #[] rfl (by (try simp only [List.map_toArray, List.map_cons, List.map_nil]); first | done | rfl | (simp only [List.length_drop, List.length_take]; rfl)) ?_; (with_reducible refine (unisonlaw02_awake.calls k  t383 _ A3.out).mono ?_); rintro e w4 ⟨rfl, hb⟩; refine ⟨_, rfl, ?_⟩; have n0_ := Aside0.mk (Kd.V_below (by (with_reducible repeat (first | apply Kd.V_alloc | apply Kd.V_drewN | apply Kd.V_drew)); exact HO0.out) hb); have n1_ := Aside0.mk (below_step (by repeat (first | (with_reducible first | exact HB.out | apply below_alloc | apply pw_below_drewN | apply below_drew1) | exact HB.out)) hb); clear HO0; clear HB; have HO0 := n0_; have HB := n1_; clear n0_ n1_; (try clear hb); (try clear hb2); (try clear hk); (try clear hi)))
  go_loopg [4, 5, 6] k (fun kq v4 v5 v6 w' => ∃ (x0_1 : List (List (S25))) (x4_1 : List ByteArray) (x5_1 : List (List (S25))) (x6_1 : Int), v6 = .int .i64 x6_1 ∧ Aside0 (unisonlaw02_KeySorted.l0 kq x0_1 t383 x4_1 x5_1 x6_1 = some r) ∧ Aside0 (kq ≤ k) ∧ Aside0 (Kd.V (Kd.slice 25 k25) 22 w' w.heap.size (fun k_ => (P0_ k_ ∨ w.heap.size ≤ k_) ∧ some k_ ≠ (v4 : Value).ownBlock ∧ some k_ ≠ (v5 : Value).ownBlock) (.slice A0 l0.length c0) x0_1) ∧ Aside0 (Kd.R Kd.string 9 w' w.heap.size (fun k_ => (w.heap.size ≤ k_)) v4 x4_1) ∧ Aside0 (Kd.N (Kd.slice 25 k25) 22 w' w.heap.size (fun k_ => (P0_ k_ ∨ w.heap.size ≤ k_) ∧ some k_ ≠ (v4 : Value).ownBlock) v5 x5_1) ∧ Aside0 (Below w.heap.size w w'))
  case atStart => exact ⟨(l0), (([] : List ByteArray)), (([] : List (List (S25)))), (0), (by first | rfl | (simp; done) | (simp [*]; done)), H', ⟨Nat.le_refl _⟩, ⟨by (with_reducible repeat (first | apply Kd.V_alloc | apply Kd.V_drewN | apply Kd.V_drew)); exact Kd.V_mono HO0.out (fun _ hk => ⟨hk, ⟨(by simp [Value.ownBlock]), (by simp [Value.ownBlock])⟩⟩)⟩, ⟨by first | exact Kd.R_nil _ _ _ _ _ | exact Kd.N_nil _ _ _ _ _ | exact Kd.V_nil _ _ _ _ _ | exact Kd.Q_nil _ _ _ _ _ | exact Kd.S_nil _ _ _ _ _⟩, ⟨by first | exact Kd.S_nil _ _ _ _ _ | exact Kd.N_nil _ _ _ _ _ | exact Kd.V_nil _ _ _ _ _ | exact Kd.Q_nil _ _ _ _ _ | exact Kd.R_nil _ _ _ _ _⟩, ⟨by repeat (first | (with_reducible first | exact HB.out | apply below_alloc | apply pw_below_drewN | apply below_drew1) | exact HB.out)⟩⟩
  case round =>
   clear H'
   try clear c1
   try clear c2
   try clear c2b0
   try clear c2b1
   try clear p2
   obtain ⟨x0_1, x4_1, x5_1, x6_1, rfl, HA, HK1, HO_0, HO_4, HO_5, HB⟩ := hrel
   have hl0_1 := (Kd.V_reads' HO_0.out).1
   rw [hl0_1] at HO_0
   (try simp only [hl0_1])
   (try simp only [hl0_1] at HO_4)
   (try simp only [hl0_1] at HO_5)
   cases gk with
   | zero => exact absurd HA.out (by simp [unisonlaw02_KeySorted.l0])
   | succ k1 =>
    have H := HA.out
    clear HA
    simp only [unisonlaw02_KeySorted.l0] at H
    by_cases c5 : x6_1 < (x0_1.length : Int)
    ·
     rw [if_pos c5] at H
     have c5b0 : decide (x6_1 < (x0_1.length : Int)) = true := decide_eq_true c5
     clear c5
     by_cases c6 : 0 ≤ x6_1
     ·
      rw [if_pos c6] at H
      have c6b0 : decide (0 ≤ x6_1) = true := decide_eq_true c6
      clear c6
      by_cases c7 : ((rd_L4 x0_1 x6_1).length : Int) > 8
      ·
       rw [if_pos c7] at H
       have c7b0 : decide (8 < ((rd_L4 x0_1 x6_1).length : Int)) = true := decide_eq_true c7
       have c7b1 : decide (8 < (rd_L4 x0_1 x6_1).length) = true := decide_eq_true (by omega)
       clear c7
       have H' := Aside0.mk H
       clear H
       have p384 : 0 ≤ (x6_1 : Int) := of_decide_eq_true (by first | (with_reducible assumption) | assumption)
       have q384 : x6_1 < (x0_1.length : Int) := of_decide_eq_true (by first | (with_reducible assumption) | assumption)
       obtain ⟨ad384, A384_0, c384_0, e384, hx384_0, hl384_0, hi384_0⟩ := at_L4 (Kd.V_reads' HO_0.out).2.2 x6_1 p384 q384
       cases e384
       obtain ⟨ce384, hce384, hMe384, hcc384⟩ := Kd.V_get HO_0.out [] x6_1 p384 (by first | exact q384 | exact of_decide_eq_true (by first | (with_reducible assumption) | assumption) | (have e_ := (Kd.V_reads' HO_0.out).1; omega))
       obtain ⟨ua384_0, uc384_0, rfl, ul384_0, ge384_0⟩ := Kd.FK_slice_open hMe384
       have hv384_0 := hcc384 0 _ rfl
       rw [Nat.add_zero, show ((Kd.slice 25 k25)).sz = 1 from rfl, Nat.mul_one] at hv384_0
       replace hv384_0 := Option.some.inj (hv384_0.symm.trans hx384_0)
       injection hv384_0 with hva_ hvn_ hvc_
       rw [hva_] at ge384_0
       rw [hvc_] at ul384_0
       have HL384_0 := Aside0.mk (show Kd.V k25 25 _ w.heap.size _ _ (rd_L4 x0_1 x6_1) from Kd.V_mk ul384_0 ge384_0)
       clear hva_ hvn_ hvc_ ge384_0 ul384_0
       clear hcc384 hce384
       have HR384_0 := Aside0.mk hi384_0
       have HC384_0 := Aside0.mk hl384_0
       clear hi384_0 hl384_0
       replace p384 := eq_true p384
       replace q384 := eq_true q384
       go_wp2
       (try simp only [← hl0_1])
       go_roundg k1
       case measure => have := HK1.out; omega
       case rel => exact ⟨(x0_1), (x4_1), (x5_1), (wrap64 (x6_1 + 1)), (by first | rfl | (simp; done) | (simp [*]; done)), H', ⟨by have := HK1.out; omega⟩, ⟨by (try simp only [hl0_1]); (with_reducible repeat (first | apply Kd.V_alloc | apply Kd.V_drewN | apply Kd.V_drew)); exact HO_0.out⟩, ⟨by (try simp only [hl0_1]); (with_reducible repeat (first | apply Kd.R_alloc | apply Kd.R_drewN | apply Kd.R_drew)); exact HO_4.out⟩, ⟨by (try simp only [hl0_1]); (with_reducible repeat (first | apply Kd.N_alloc | apply Kd.N_drewN | apply Kd.N_drew)); exact HO_5.out⟩, ⟨by repeat (first | (with_reducible first | exact HB.out | apply below_alloc | apply pw_below_drewN | apply below_drew1) | exact HB.out)⟩⟩
      ·
       rw [if_neg c7] at H
       have c7b0 : decide (8 < ((rd_L4 x0_1 x6_1).length : Int)) = false := decide_eq_false c7
       have c7b1 : decide (8 < (rd_L4 x0_1 x6_1).length) = false := decide_eq_false (by omega)
       clear c7
       replace H := Option.bind_eq_some_iff.mp H
       obtain ⟨⟨t386, t387⟩, A80, H⟩ := H
       replace H : ((unisonref02_Encode.f k1 (rd_L4 x0_1 x6_1)).bind fun bt389 => (if t387 = bt389.2 then (if t387 = 0 then (if x4_1.length < 8796093022208 then ((some (x4_1 ++ [t386] : List ByteArray)).bind fun y391 => (if x5_1.length < 5864062014805 then (unisonlaw02_KeySorted.l1 k1 x0_1 t383 y391 (x5_1 ++ [rd_L4 x0_1 x6_1]) x6_1 t386 (wrap64 ((y391.length : Int) - 1))) else (none))) else (none)) else (unisonlaw02_KeySorted.l0 k1 x0_1 t383 x4_1 x5_1 (wrap64 (x6_1 + 1)))) else (none))) = some r := H
       have A8 := Aside0.mk A80
       clear A80
       replace H := Option.bind_eq_some_iff.mp H
       obtain ⟨⟨t389, t390⟩, A90, H⟩ := H
       replace H : (if t387 = t390 then (if t387 = 0 then (if x4_1.length < 8796093022208 then ((some (x4_1 ++ [t386] : List ByteArray)).bind fun y391 => (if x5_1.length < 5864062014805 then (unisonlaw02_KeySorted.l1 k1 x0_1 t383 y391 (x5_1 ++ [rd_L4 x0_1 x6_1]) x6_1 t386 (wrap64 ((y391.length : Int) - 1))) else (none))) else (none)) else (unisonlaw02_KeySorted.l0 k1 x0_1 t383 x4_1 x5_1 (wrap64 (x6_1 + 1)))) else (none)) = some r := H
       have A9 := Aside0.mk A90
       clear A90
       by_cases c10 : t387 = t390
       ·
        rw [if_pos c10] at H
        have c10b0 : (t387 == t390) = true := beq_iff_eq.mpr c10
        have c10b1 : (t387 != t390) = false := bne_eq_false_iff_eq.mpr c10
        clear c10
        by_cases c11 : t387 = 0
        ·
         rw [if_pos c11] at H
         have c11b0 : (t387 == 0) = true := beq_iff_eq.mpr c11
         have c11b1 : (t387 != 0) = false := bne_eq_false_iff_eq.mpr c11
         clear c11
         by_cases c12 : x4_1.length < 8796093022208
         ·
          rw [if_pos c12] at H
          have LMc12 := Aside0.mk c12
          clear c12
          obtain ⟨y391, hy391⟩ : ∃ y_ : List ByteArray, y_ = (x4_1 ++ [t386]) := ⟨_, rfl⟩
          replace H : (if x5_1.length < 5864062014805 then (unisonlaw02_KeySorted.l1 k1 x0_1 t383 y391 (x5_1 ++ [rd_L4 x0_1 x6_1]) x6_1 t386 (wrap64 ((y391.length : Int) - 1))) else (none)) = some r := by first | (rw [hy391]; with_reducible exact H) | (have H2_ := (Option.bind_some _ _).symm.trans H; rw [hy391]; with_reducible exact H2_) | (have H2_ := (Option.bind_some _ _).symm.trans H; with_reducible exact H2_) | with_reducible exact H | (rw [hy391]; exact H) | exact H
          have Ny391 := Aside0.mk hy391
          clear hy391
          by_cases c13 : x5_1.length < 5864062014805
          ·
           rw [if_pos c13] at H
           have LMc13 := Aside0.mk c13
           clear c13
           obtain ⟨y395, hy395⟩ : ∃ y_ : List (List (S25)), y_ = (x5_1 ++ [rd_L4 x0_1 x6_1]) := ⟨_, rfl⟩
           replace H : (unisonlaw02_KeySorted.l1 k1 x0_1 t383 y391 y395 x6_1 t386 (wrap64 ((y391.length : Int) - 1))) = some r := by first | (rw [hy395]; with_reducible exact H) | (have H2_ := (Option.bind_some _ _).symm.trans H; rw [hy395]; with_reducible exact H2_) | (have H2_ := (Option.bind_some _ _).symm.trans H; with_reducible exact H2_) | with_reducible exact H | (rw [hy395]; exact H) | exact H
           have Ny395 := Aside0.mk hy395
           clear hy395
           have H' := Aside0.mk H
           clear H
           have p384 : 0 ≤ (x6_1 : Int) := of_decide_eq_true (by first | (with_reducible assumption) | assumption)
           have q384 : x6_1 < (x0_1.length : Int) := of_decide_eq_true (by first | (with_reducible assumption) | assumption)
           obtain ⟨ad384, A384_0, c384_0, e384, hx384_0, hl384_0, hi384_0⟩ := at_L4 (Kd.V_reads' HO_0.out).2.2 x6_1 p384 q384
           cases e384
           obtain ⟨ce384, hce384, hMe384, hcc384⟩ := Kd.V_get HO_0.out [] x6_1 p384 (by first | exact q384 | exact of_decide_eq_true (by first | (with_reducible assumption) | assumption) | (have e_ := (Kd.V_reads' HO_0.out).1; omega))
           obtain ⟨ua384_0, uc384_0, rfl, ul384_0, ge384_0⟩ := Kd.FK_slice_open hMe384
           have hv384_0 := hcc384 0 _ rfl
           rw [Nat.add_zero, show ((Kd.slice 25 k25)).sz = 1 from rfl, Nat.mul_one] at hv384_0
           replace hv384_0 := Option.some.inj (hv384_0.symm.trans hx384_0)
           injection hv384_0 with hva_ hvn_ hvc_
           rw [hva_] at ge384_0
           rw [hvc_] at ul384_0
           have HL384_0 := Aside0.mk (show Kd.V k25 25 _ w.heap.size _ _ (rd_L4 x0_1 x6_1) from Kd.V_mk ul384_0 ge384_0)
           clear hva_ hvn_ hvc_ ge384_0 ul384_0
           clear hcc384 hce384
           have HR384_0 := Aside0.mk hi384_0
           have HC384_0 := Aside0.mk hl384_0
           clear hi384_0 hl384_0
           replace p384 := eq_true p384
           replace q384 := eq_true q384
           have p385 : 0 ≤ (x6_1 : Int) := of_decide_eq_true (by first | (with_reducible assumption) | assumption)
           have q385 : x6_1 < (x0_1.length : Int) := of_decide_eq_true (by first | (with_reducible assumption) | assumption)
           obtain ⟨ad385, A385_0, c385_0, e385, hx385_0, hl385_0, hi385_0⟩ := at_L4 (Kd.V_reads' HO_0.out).2.2 x6_1 p385 q385
           obtain rfl : ad384 = ad385 := (by injection e385)
           obtain ⟨ce385, hce385, hMe385, hcc385⟩ := Kd.V_get HO_0.out [] x6_1 p385 (by first | exact q385 | exact of_decide_eq_true (by first | (with_reducible assumption) | assumption) | (have e_ := (Kd.V_reads' HO_0.out).1; omega))
           obtain ⟨ua385_0, uc385_0, rfl, ul385_0, ge385_0⟩ := Kd.FK_slice_open hMe385
           have hv385_0 := hcc385 0 _ rfl
           rw [Nat.add_zero, show ((Kd.slice 25 k25)).sz = 1 from rfl, Nat.mul_one] at hv385_0
           replace hv385_0 := Option.some.inj (hv385_0.symm.trans hx385_0)
           injection hv385_0 with hva_ hvn_ hvc_
           rw [hva_] at ge385_0
           rw [hvc_] at ul385_0
           have HL385_0 := Aside0.mk (show Kd.V k25 25 _ w.heap.size _ _ (rd_L4 x0_1 x6_1) from Kd.V_mk ul385_0 ge385_0)
           clear hva_ hvn_ hvc_ ge385_0 ul385_0
           clear hcc385 hce385
           have HR385_0 := Aside0.mk hi385_0
           have HC385_0 := Aside0.mk hl385_0
           clear hi385_0 hl385_0
           replace p385 := eq_true p385
           replace q385 := eq_true q385
           have ea_ := Option.some.inj (hx384_0.symm.trans hx385_0)
           injection ea_ with ea_ en_ ec_
           subst ea_
           subst ec_
           clear en_
           go_wp2_with (first | ((with_reducible refine gate_callee (f := 12) rfl ?_); refine goesL_ (some 35) rfl rfl Tryd.func12 (by kernel_rfl) rfl #[.slice A384_0 (rd_L4 x0_1 x6_1).length c384_0] rfl (by (try simp only [List.map_toArray, List.map_cons, List.map_nil]); first | done | rfl | (simp only [List.length_drop, List.length_take]; rfl)) ?_; (with_reducible refine (key_Encode.calls k1 _ _ (rd_L4 x0_1 x6_1) t386 t387 _ ?side1 ?side2 A8.out).mono ?_); (case side1 => repeat (first | exact (by repeat (first | (with_reducible exact HR385_0.out) | (with_reducible refine Kd.C_alloc ?_ _) | (with_reducible refine Kd.C_drewN ?_ _) | (with_reducible refine Kd.C_drew ?_) | exact HR385_0.out)) | (with_reducible refine Kd.C_alloc ?_ _) | (with_reducible refine Kd.C_drewN ?_ _) | (with_reducible refine Kd.C_drew ?_))); (case side2 => exact HC385_0.out); rintro e w14 ⟨rfl, hb⟩; refine ⟨_, rfl, ?_⟩; have n0_ := Aside0.mk (Kd.V_below (by (with_reducible repeat (first | apply Kd.V_alloc | apply Kd.V_drewN | apply Kd.V_drew)); exact HO_0.out) hb); have n1_ := Aside0.mk (Kd.R_below (by (with_reducible repeat (first | apply Kd.R_alloc | apply Kd.R_drewN | apply Kd.R_drew)); exact HO_4.out) hb); have n2_ := Aside0.mk (Kd.N_below (by (with_reducible repeat (first | apply Kd.N_alloc | apply Kd.N_drewN | apply Kd.N_drew)); exact HO_5.out) hb); have n3_ := Aside0.mk (Kd.V_below (by (with_reducible repeat (first | apply Kd.V_alloc | apply Kd.V_drewN | apply Kd.V_drew)); exact HL384_0.out) hb); have n4_ := Aside0.mk (Kd.V_below (by (with_reducible repeat (first | apply Kd.V_alloc | apply Kd.V_drewN | apply Kd.V_drew)); exact HL385_0.out) hb); have n5_ := Aside0.mk (Kd.C_below (by repeat (first | (with_reducible exact HR384_0.out) | (with_reducible refine Kd.C_alloc ?_ _) | (with_reducible refine Kd.C_drewN ?_ _) | (with_reducible refine Kd.C_drew ?_) | exact HR384_0.out)) hb); have n6_ := Aside0.mk (Kd.C_below (by repeat (first | (with_reducible exact HR385_0.out) | (with_reducible refine Kd.C_alloc ?_ _) | (with_reducible refine Kd.C_drewN ?_ _) | (with_reducible refine Kd.C_drew ?_) | exact HR385_0.out)) hb); have n7_ := Aside0.mk (below_step (by repeat (first | (with_reducible first | exact HB.out | apply below_alloc | apply pw_below_drewN | apply below_drew1) | exact HB.out)) hb); clear HO_0; clear HO_4; clear HO_5; clear HL384_0; clear HL385_0; clear HR384_0; clear HR385_0; clear HB; have HO_0 := n0_; have HO_4 := n1_; have HO_5 := n2_; have HL384_0 := n3_; have HL385_0 := n4_; have HR384_0 := n5_; have HR385_0 := n6_; have HB := n7_; clear n0_ n1_ n2_ n3_ n4_ n5_ n6_ n7_; (try clear hb); (try clear hb2); (try clear hk); (try clear hi); have p388 : 0 ≤ (x6_1 : Int) := of_decide_eq_true (by first | (with_reducible assumption) | assumption); have q388 : x6_1 < (x0_1.length : Int) := of_decide_eq_true (by first | (with_reducible assumption) | assumption); obtain ⟨ad388, A388_0, c388_0, e388, hx388_0, hl388_0, hi388_0⟩ := at_L4 (Kd.V_reads' HO_0.out).2.2 x6_1 p388 q388; obtain rfl : ad384 = ad388 := (by injection e388); obtain ⟨ce388, hce388, hMe388, hcc388⟩ := Kd.V_get HO_0.out [] x6_1 p388 (by first | exact q388 | exact of_decide_eq_true (by first | (with_reducible assumption) | assumption) | (have e_ := (Kd.V_reads' HO_0.out).1; omega)); obtain ⟨ua388_0, uc388_0, rfl, ul388_0, ge388_0⟩ := Kd.FK_slice_open hMe388; have hv388_0 := hcc388 0 _ rfl; rw [Nat.add_zero, show ((Kd.slice 25 k25)).sz = 1 from rfl, Nat.mul_one] at hv388_0; replace hv388_0 := Option.some.inj (hv388_0.symm.trans hx388_0); injection hv388_0 with hva_ hvn_ hvc_; rw [hva_] at ge388_0; rw [hvc_] at ul388_0; have HL388_0 := Aside0.mk (show Kd.V k25 25 _ w.heap.size _ _ (rd_L4 x0_1 x6_1) from Kd.V_mk ul388_0 ge388_0); clear hva_ hvn_ hvc_ ge388_0 ul388_0; clear hcc388 hce388; have HR388_0 := Aside0.mk hi388_0; have HC388_0 := Aside0.mk hl388_0; clear hi388_0 hl388_0; replace p388 := eq_true p388; replace q388 := eq_true q388) | ((with_reducible refine gate_callee (f := 13) rfl ?_); refine goesL_ (some 43) rfl rfl Tryd.func13 (by kernel_rfl) rfl #[.slice A388_0 (rd_L4 x0_1 x6_1).length c388_0] rfl (by (try simp only [List.map_toArray, List.map_cons, List.map_nil]); first | done | rfl | (simp only [List.length_drop, List.length_take]; rfl)) ?_; (with_reducible refine (unisonref02_Encode.calls k1 _ _ (rd_L4 x0_1 x6_1) t389 t390 _ ?side1 ?side2 A9.out).mono ?_); (case side1 => repeat (first | exact (by repeat (first | (with_reducible exact HR388_0.out) | (with_reducible refine Kd.C_alloc ?_ _) | (with_reducible refine Kd.C_drewN ?_ _) | (with_reducible refine Kd.C_drew ?_) | exact HR388_0.out)) | (with_reducible refine Kd.C_alloc ?_ _) | (with_reducible refine Kd.C_drewN ?_ _) | (with_reducible refine Kd.C_drew ?_))); (case side2 => exact HC388_0.out); rintro e w15 ⟨rfl, hb⟩; refine ⟨_, rfl, ?_⟩; have n0_ := Aside0.mk (Kd.V_below (by (with_reducible repeat (first | apply Kd.V_alloc | apply Kd.V_drewN | apply Kd.V_drew)); exact HO_0.out) hb); have n1_ := Aside0.mk (Kd.R_below (by (with_reducible repeat (first | apply Kd.R_alloc | apply Kd.R_drewN | apply Kd.R_drew)); exact HO_4.out) hb); have n2_ := Aside0.mk (Kd.N_below (by (with_reducible repeat (first | apply Kd.N_alloc | apply Kd.N_drewN | apply Kd.N_drew)); exact HO_5.out) hb); have n3_ := Aside0.mk (Kd.V_below (by (with_reducible repeat (first | apply Kd.V_alloc | apply Kd.V_drewN | apply Kd.V_drew)); exact HL384_0.out) hb); have n4_ := Aside0.mk (Kd.V_below (by (with_reducible repeat (first | apply Kd.V_alloc | apply Kd.V_drewN | apply Kd.V_drew)); exact HL385_0.out) hb); have n5_ := Aside0.mk (Kd.V_below (by (with_reducible repeat (first | apply Kd.V_alloc | apply Kd.V_drewN | apply Kd.V_drew)); exact HL388_0.out) hb); have n6_ := Aside0.mk (Kd.C_below (by repeat (first | (with_reducible exact HR384_0.out) | (with_reducible refine Kd.C_alloc ?_ _) | (with_reducible refine Kd.C_drewN ?_ _) | (with_reducible refine Kd.C_drew ?_) | exact HR384_0.out)) hb); have n7_ := Aside0.mk (Kd.C_below (by repeat (first | (with_reducible exact HR385_0.out) | (with_reducible refine Kd.C_alloc ?_ _) | (with_reducible refine Kd.C_drewN ?_ _) | (with_reducible refine Kd.C_drew ?_) | exact HR385_0.out)) hb); have n8_ := Aside0.mk (Kd.C_below (by repeat (first | (with_reducible exact HR388_0.out) | (with_reducible refine Kd.C_alloc ?_ _) | (with_reducible refine Kd.C_drewN ?_ _) | (with_reducible refine Kd.C_drew ?_) | exact HR388_0.out)) hb); have n9_ := Aside0.mk (below_step (by repeat (first | (with_reducible first | exact HB.out | apply below_alloc | apply pw_below_drewN | apply below_drew1) | exact HB.out)) hb); clear HO_0; clear HO_4; clear HO_5; clear HL384_0; clear HL385_0; clear HL388_0; clear HR384_0; clear HR385_0; clear HR388_0; clear HB; have HO_0 := n0_; have HO_4 := n1_; have HO_5 := n2_; have HL384_0 := n3_; have HL385_0 := n4_; have HL388_0 := n5_; have HR384_0 := n6_; have HR385_0 := n7_; have HR388_0 := n8_; have HB := n9_; clear n0_ n1_ n2_ n3_ n4_ n5_ n6_ n7_ n8_ n9_; (try clear hb); (try clear hb2); (try clear hk); (try clear hi)) | ((with_reducible refine gate_builtin (b := .append) (xs := #[.tmp 51, .tmp 53]) rfl ?_); at_builtin; refine Kd.R_append Kd.string (w0 := w) w.heap.size rfl (.tmp 51) (.tmp 53) 43 9 (.string ⟨#[]⟩) 16 rfl Tryd.underlying43 info9 rfl (by decide) (by omega) u4 x4_1 t386 [.string t386] (fun k_ => (w.heap.size ≤ k_)) (fun _ => False) rfl rfl ?aP (fun _ hk => hk.elim) ?aF ?aO ?aB ?aS ?aL ?_; (case aP => exact rfl); (case aB => exact (by repeat (first | (with_reducible first | exact HB.out | apply below_alloc | apply pw_below_drewN | apply below_drew1) | exact HB.out))); (case aF => exact (fun k_ hk => (Nat.le_trans (below_size (by repeat (first | (with_reducible first | exact HB.out | apply below_alloc | apply pw_below_drewN | apply below_drew1) | exact HB.out))) hk))); (case aO => exact (by (with_reducible repeat (first | apply Kd.R_alloc | apply Kd.R_drewN | apply Kd.R_drew)); exact HO_4.out)); (case aS => exact (below_size (by repeat (first | (with_reducible first | exact HB.out | apply below_alloc | apply pw_below_drewN | apply below_drew1) | exact HB.out)))); (case aL => have := LMc12.out; omega); intro v392 w16 ho hb hg hat; rw [← Ny391.out] at ho; have n0_ := Aside0.mk (Kd.V_afterv (ok := (fun k_ => (P0_ k_ ∨ w.heap.size ≤ k_) ∧ some k_ ≠ (u5 : Value).ownBlock)) (by (with_reducible repeat (first | apply Kd.V_alloc | apply Kd.V_drewN | apply Kd.V_drew)); exact Kd.V_mono HO_0.out (fun _ hk => ⟨⟨hk.1, hk.2.2⟩, hk.2.1⟩)) hg hat); have n1_ := Aside0.mk (Kd.N_afterv (ok := (fun k_ => (P0_ k_ ∨ w.heap.size ≤ k_))) (by (with_reducible repeat (first | apply Kd.N_alloc | apply Kd.N_drewN | apply Kd.N_drew)); exact HO_5.out) hg hat); have n2_ := Aside0.mk (Kd.V_afterv (ok := (fun k_ => (P0_ k_ ∨ w.heap.size ≤ k_) ∧ some k_ ≠ (u5 : Value).ownBlock)) (by (with_reducible repeat (first | apply Kd.V_alloc | apply Kd.V_drewN | apply Kd.V_drew)); exact Kd.V_mono HL384_0.out (fun _ hk => ⟨⟨hk.1, hk.2.2⟩, hk.2.1⟩)) hg hat); have n3_ := Aside0.mk (Kd.V_afterv (ok := (fun k_ => (P0_ k_ ∨ w.heap.size ≤ k_) ∧ some k_ ≠ (u5 : Value).ownBlock)) (by (with_reducible repeat (first | apply Kd.V_alloc | apply Kd.V_drewN | apply Kd.V_drew)); exact Kd.V_mono HL385_0.out (fun _ hk => ⟨⟨hk.1, hk.2.2⟩, hk.2.1⟩)) hg hat); have n4_ := Aside0.mk (Kd.V_afterv (ok := (fun k_ => (P0_ k_ ∨ w.heap.size ≤ k_) ∧ some k_ ≠ (u5 : Value).ownBlock)) (by (with_reducible repeat (first | apply Kd.V_alloc | apply Kd.V_drewN | apply Kd.V_drew)); exact Kd.V_mono HL388_0.out (fun _ hk => ⟨⟨hk.1, hk.2.2⟩, hk.2.1⟩)) hg hat); have n5_ := Aside0.mk (hb); have n6_ := Aside0.mk (ho); clear HO_0; clear HO_5; clear HL384_0; clear HL385_0; clear HL388_0; clear HB; clear HO_4; have HO_0 := n0_; have HO_5 := n1_; have HL384_0 := n2_; have HL385_0 := n3_; have HL388_0 := n4_; have HB := n5_; have HO393 := n6_; clear n0_ n1_ n2_ n3_ n4_ n5_ n6_; clear ho hb hg hat; have p394 : 0 ≤ (x6_1 : Int) := of_decide_eq_true (by first | (with_reducible assumption) | assumption); have q394 : x6_1 < (x0_1.length : Int) := of_decide_eq_true (by first | (with_reducible assumption) | assumption); obtain ⟨ad394, A394_0, c394_0, e394, hx394_0, hl394_0, hi394_0⟩ := at_L4 (Kd.V_reads' HO_0.out).2.2 x6_1 p394 q394; obtain rfl : ad384 = ad394 := (by injection e394); obtain ⟨ce394, hce394, hMe394, hcc394⟩ := Kd.V_get HO_0.out [] x6_1 p394 (by first | exact q394 | exact of_decide_eq_true (by first | (with_reducible assumption) | assumption) | (have e_ := (Kd.V_reads' HO_0.out).1; omega)); obtain ⟨ua394_0, uc394_0, rfl, ul394_0, ge394_0⟩ := Kd.FK_slice_open hMe394; have hv394_0 := hcc394 0 _ rfl; rw [Nat.add_zero, show ((Kd.slice 25 k25)).sz = 1 from rfl, Nat.mul_one] at hv394_0; replace hv394_0 := Option.some.inj (hv394_0.symm.trans hx394_0); injection hv394_0 with hva_ hvn_ hvc_; rw [hva_] at ge394_0; rw [hvc_] at ul394_0; have HL394_0 := Aside0.mk (show Kd.V k25 25 _ w.heap.size _ _ (rd_L4 x0_1 x6_1) from Kd.V_mk ul394_0 ge394_0); clear hva_ hvn_ hvc_ ge394_0 ul394_0; clear hcc394 hce394; have HR394_0 := Aside0.mk hi394_0; have HC394_0 := Aside0.mk hl394_0; clear hi394_0 hl394_0; replace p394 := eq_true p394; replace q394 := eq_true q394) | ((with_reducible refine gate_builtin (b := .append) (xs := #[.tmp 55, .tmp 60]) rfl ?_); at_builtin; refine Kd.N_append (Kd.slice 25 k25) (w0 := w) w.heap.size rfl (.tmp 55) (.tmp 60) 42 22 (.slice none 0 0) 24 rfl Tryd.underlying42 info22 rfl (by decide) (by omega) u5 x5_1 (rd_L4 x0_1 x6_1) [.slice A394_0 (rd_L4 x0_1 x6_1).length c394_0] (fun k_ => (P0_ k_ ∨ w.heap.size ≤ k_) ∧ some k_ ≠ (v392 : Value).ownBlock) (fun k_ => ((fun k_ => (P0_ k_ ∨ w.heap.size ≤ k_) ∧ some k_ ≠ (v392 : Value).ownBlock)) k_ ∧ some k_ ≠ (u5 : Value).ownBlock) rfl rfl ?aP (fun _ hk => hk) ?aF ?aO ?aB ?aS ?aL ?_; (case aP => exact (Kd.FK_slice_mk (Kd.V_reads' (Kd.V_mono (ok' := (fun k_ => ((fun k_ => (P0_ k_ ∨ w.heap.size ≤ k_) ∧ some k_ ≠ (v392 : Value).ownBlock)) k_ ∧ some k_ ≠ (u5 : Value).ownBlock)) (HL394_0.out) (fun k_ hk => ⟨⟨hk.1.1, hk.2⟩, hk.1.2⟩))).2.1 (Kd.V_F (Kd.V_mono (ok' := (fun k_ => ((fun k_ => (P0_ k_ ∨ w.heap.size ≤ k_) ∧ some k_ ≠ (v392 : Value).ownBlock)) k_ ∧ some k_ ≠ (u5 : Value).ownBlock)) (HL394_0.out) (fun k_ hk => ⟨⟨hk.1.1, hk.2⟩, hk.1.2⟩))))); (case aB => exact (by repeat (first | (with_reducible first | exact HB.out | apply below_alloc | apply pw_below_drewN | apply below_drew1) | exact HB.out))); (case aF => exact (fun k_ hk => ⟨(.inr (Nat.le_trans (below_size (by repeat (first | (with_reducible first | exact HB.out | apply below_alloc | apply pw_below_drewN | apply below_drew1) | exact HB.out))) hk)), Kd.fresh' (Kd.R_lt (by (with_reducible repeat (first | apply Kd.R_alloc | apply Kd.R_drewN | apply Kd.R_drew)); exact HO393.out)) k_ hk⟩)); (case aO => exact (by (with_reducible repeat (first | apply Kd.N_alloc | apply Kd.N_drewN | apply Kd.N_drew)); exact HO_5.out)); (case aS => exact (below_size (by repeat (first | (with_reducible first | exact HB.out | apply below_alloc | apply pw_below_drewN | apply below_drew1) | exact HB.out)))); (case aL => have := LMc13.out; omega); intro v396 w17 ho hb hg hat; rw [← Ny395.out] at ho; have n0_ := Aside0.mk (Kd.V_afterv (ok := (fun k_ => (P0_ k_ ∨ w.heap.size ≤ k_) ∧ some k_ ≠ (v392 : Value).ownBlock)) (by (with_reducible repeat (first | apply Kd.V_alloc | apply Kd.V_drewN | apply Kd.V_drew)); exact Kd.V_mono HO_0.out (fun _ hk => ⟨⟨hk.1.1, hk.2⟩, hk.1.2⟩)) hg hat); have n1_ := Aside0.mk (Kd.V_afterv (ok := (fun k_ => (P0_ k_ ∨ w.heap.size ≤ k_) ∧ some k_ ≠ (v392 : Value).ownBlock)) (by (with_reducible repeat (first | apply Kd.V_alloc | apply Kd.V_drewN | apply Kd.V_drew)); exact Kd.V_mono HL384_0.out (fun _ hk => ⟨⟨hk.1.1, hk.2⟩, hk.1.2⟩)) hg hat); have n2_ := Aside0.mk (Kd.V_afterv (ok := (fun k_ => (P0_ k_ ∨ w.heap.size ≤ k_) ∧ some k_ ≠ (v392 : Value).ownBlock)) (by (with_reducible repeat (first | apply Kd.V_alloc | apply Kd.V_drewN | apply Kd.V_drew)); exact Kd.V_mono HL385_0.out (fun _ hk => ⟨⟨hk.1.1, hk.2⟩, hk.1.2⟩)) hg hat); have n3_ := Aside0.mk (Kd.V_afterv (ok := (fun k_ => (P0_ k_ ∨ w.heap.size ≤ k_) ∧ some k_ ≠ (v392 : Value).ownBlock)) (by (with_reducible repeat (first | apply Kd.V_alloc | apply Kd.V_drewN | apply Kd.V_drew)); exact Kd.V_mono HL388_0.out (fun _ hk => ⟨⟨hk.1.1, hk.2⟩, hk.1.2⟩)) hg hat); have n4_ := Aside0.mk (Kd.R_over' (by (with_reducible repeat (first | apply Kd.R_alloc | apply Kd.R_drewN | apply Kd.R_drew)); exact HO393.out) (Kd.N_typed (by (with_reducible repeat (first | apply Kd.N_alloc | apply Kd.N_drewN | apply Kd.N_drew)); exact HO_5.out)) (by decide) hg); have n5_ := Aside0.mk (Kd.V_afterv (ok := (fun k_ => (P0_ k_ ∨ w.heap.size ≤ k_) ∧ some k_ ≠ (v392 : Value).ownBlock)) (by (with_reducible repeat (first | apply Kd.V_alloc | apply Kd.V_drewN | apply Kd.V_drew)); exact Kd.V_mono HL394_0.out (fun _ hk => ⟨⟨hk.1.1, hk.2⟩, hk.1.2⟩)) hg hat); have n6_ := Aside0.mk (hb); have n7_ := Aside0.mk (ho); clear HO_0; clear HL384_0; clear HL385_0; clear HL388_0; clear HO393; clear HL394_0; clear HB; clear HO_5; have HO_0 := n0_; have HL384_0 := n1_; have HL385_0 := n2_; have HL388_0 := n3_; have HO393 := n4_; have HL394_0 := n5_; have HB := n6_; have HO397 := n7_; clear n0_ n1_ n2_ n3_ n4_ n5_ n6_ n7_; clear ho hb hg hat; obtain ⟨Ao18, co18, eo18⟩ := Kd.R_slice HO393.out; subst eo18))
           go_loopg [11] k1 (fun kq v11 w' => ∃ (x4_2 : List ByteArray) (x5_2 : List (List (S25))) (x11_2 : Int), v11 = .int .i64 x11_2 ∧ Aside0 (unisonlaw02_KeySorted.l1 kq x0_1 t383 x4_2 x5_2 x6_1 t386 x11_2 = some r) ∧ Aside0 (kq ≤ k1) ∧ Aside0 (Kd.V (Kd.slice 25 k25) 22 w' w.heap.size (fun k_ => (P0_ k_ ∨ w.heap.size ≤ k_) ∧ some k_ ≠ ((.slice Ao18 y391.length co18) : Value).ownBlock ∧ some k_ ≠ (v396 : Value).ownBlock) (.slice (some ad384) x0_1.length c0) x0_1) ∧ Aside0 (Kd.R Kd.string 9 w' w.heap.size (fun k_ => (w.heap.size ≤ k_)) (.slice Ao18 y391.length co18) x4_2) ∧ Aside0 (Kd.N (Kd.slice 25 k25) 22 w' w.heap.size (fun k_ => (P0_ k_ ∨ w.heap.size ≤ k_) ∧ some k_ ≠ ((.slice Ao18 y391.length co18) : Value).ownBlock) v396 x5_2) ∧ Aside0 (Below w.heap.size w w'))
           case atStart => exact ⟨(y391), (y395), (wrap64 ((y391.length : Int) - 1)), (by first | rfl | (simp; done) | (simp [*]; done)), H', ⟨Nat.le_refl _⟩, ⟨by (try simp only [hl0_1]); (with_reducible repeat (first | apply Kd.V_alloc | apply Kd.V_drewN | apply Kd.V_drew)); exact Kd.V_mono HO_0.out (fun _ hk => ⟨hk.1.1, ⟨hk.1.2, hk.2⟩⟩)⟩, ⟨by (try simp only [hl0_1]); (with_reducible repeat (first | apply Kd.R_alloc | apply Kd.R_drewN | apply Kd.R_drew)); exact HO393.out⟩, ⟨by (try simp only [hl0_1]); (with_reducible repeat (first | apply Kd.N_alloc | apply Kd.N_drewN | apply Kd.N_drew)); exact HO397.out⟩, ⟨by repeat (first | (with_reducible first | exact HB.out | apply below_alloc | apply pw_below_drewN | apply below_drew1) | exact HB.out)⟩⟩
           case round =>
            clear H'
            try clear c1
            try clear c2
            try clear c2b0
            try clear c2b1
            try clear p2
            try clear c3
            try clear p3
            try clear q3
            try clear hx3
            try clear c5
            try clear c5b0
            try clear c6
            try clear c6b0
            try clear p6
            try clear c7
            try clear c7b0
            try clear c7b1
            try clear c9
            try clear c10
            try clear c10b0
            try clear c10b1
            try clear c11
            try clear c11b0
            try clear c11b1
            try clear c12
            try clear c13
            try clear hx384_0
            try clear hx385_0
            try clear hx388_0
            try clear hx394_0
            try clear p2
            try clear p384
            try clear p385
            try clear p388
            try clear p394
            try clear q384
            try clear q385
            try clear q388
            try clear q394
            obtain ⟨x4_2, x5_2, x11_2, rfl, HA, HK2, HO_0, HO_4, HO_5, HB⟩ := hrel
            have hl4_2 := (Kd.R_reads' HO_4.out).1
            rw [hl4_2] at HO_4
            (try simp only [hl4_2])
            (try simp only [hl4_2] at HO_0)
            (try simp only [hl4_2] at HO_5)
            cases gk with
            | zero => exact absurd HA.out (by simp [unisonlaw02_KeySorted.l1])
            | succ k2 =>
             have H := HA.out
             clear HA
             simp only [unisonlaw02_KeySorted.l1] at H
             by_cases c19 : x11_2 > 0
             ·
              rw [if_pos c19] at H
              have c19b0 : decide (0 < x11_2) = true := decide_eq_true c19
              clear c19
              obtain ⟨ji20, hji20⟩ : ∃ j_ : Int, (wrap64 (x11_2 - 1)) = j_ := ⟨_, rfl⟩
              replace H : (if 0 ≤ (ji20) then (if (ji20) < (x4_2.length : Int) then (if 0 ≤ x11_2 then (if x11_2 < (x4_2.length : Int) then (if (Op.bytesLess ((rdOf ByteArray.empty x4_2 x11_2).toList) ((rdOf ByteArray.empty x4_2 (ji20)).toList)) = true then (if (ji20) < (x5_2.length : Int) then (if x11_2 < (x5_2.length : Int) then (if 0 ≤ x6_1 then (if x6_1 < (x0_1.length : Int) then (unisonlaw02_KeySorted.l1 k2 x0_1 t383 ((x4_2.set (x11_2 : Int).toNat (rdOf ByteArray.empty x4_2 (ji20))).set ((ji20) : Int).toNat t386) ((x5_2.set (x11_2 : Int).toNat (rd_L4 x5_2 (ji20))).set ((ji20) : Int).toNat (rd_L4 x0_1 x6_1)) x6_1 t386 ji20) else (none)) else (none)) else (none)) else (none)) else (unisonlaw02_KeySorted.l0 k2 x0_1 t383 x4_2 x5_2 (wrap64 (x6_1 + 1)))) else (none)) else (none)) else (none)) else (none)) = some r := by first | (rw [hji20] at H; exact H) | (simp only [hji20] at H ⊢; exact H)
              have hji20w : (IntKind.i64.wrap (x11_2 - 1)) = ji20 := (i64_w _).trans hji20
              by_cases c21 : 0 ≤ (ji20)
              ·
               rw [if_pos c21] at H
               have c21b0 : decide (0 ≤ (ji20)) = true := decide_eq_true c21
               clear c21
               by_cases c22 : (ji20) < (x4_2.length : Int)
               ·
                rw [if_pos c22] at H
                have c22b0 : decide ((ji20) < (x4_2.length : Int)) = true := decide_eq_true c22
                clear c22
                by_cases c23 : 0 ≤ x11_2
                ·
                 rw [if_pos c23] at H
                 have c23b0 : decide (0 ≤ x11_2) = true := decide_eq_true c23
                 clear c23
                 by_cases c24 : x11_2 < (x4_2.length : Int)
                 ·
                  rw [if_pos c24] at H
                  have c24b0 : decide (x11_2 < (x4_2.length : Int)) = true := decide_eq_true c24
                  clear c24
                  by_cases c25 : (Op.bytesLess ((rdOf ByteArray.empty x4_2 x11_2).toList) ((rdOf ByteArray.empty x4_2 (ji20)).toList)) = true
                  ·
                   rw [if_pos c25] at H
                   have c25b0 : (Op.bytesLess ((rdOf ByteArray.empty x4_2 x11_2).toList) ((rdOf ByteArray.empty x4_2 (ji20)).toList)) = true := c25
                   have c25bn : (!Op.bytesLess ((rdOf ByteArray.empty x4_2 x11_2).toList) ((rdOf ByteArray.empty x4_2 (ji20)).toList)) = false := by rw [c25b0]; rfl
                   have c25be : (((rdOf ByteArray.empty x4_2 x11_2).toList) == ((rdOf ByteArray.empty x4_2 (ji20)).toList)) = false := bl_ne c25b0
                   have c25bf : (((rdOf ByteArray.empty x4_2 (ji20)).toList) == ((rdOf ByteArray.empty x4_2 x11_2).toList)) = false := bl_ne' c25b0
                   have c25bg : Op.bytesLess ((rdOf ByteArray.empty x4_2 (ji20)).toList) ((rdOf ByteArray.empty x4_2 x11_2).toList) = false := bl_asymm c25b0
                   have c25bh : (Op.bytesLess ((rdOf ByteArray.empty x4_2 (ji20)).toList) ((rdOf ByteArray.empty x4_2 x11_2).toList) || ((rdOf ByteArray.empty x4_2 (ji20)).toList) == ((rdOf ByteArray.empty x4_2 x11_2).toList)) = false := by rw [c25bg, c25bf]; rfl
                   clear c25
                   obtain ⟨y401, hy401⟩ : ∃ y_ : List ByteArray, y_ = (x4_2.set (x11_2 : Int).toNat (rdOf ByteArray.empty x4_2 (ji20))) := ⟨_, rfl⟩
                   replace H : (if (ji20) < (x5_2.length : Int) then (if x11_2 < (x5_2.length : Int) then (if 0 ≤ x6_1 then (if x6_1 < (x0_1.length : Int) then (unisonlaw02_KeySorted.l1 k2 x0_1 t383 (y401.set ((ji20) : Int).toNat t386) ((x5_2.set (x11_2 : Int).toNat (rd_L4 x5_2 (ji20))).set ((ji20) : Int).toNat (rd_L4 x0_1 x6_1)) x6_1 t386 ji20) else (none)) else (none)) else (none)) else (none)) = some r := by first | (rw [hy401]; with_reducible exact H) | (have H2_ := (Option.bind_some _ _).symm.trans H; rw [hy401]; with_reducible exact H2_) | (have H2_ := (Option.bind_some _ _).symm.trans H; with_reducible exact H2_) | with_reducible exact H | (rw [hy401]; exact H) | exact H
                   have Ny401 := Aside0.mk hy401
                   clear hy401
                   obtain ⟨y402, hy402⟩ : ∃ y_ : List ByteArray, y_ = (y401.set ((ji20) : Int).toNat t386) := ⟨_, rfl⟩
                   replace H : (if (ji20) < (x5_2.length : Int) then (if x11_2 < (x5_2.length : Int) then (if 0 ≤ x6_1 then (if x6_1 < (x0_1.length : Int) then (unisonlaw02_KeySorted.l1 k2 x0_1 t383 y402 ((x5_2.set (x11_2 : Int).toNat (rd_L4 x5_2 (ji20))).set ((ji20) : Int).toNat (rd_L4 x0_1 x6_1)) x6_1 t386 ji20) else (none)) else (none)) else (none)) else (none)) = some r := by first | (rw [hy402]; with_reducible exact H) | (have H2_ := (Option.bind_some _ _).symm.trans H; rw [hy402]; with_reducible exact H2_) | (have H2_ := (Option.bind_some _ _).symm.trans H; with_reducible exact H2_) | with_reducible exact H | (rw [hy402]; exact H) | exact H
                   have Ny402 := Aside0.mk hy402
                   clear hy402
                   by_cases c28 : (ji20) < (x5_2.length : Int)
                   ·
                    rw [if_pos c28] at H
                    have c28b0 : decide ((ji20) < (x5_2.length : Int)) = true := decide_eq_true c28
                    clear c28
                    by_cases c29 : x11_2 < (x5_2.length : Int)
                    ·
                     rw [if_pos c29] at H
                     have c29b0 : decide (x11_2 < (x5_2.length : Int)) = true := decide_eq_true c29
                     clear c29
                     obtain ⟨y404, hy404⟩ : ∃ y_ : List (List (S25)), y_ = (x5_2.set (x11_2 : Int).toNat (rd_L4 x5_2 (ji20))) := ⟨_, rfl⟩
                     replace H : (if 0 ≤ x6_1 then (if x6_1 < (x0_1.length : Int) then (unisonlaw02_KeySorted.l1 k2 x0_1 t383 y402 (y404.set ((ji20) : Int).toNat (rd_L4 x0_1 x6_1)) x6_1 t386 ji20) else (none)) else (none)) = some r := by first | (rw [hy404]; with_reducible exact H) | (have H2_ := (Option.bind_some _ _).symm.trans H; rw [hy404]; with_reducible exact H2_) | (have H2_ := (Option.bind_some _ _).symm.trans H; with_reducible exact H2_) | with_reducible exact H | (rw [hy404]; exact H) | exact H
                     have Ny404 := Aside0.mk hy404
                     clear hy404
                     by_cases c31 : 0 ≤ x6_1
                     ·
                      rw [if_pos c31] at H
                      have c31b0 : decide (0 ≤ x6_1) = true := decide_eq_true c31
                      clear c31
                      by_cases c32 : x6_1 < (x0_1.length : Int)
                      ·
                       rw [if_pos c32] at H
                       have c32b0 : decide (x6_1 < (x0_1.length : Int)) = true := decide_eq_true c32
                       clear c32
                       obtain ⟨y406, hy406⟩ : ∃ y_ : List (List (S25)), y_ = (y404.set ((ji20) : Int).toNat (rd_L4 x0_1 x6_1)) := ⟨_, rfl⟩
                       replace H : (unisonlaw02_KeySorted.l1 k2 x0_1 t383 y402 y406 x6_1 t386 ji20) = some r := by first | (rw [hy406]; with_reducible exact H) | (have H2_ := (Option.bind_some _ _).symm.trans H; rw [hy406]; with_reducible exact H2_) | (have H2_ := (Option.bind_some _ _).symm.trans H; with_reducible exact H2_) | with_reducible exact H | (rw [hy406]; exact H) | exact H
                       have Ny406 := Aside0.mk hy406
                       clear hy406
                       have H' := Aside0.mk H
                       clear H
                       try go_wp2
                       have n0_ := Aside0.mk (Kd.V_drew HO_0.out)
                       have n1_ := Aside0.mk (Kd.R_drew HO_4.out)
                       have n2_ := Aside0.mk (Kd.N_drew HO_5.out)
                       have n3_ := Aside0.mk (below_drew1 HB.out)
                       clear HO_0
                       clear HO_4
                       clear HO_5
                       clear HB
                       have HO_0 := n0_
                       have HO_4 := n1_
                       have HO_5 := n2_
                       have HB := n3_
                       clear n0_ n1_ n2_ n3_
                       have p398 : 0 ≤ ((ji20) : Int) := of_decide_eq_true (by first | (with_reducible assumption) | assumption)
                       have q398 : (ji20) < (x4_2.length : Int) := of_decide_eq_true (by first | (with_reducible assumption) | assumption)
                       obtain ⟨ad398, e398, hx398_0⟩ := Kd.at_string (Kd.R_reads' HO_4.out).2.2 (ji20) p398 q398
                       cases e398
                       replace p398 := eq_true p398
                       replace q398 := eq_true q398
                       have p399 : 0 ≤ (x11_2 : Int) := of_decide_eq_true (by first | (with_reducible assumption) | assumption)
                       have q399 : x11_2 < (x4_2.length : Int) := of_decide_eq_true (by first | (with_reducible assumption) | assumption)
                       obtain ⟨ad399, e399, hx399_0⟩ := Kd.at_string (Kd.R_reads' HO_4.out).2.2 x11_2 p399 q399
                       obtain rfl : ad398 = ad399 := (by injection e399)
                       replace p399 := eq_true p399
                       replace q399 := eq_true q399
                       refine start_ (n := 14) (S := fun w' => w'.cell? (ad398.add ((ji20)).toNat) = some (.string (rdOf ByteArray.empty x4_2 (ji20))) ∧ w'.cell? (ad398.add (x11_2).toNat) = some (.string (rdOf ByteArray.empty x4_2 x11_2))) (ds := []) #[false, false, false, false, false, false, false, false, false, false, false, false, false, false] (by kernel_rfl) rfl rfl ⟨hx398_0, hx399_0⟩ (fun hHeld => ?_); refine with_tabW unisonlaw02_KeySorted.tab18 unisonlaw02_KeySorted.bits18 (fun HT_ HW_ => ?_)
                       generalize wr.drew = w34 at HO_0 HO_4 HO_5 HB hx398_0 hx399_0 hHeld ⊢
                       refine pure_ (i := 0) (N := some 65) (v := ?_) (a' := ?_) #[true, false, false, false, false, false, false, false, false, false, false, false, false, false] rfl rfl (any_of HT_.out (by kernel_rfl)) (fun _ _ _ h => h) (Or.inl ⟨by rfl, ?_⟩) ?_ ?_
                       rotate_left; focus (intro w'; go_simp; with_reducible rfl; done)
                       rotate_left; focus (simp only [Act.put, List.setIfInBounds_toArray, List.set_cons_zero, List.set_cons_succ, i64_w, i32_w, u8_w, u32_w]; rfl; done)
                       refine pure_ (i := 1) (N := some 66) (v := ?_) (a' := ?_) #[true, true, false, false, false, false, false, false, false, false, false, false, false, false] rfl rfl (any_of HT_.out (by kernel_rfl)) (fun _ _ _ h => h) (Or.inl ⟨by rfl, ?_⟩) ?_ ?_
                       rotate_left; focus (intro w'; go_simp; with_reducible rfl; done)
                       rotate_left; focus (simp only [Act.put, List.setIfInBounds_toArray, List.set_cons_zero, List.set_cons_succ, i64_w, i32_w, u8_w, u32_w]; rfl; done)
                       refine pure_ (i := 2) (N := some 67) (v := ?_) (a' := ?_) #[true, true, true, false, false, false, false, false, false, false, false, false, false, false] rfl rfl (any_of HT_.out (by kernel_rfl)) (fun _ _ _ h => h) (Or.inl ⟨by rfl, ?_⟩) ?_ ?_
                       rotate_left; focus (intro w'; go_simp; with_reducible rfl; done)
                       rotate_left; focus (simp only [Act.put, List.setIfInBounds_toArray, List.set_cons_zero, List.set_cons_succ, i64_w, i32_w, u8_w, u32_w]; rfl; done)
                       refine pure_ (i := 3) (N := some 68) (v := ?_) (a' := ?_) #[true, true, true, true, false, false, false, false, false, false, false, false, false, false] rfl rfl (any_of HT_.out (by kernel_rfl)) (fun _ _ _ h => h) (Or.inl ⟨by rfl, ?_⟩) ?_ ?_
                       rotate_left; focus (intro w'; go_simp; with_reducible rfl; done)
                       rotate_left; focus (simp only [Act.put, List.setIfInBounds_toArray, List.set_cons_zero, List.set_cons_succ, i64_w, i32_w, u8_w, u32_w]; rfl; done)
                       refine pure_ (i := 4) (N := some 69) (v := ?_) (a' := ?_) #[true, true, true, true, true, false, false, false, false, false, false, false, false, false] rfl rfl (any_of HT_.out (by kernel_rfl)) (fun _ _ _ h => h) (Or.inl ⟨by rfl, ?_⟩) ?_ ?_
                       rotate_left; focus (intro w'; go_simp; with_reducible rfl; done)
                       rotate_left; focus (simp only [Act.put, List.setIfInBounds_toArray, List.set_cons_zero, List.set_cons_succ, i64_w, i32_w, u8_w, u32_w]; rfl; done)
                       refine pure_ (i := 5) (N := some 70) (v := ?_) (a' := ?_) #[true, true, true, true, true, true, false, false, false, false, false, false, false, false] rfl rfl (any_of HT_.out (by kernel_rfl)) (fun _ _ _ h => h) (Or.inl ⟨by rfl, ?_⟩) ?_ ?_
                       rotate_left; focus (intro w'; go_simp; with_reducible rfl; done)
                       rotate_left; focus (simp only [Act.put, List.setIfInBounds_toArray, List.set_cons_zero, List.set_cons_succ, i64_w, i32_w, u8_w, u32_w]; rfl; done)
                       refine pure_ (i := 6) (N := some 71) (v := ?_) (a' := ?_) #[true, true, true, true, true, true, true, false, false, false, false, false, false, false] rfl rfl (any_of HT_.out (by kernel_rfl)) (fun _ _ _ h => h) (Or.inl ⟨by rfl, ?_⟩) ?_ ?_
                       rotate_left; focus (intro w'; go_simp; with_reducible rfl; done)
                       rotate_left; focus (simp only [Act.put, List.setIfInBounds_toArray, List.set_cons_zero, List.set_cons_succ, i64_w, i32_w, u8_w, u32_w]; rfl; done)
                       refine pure_ (i := 8) (N := some 73) (v := ?_) (a' := ?_) #[true, true, true, true, true, true, true, false, true, false, false, false, false, false] rfl rfl (any_of HT_.out (by kernel_rfl)) (fun _ _ _ h => h) (Or.inl ⟨by rfl, ?_⟩) ?_ ?_
                       rotate_left; focus (intro w'; go_simp; with_reducible rfl; done)
                       rotate_left; focus (simp only [Act.put, List.setIfInBounds_toArray, List.set_cons_zero, List.set_cons_succ, i64_w, i32_w, u8_w, u32_w]; rfl; done)
                       refine pure_ (i := 9) (N := some 74) (v := ?_) (a' := ?_) #[true, true, true, true, true, true, true, false, true, true, false, false, false, false] rfl rfl (any_of HT_.out (by kernel_rfl)) (fun _ _ _ h => h) (Or.inl ⟨by rfl, ?_⟩) ?_ ?_
                       rotate_left; focus (intro w'; go_simp; with_reducible rfl; done)
                       rotate_left; focus (simp only [Act.put, List.setIfInBounds_toArray, List.set_cons_zero, List.set_cons_succ, i64_w, i32_w, u8_w, u32_w]; rfl; done)
                       refine pure_ (i := 10) (N := some 75) (v := ?_) (a' := ?_) #[true, true, true, true, true, true, true, false, true, true, true, false, false, false] rfl rfl (any_of HT_.out (by kernel_rfl)) (fun _ _ _ h => h) (Or.inl ⟨by rfl, ?_⟩) ?_ ?_
                       rotate_left; focus (intro w'; go_simp; with_reducible rfl; done)
                       rotate_left; focus (simp only [Act.put, List.setIfInBounds_toArray, List.set_cons_zero, List.set_cons_succ, i64_w, i32_w, u8_w, u32_w]; rfl; done)
                       refine take_ (i := 7) (N := some 72) (v := ?_) (a' := ?_) #[true, true, true, true, true, true, true, true, true, true, true, false, false, false] rfl rfl (take_ofW HT_.out HW_.out (by kernel_rfl)) (fun _ _ _ h => h) (Or.inl ⟨by rfl, ?_⟩) hHeld ?_ ?_
                       rotate_left; focus (rintro w' ⟨s0, s1⟩; go_simp; with_reducible rfl; done)
                       rotate_left; focus (simp only [Act.put, List.setIfInBounds_toArray, List.set_cons_zero, List.set_cons_succ, i64_w, i32_w, u8_w, u32_w]; rfl; done)
                       refine take_ (i := 11) (N := some 76) (v := ?_) (a' := ?_) #[true, true, true, true, true, true, true, true, true, true, true, true, false, false] rfl rfl (take_ofW HT_.out HW_.out (by kernel_rfl)) (fun _ _ _ h => h) (Or.inl ⟨by rfl, ?_⟩) hHeld ?_ ?_
                       rotate_left; focus (rintro w' ⟨s0, s1⟩; go_simp; with_reducible rfl; done)
                       rotate_left; focus (simp only [Act.put, List.setIfInBounds_toArray, List.set_cons_zero, List.set_cons_succ, i64_w, i32_w, u8_w, u32_w]; rfl; done)
                       refine pure_ (i := 12) (N := some 77) (v := ?_) (a' := ?_) #[true, true, true, true, true, true, true, true, true, true, true, true, true, false] rfl rfl (any_of HT_.out (by kernel_rfl)) (fun _ _ _ h => h) (Or.inl ⟨by rfl, ?_⟩) ?_ ?_
                       rotate_left; focus (intro w'; go_simp; with_reducible rfl; done)
                       rotate_left; focus (simp only [Act.put, List.setIfInBounds_toArray, List.set_cons_zero, List.set_cons_succ, i64_w, i32_w, u8_w, u32_w]; rfl; done)
                       refine pure_ (i := 13) (N := some 78) (v := ?_) (a' := ?_) #[true, true, true, true, true, true, true, true, true, true, true, true, true, true] rfl rfl (any_of HT_.out (by kernel_rfl)) (fun _ _ _ h => h) (Or.inl ⟨by rfl, ?_⟩) ?_ ?_
                       rotate_left; focus (intro w'; go_simp; with_reducible rfl; done)
                       rotate_left; focus (simp only [Act.put, List.setIfInBounds_toArray, List.set_cons_zero, List.set_cons_succ, i64_w, i32_w, u8_w, u32_w]; rfl; done)
                       refine done_ (done_of HT_.out (by kernel_rfl)) ?_
                       have p400 : 0 ≤ ((ji20) : Int) := of_decide_eq_true (by first | (with_reducible assumption) | assumption)
                       have q400 : (ji20) < (x4_2.length : Int) := of_decide_eq_true (by first | (with_reducible assumption) | assumption)
                       obtain ⟨ad400, e400, hx400_0⟩ := Kd.at_string (Kd.R_reads' HO_4.out).2.2 (ji20) p400 q400
                       obtain rfl : ad398 = ad400 := (by injection e400)
                       replace p400 := eq_true p400
                       replace q400 := eq_true q400
                       have p26 : 0 ≤ (x11_2 : Int) := of_decide_eq_true (by first | (with_reducible assumption) | assumption)
                       have q26 : (x11_2 : Int) < ((x4_2.length : Int) : Int) := of_decide_eq_true (by first | (with_reducible assumption) | assumption)
                       obtain ⟨go26, co26, eo26, gb26, gl26, cl26, HG26⟩ := Kd.R_form HO_4.out (by omega)
                       (first | cases eo26 | (injection eo26 with ea_ en_ ec_; (first | subst ea_ | (injection ea_ with ea_; subst ea_)); subst ec_; clear en_))
                       have GB26 := Aside0.mk gb26
                       have GG26 := Aside0.mk HG26
                       clear gb26 gl26 HG26
                       (first | simp only [add_plain] at hx398_0 | skip)
                       (first | simp only [add_plain] at hx399_0 | skip)
                       (first | simp only [add_plain] at hx400_0 | skip)
                       obtain ⟨hx26_0, hf26_0⟩ := Kd.R_celln (⟨#[]⟩ : ByteArray) HO_4.out (x11_2 : Int) p26 q26
                       replace p26 := eq_true p26
                       replace q26 := eq_true q26
                       obtain ⟨hy35_, hz35_⟩ := Kd.R_celln (⟨#[]⟩ : ByteArray) HO_4.out (x11_2 : Int) (of_decide_eq_true (by first | (with_reducible assumption) | assumption)) (of_decide_eq_true (by first | (with_reducible assumption) | assumption))
                       have HP35 := Kd.R_putg HO_4.out (x11_2 : Int) (rdOf ByteArray.empty x4_2 (ji20))
                       try go_wp2_with (first | ((with_reducible refine gate_store (t := 9) (p := 88) rfl ?_); refine store_event (t := 9) (p := 88) (v := ?vo_w36) (w1 := (w34.setCell ⟨go26, (x11_2 : Int).toNat, none⟩ (.string (rdOf ByteArray.empty x4_2 (ji20))))) ?hg ?ho ?hn ?hr ?_; (case ho => rfl); (case hg => rfl); (case hn => rfl); (case hr => first | (go_simp; done) | (go_simp; rfl)); intro w36 hw; have hg : w34.grownBy w36 (some go26) := (by rw [hw]; exact HP35.2); have hp_ : Kd.R Kd.string 9 w36 w.heap.size (fun k_ => (w.heap.size ≤ k_)) (.slice (some ⟨go26, 0, none⟩) x4_2.length co18) y401 := (by rw [hw, Ny401.out]; exact HP35.1); clear HP35; have n0_ := Aside0.mk (Kd.V_afterv (v := (.slice (some ⟨go26, 0, none⟩) x4_2.length co18)) (v1 := (.slice (some ⟨go26, 0, none⟩) x4_2.length co18)) (ok := (fun k_ => (P0_ k_ ∨ w.heap.size ≤ k_) ∧ some k_ ≠ (v396 : Value).ownBlock)) (by (with_reducible repeat (first | apply Kd.V_alloc | apply Kd.V_drewN | apply Kd.V_drew)); exact Kd.V_mono HO_0.out (fun _ hk => ⟨⟨hk.1, hk.2.2⟩, hk.2.1⟩)) hg (.inl rfl)); have n1_ := Aside0.mk (hp_); have n2_ := Aside0.mk (Kd.N_afterv (v := (.slice (some ⟨go26, 0, none⟩) x4_2.length co18)) (v1 := (.slice (some ⟨go26, 0, none⟩) x4_2.length co18)) (ok := (fun k_ => (P0_ k_ ∨ w.heap.size ≤ k_))) (by (with_reducible repeat (first | apply Kd.N_alloc | apply Kd.N_drewN | apply Kd.N_drew)); exact HO_5.out) hg (.inl rfl)); have n3_ := Aside0.mk ((by rw [hw]; exact below_set (HB.out) GB26.out : Below w.heap.size w w36)); clear HO_0; clear HO_4; clear HO_5; clear HB; have HO_0 := n0_; have HO_4 := n1_; have HO_5 := n2_; have HB := n3_; clear n0_ n1_ n2_ n3_; clear hg hw hp_; have p27 : 0 ≤ ((ji20) : Int) := of_decide_eq_true (by first | (with_reducible assumption) | assumption); have q27 : ((ji20) : Int) < ((x4_2.length : Int) : Int) := of_decide_eq_true (by first | (with_reducible assumption) | assumption); obtain ⟨hx27_0, hf27_0⟩ := Kd.R_celln (⟨#[]⟩ : ByteArray) HO_4.out ((ji20) : Int) p27 q27; replace p27 := eq_true p27; replace q27 := eq_true q27; obtain ⟨hy37_, hz37_⟩ := Kd.R_celln (⟨#[]⟩ : ByteArray) HO_4.out ((ji20) : Int) (of_decide_eq_true (by first | (with_reducible assumption) | assumption)) (of_decide_eq_true (by first | (with_reducible assumption) | assumption)); have HP37 := Kd.R_putg HO_4.out ((ji20) : Int) t386) | ((with_reducible refine gate_store (t := 9) (p := 93) rfl ?_); refine store_event (t := 9) (p := 93) (v := ?vo_w38) (w1 := (w36.setCell ⟨go26, ((ji20) : Int).toNat, none⟩ (.string t386))) ?hg ?ho ?hn ?hr ?_; (case ho => rfl); (case hg => rfl); (case hn => rfl); (case hr => first | (go_simp; done) | (go_simp; rfl)); intro w38 hw; have hg : w36.grownBy w38 (some go26) := (by rw [hw]; exact HP37.2); have hp_ : Kd.R Kd.string 9 w38 w.heap.size (fun k_ => (w.heap.size ≤ k_)) (.slice (some ⟨go26, 0, none⟩) x4_2.length co18) y402 := (by rw [hw, Ny402.out]; exact HP37.1); clear HP37; have n0_ := Aside0.mk (Kd.V_afterv (v := (.slice (some ⟨go26, 0, none⟩) x4_2.length co18)) (v1 := (.slice (some ⟨go26, 0, none⟩) x4_2.length co18)) (ok := (fun k_ => (P0_ k_ ∨ w.heap.size ≤ k_) ∧ some k_ ≠ (v396 : Value).ownBlock)) (by (with_reducible repeat (first | apply Kd.V_alloc | apply Kd.V_drewN | apply Kd.V_drew)); exact HO_0.out) hg (.inl rfl)); have n1_ := Aside0.mk (hp_); have n2_ := Aside0.mk (Kd.N_afterv (v := (.slice (some ⟨go26, 0, none⟩) x4_2.length co18)) (v1 := (.slice (some ⟨go26, 0, none⟩) x4_2.length co18)) (ok := (fun k_ => (P0_ k_ ∨ w.heap.size ≤ k_))) (by (with_reducible repeat (first | apply Kd.N_alloc | apply Kd.N_drewN | apply Kd.N_drew)); exact HO_5.out) hg (.inl rfl)); have n3_ := Aside0.mk ((by rw [hw]; exact below_set (HB.out) GB26.out : Below w.heap.size w w38)); clear HO_0; clear HO_4; clear HO_5; clear HB; have HO_0 := n0_; have HO_4 := n1_; have HO_5 := n2_; have HB := n3_; clear n0_ n1_ n2_ n3_; clear hg hw hp_; obtain ⟨Ao39, co39, eo39⟩ := Kd.N_slice HO_5.out; subst eo39; have p403 : 0 ≤ ((ji20) : Int) := of_decide_eq_true (by first | (with_reducible assumption) | assumption); have q403 : (ji20) < (x5_2.length : Int) := of_decide_eq_true (by first | (with_reducible assumption) | assumption); obtain ⟨ad403, A403_0, c403_0, e403, hx403_0, hl403_0, hi403_0⟩ := at_L4 (Kd.N_reads' HO_5.out).2.2 (ji20) p403 q403; cases e403; obtain ⟨ce403, hce403, hMe403, hcc403⟩ := Kd.N_get HO_5.out [] (ji20) p403 (by first | exact q403 | exact of_decide_eq_true (by first | (with_reducible assumption) | assumption) | (have e_ := (Kd.N_reads' HO_5.out).1; omega)); obtain ⟨ua403_0, uc403_0, rfl, ul403_0, ge403_0⟩ := Kd.FK_slice_open hMe403; have hv403_0 := hcc403 0 _ rfl; rw [Nat.add_zero, show ((Kd.slice 25 k25)).sz = 1 from rfl, Nat.mul_one] at hv403_0; replace hv403_0 := Option.some.inj (hv403_0.symm.trans hx403_0); injection hv403_0 with hva_ hvn_ hvc_; rw [hva_] at ge403_0; rw [hvc_] at ul403_0; have HL403_0 := Aside0.mk (show Kd.V k25 25 _ w.heap.size _ _ (rd_L4 x5_2 (ji20)) from Kd.V_mk ul403_0 ge403_0); clear hva_ hvn_ hvc_ ge403_0 ul403_0; clear hcc403 hce403; have HR403_0 := Aside0.mk hi403_0; have HC403_0 := Aside0.mk hl403_0; clear hi403_0 hl403_0; replace p403 := eq_true p403; replace q403 := eq_true q403; have p30 : 0 ≤ (x11_2 : Int) := of_decide_eq_true (by first | (with_reducible assumption) | assumption); have q30 : (x11_2 : Int) < ((x5_2.length : Int) : Int) := of_decide_eq_true (by first | (with_reducible assumption) | assumption); obtain ⟨go30, co30, eo30, gb30, gl30, cl30, HG30⟩ := Kd.N_form HO_5.out (by omega); (first | cases eo30 | (injection eo30 with ea_ en_ ec_; (first | subst ea_ | (injection ea_ with ea_; subst ea_)); subst ec_; clear en_)); have GB30 := Aside0.mk gb30; have GG30 := Aside0.mk HG30; clear gb30 gl30 HG30; (first | simp only [add_plain] at hx403_0 | skip); obtain ⟨ce30, hcl30, hM30, hcc30, hfr30⟩ := Kd.N_elem HO_5.out [] (x11_2 : Int) p30 q30; obtain ⟨ua30_0, uc30_0, rfl, ul30_0, ge30_0⟩ := Kd.FK_slice_open hM30; have hx30_0 := hcc30 0 _ rfl; have hf30_0 := hfr30 0; (try simp only [show ((Kd.slice 25 k25)).sz = 1 from rfl, Nat.mul_one, Nat.add_zero, Int.toNat_natCast] at hx30_0); (try simp only [show ((Kd.slice 25 k25)).sz = 1 from rfl, Nat.mul_one, Nat.add_zero, Int.toNat_natCast] at hf30_0); clear hcl30 hcc30 hfr30 hM30; replace p30 := eq_true p30; replace q30 := eq_true q30; have HX40 := Aside0.mk (show Kd.N (Kd.slice 25 k25) 22 w38 w.heap.size (fun k_ => (P0_ k_ ∨ w.heap.size ≤ k_) ∧ some k_ ≠ (.slice (some ⟨go26, 0, none⟩) x4_2.length co18 : Value).ownBlock) (.slice (some ⟨go30, 0, none⟩) x5_2.length co39) x5_2 from (by (with_reducible repeat (first | apply Kd.N_alloc | apply Kd.N_drewN | apply Kd.N_drew)); exact HO_5.out)); obtain ⟨ce40, hcl40, hM40, hcc40, hfr40⟩ := Kd.N_elem HX40.out [] (x11_2 : Int) (of_decide_eq_true (by first | (with_reducible assumption) | assumption)) (by have h_ : (x11_2 : Int) < ((x5_2.length : Int) : Int) := of_decide_eq_true (by first | (with_reducible assumption) | assumption); first | exact h_ | (have e_ := (Kd.N_reads' HO_5.out).1; omega) | simpa using h_); obtain ⟨ua40_0, uc40_0, rfl, ul40_0, ge40_0⟩ := Kd.FK_slice_open hM40; have HP40 := Kd.N_seg HX40.out (x11_2 : Int) (of_decide_eq_true (by first | (with_reducible assumption) | assumption)) (by have h_ : (x11_2 : Int) < ((x5_2.length : Int) : Int) := of_decide_eq_true (by first | (with_reducible assumption) | assumption); first | exact h_ | (have e_ := (Kd.N_reads' HO_5.out).1; omega) | simpa using h_) (seg := [.slice A403_0 (rd_L4 x5_2 (ji20)).length c403_0]) (j := 0) hcl40 hcc40 (show 1 ≤ 1 from by decide) (x' := rd_L4 x5_2 (ji20)) (Kd.FK_slice_mk (Kd.V_reads' (Kd.V_mono (ok' := (fun k_ => ((fun k_ => (P0_ k_ ∨ w.heap.size ≤ k_) ∧ some k_ ≠ (.slice (some ⟨go26, 0, none⟩) x4_2.length co18 : Value).ownBlock)) k_ ∧ k_ ≠ go30)) (HL403_0.out) (fun k_ hk => ⟨⟨hk.1.1, hk.1.2⟩, fun e_ => (hk.2) (by rw [e_]; rfl)⟩))).2.1 (Kd.V_F (Kd.V_mono (ok' := (fun k_ => ((fun k_ => (P0_ k_ ∨ w.heap.size ≤ k_) ∧ some k_ ≠ (.slice (some ⟨go26, 0, none⟩) x4_2.length co18 : Value).ownBlock)) k_ ∧ k_ ≠ go30)) (HL403_0.out) (fun k_ hk => ⟨⟨hk.1.1, hk.1.2⟩, fun e_ => (hk.2) (by rw [e_]; rfl)⟩)))) (fun _ hk => hk); have hx40_0 := hcc40 0 _ rfl; (try simp only [show ((Kd.slice 25 k25)).sz = 1 from rfl, Nat.mul_one, Nat.add_zero, Int.toNat_natCast] at hx40_0); have hf40_0 := hfr40 0; (try simp only [show ((Kd.slice 25 k25)).sz = 1 from rfl, Nat.mul_one, Nat.add_zero, Int.toNat_natCast] at hf40_0); clear hcl40 hcc40 hfr40 hM40; (try simp only [show ((Kd.slice 25 k25)).sz = 1 from rfl, Nat.mul_one, Nat.add_zero, Int.toNat_natCast] at HP40); (try simp only [show ((Kd.slice 25 k25)).sz = 1 from rfl, Nat.mul_one, Nat.add_zero, Int.toNat_natCast] at HP40)) | ((with_reducible refine gate_store (t := 22) (p := 101) rfl ?_); refine store_event (t := 22) (p := 101) (v := ?vo_w41) (w1 := (w38.setCell ⟨go30, (x11_2 : Int).toNat, none⟩ (.slice A403_0 (rd_L4 x5_2 (ji20)).length c403_0))) ?hg ?ho ?hn ?hr ?_; (case ho => rfl); (case hg => rfl); (case hn => rfl); (case hr => first | (go_simp; done) | (go_simp; rfl)); intro w41 hw; have hg : w38.grownBy w41 (some go30) := (by rw [hw]; exact HP40.2); have hp_ : Kd.N (Kd.slice 25 k25) 22 w41 w.heap.size (fun k_ => (P0_ k_ ∨ w.heap.size ≤ k_) ∧ some k_ ≠ (.slice (some ⟨go26, 0, none⟩) x4_2.length co18 : Value).ownBlock) (.slice (some ⟨go30, 0, none⟩) x5_2.length co39) y404 := (by rw [hw, Ny404.out]; exact HP40.1); clear HP40; have n0_ := Aside0.mk (Kd.V_afterv (v := (.slice (some ⟨go30, 0, none⟩) x5_2.length co39)) (v1 := (.slice (some ⟨go30, 0, none⟩) x5_2.length co39)) (ok := (fun k_ => (P0_ k_ ∨ w.heap.size ≤ k_) ∧ some k_ ≠ (.slice (some ⟨go26, 0, none⟩) x4_2.length co18 : Value).ownBlock)) (by (with_reducible repeat (first | apply Kd.V_alloc | apply Kd.V_drewN | apply Kd.V_drew)); exact Kd.V_mono HO_0.out (fun _ hk => ⟨⟨hk.1.1, hk.2⟩, hk.1.2⟩)) hg (.inl rfl)); have n1_ := Aside0.mk (Kd.R_over' (v := (.slice (some ⟨go30, 0, none⟩) x5_2.length co39)) (by (with_reducible repeat (first | apply Kd.R_alloc | apply Kd.R_drewN | apply Kd.R_drew)); exact HO_4.out) (Kd.N_typed HO_5.out) (by decide) hg); have n2_ := Aside0.mk (hp_); have n3_ := Aside0.mk (Kd.V_afterv (v := (.slice (some ⟨go30, 0, none⟩) x5_2.length co39)) (v1 := (.slice (some ⟨go30, 0, none⟩) x5_2.length co39)) (ok := (fun k_ => (P0_ k_ ∨ w.heap.size ≤ k_) ∧ some k_ ≠ (.slice (some ⟨go26, 0, none⟩) x4_2.length co18 : Value).ownBlock)) (by (with_reducible repeat (first | apply Kd.V_alloc | apply Kd.V_drewN | apply Kd.V_drew)); exact HL403_0.out) hg (.inl rfl)); have n4_ := Aside0.mk ((by rw [hw]; exact below_set (HB.out) GB30.out : Below w.heap.size w w41)); clear HO_0; clear HO_4; clear HO_5; clear HL403_0; clear HB; have HO_0 := n0_; have HO_4 := n1_; have HO_5 := n2_; have HL403_0 := n3_; have HB := n4_; clear n0_ n1_ n2_ n3_ n4_; clear hg hw hp_; have p405 : 0 ≤ (x6_1 : Int) := of_decide_eq_true (by first | (with_reducible assumption) | assumption); have q405 : x6_1 < (x0_1.length : Int) := of_decide_eq_true (by first | (with_reducible assumption) | assumption); obtain ⟨ad405, A405_0, c405_0, e405, hx405_0, hl405_0, hi405_0⟩ := at_L4 (Kd.V_reads' HO_0.out).2.2 x6_1 p405 q405; obtain rfl : ad384 = ad405 := (by injection e405); obtain ⟨ce405, hce405, hMe405, hcc405⟩ := Kd.V_get HO_0.out [] x6_1 p405 (by first | exact q405 | exact of_decide_eq_true (by first | (with_reducible assumption) | assumption) | (have e_ := (Kd.V_reads' HO_0.out).1; omega)); obtain ⟨ua405_0, uc405_0, rfl, ul405_0, ge405_0⟩ := Kd.FK_slice_open hMe405; have hv405_0 := hcc405 0 _ rfl; rw [Nat.add_zero, show ((Kd.slice 25 k25)).sz = 1 from rfl, Nat.mul_one] at hv405_0; replace hv405_0 := Option.some.inj (hv405_0.symm.trans hx405_0); injection hv405_0 with hva_ hvn_ hvc_; rw [hva_] at ge405_0; rw [hvc_] at ul405_0; have HL405_0 := Aside0.mk (show Kd.V k25 25 _ w.heap.size _ _ (rd_L4 x0_1 x6_1) from Kd.V_mk ul405_0 ge405_0); clear hva_ hvn_ hvc_ ge405_0 ul405_0; clear hcc405 hce405; have HR405_0 := Aside0.mk hi405_0; have HC405_0 := Aside0.mk hl405_0; clear hi405_0 hl405_0; replace p405 := eq_true p405; replace q405 := eq_true q405; have p33 : 0 ≤ ((ji20) : Int) := of_decide_eq_true (by first | (with_reducible assumption) | assumption); have q33 : ((ji20) : Int) < ((x5_2.length : Int) : Int) := of_decide_eq_true (by first | (with_reducible assumption) | assumption); obtain ⟨ce33, hcl33, hM33, hcc33, hfr33⟩ := Kd.N_elem HO_5.out [] ((ji20) : Int) p33 q33; obtain ⟨ua33_0, uc33_0, rfl, ul33_0, ge33_0⟩ := Kd.FK_slice_open hM33; have hx33_0 := hcc33 0 _ rfl; have hf33_0 := hfr33 0; (try simp only [show ((Kd.slice 25 k25)).sz = 1 from rfl, Nat.mul_one, Nat.add_zero, Int.toNat_natCast] at hx33_0); (try simp only [show ((Kd.slice 25 k25)).sz = 1 from rfl, Nat.mul_one, Nat.add_zero, Int.toNat_natCast] at hf33_0); clear hcl33 hcc33 hfr33 hM33; replace p33 := eq_true p33; replace q33 := eq_true q33; have HX42 := Aside0.mk (show Kd.N (Kd.slice 25 k25) 22 w41 w.heap.size (fun k_ => (P0_ k_ ∨ w.heap.size ≤ k_) ∧ some k_ ≠ (.slice (some ⟨go26, 0, none⟩) x4_2.length co18 : Value).ownBlock) (.slice (some ⟨go30, 0, none⟩) x5_2.length co39) y404 from (by (with_reducible repeat (first | apply Kd.N_alloc | apply Kd.N_drewN | apply Kd.N_drew)); exact HO_5.out)); obtain ⟨ce42, hcl42, hM42, hcc42, hfr42⟩ := Kd.N_elem HX42.out [] ((ji20) : Int) (of_decide_eq_true (by first | (with_reducible assumption) | assumption)) (by have h_ : ((ji20) : Int) < ((x5_2.length : Int) : Int) := of_decide_eq_true (by first | (with_reducible assumption) | assumption); first | exact h_ | (have e_ := (Kd.N_reads' HO_5.out).1; omega) | simpa using h_); obtain ⟨ua42_0, uc42_0, rfl, ul42_0, ge42_0⟩ := Kd.FK_slice_open hM42; have HP42 := Kd.N_seg HX42.out ((ji20) : Int) (of_decide_eq_true (by first | (with_reducible assumption) | assumption)) (by have h_ : ((ji20) : Int) < ((x5_2.length : Int) : Int) := of_decide_eq_true (by first | (with_reducible assumption) | assumption); first | exact h_ | (have e_ := (Kd.N_reads' HO_5.out).1; omega) | simpa using h_) (seg := [.slice A405_0 (rd_L4 x0_1 x6_1).length c405_0]) (j := 0) hcl42 hcc42 (show 1 ≤ 1 from by decide) (x' := rd_L4 x0_1 x6_1) (Kd.FK_slice_mk (Kd.V_reads' (Kd.V_mono (ok' := (fun k_ => ((fun k_ => (P0_ k_ ∨ w.heap.size ≤ k_) ∧ some k_ ≠ (.slice (some ⟨go26, 0, none⟩) x4_2.length co18 : Value).ownBlock)) k_ ∧ k_ ≠ go30)) (HL405_0.out) (fun k_ hk => ⟨⟨hk.1.1, hk.1.2⟩, fun e_ => (hk.2) (by rw [e_]; rfl)⟩))).2.1 (Kd.V_F (Kd.V_mono (ok' := (fun k_ => ((fun k_ => (P0_ k_ ∨ w.heap.size ≤ k_) ∧ some k_ ≠ (.slice (some ⟨go26, 0, none⟩) x4_2.length co18 : Value).ownBlock)) k_ ∧ k_ ≠ go30)) (HL405_0.out) (fun k_ hk => ⟨⟨hk.1.1, hk.1.2⟩, fun e_ => (hk.2) (by rw [e_]; rfl)⟩)))) (fun _ hk => hk); have hx42_0 := hcc42 0 _ rfl; (try simp only [show ((Kd.slice 25 k25)).sz = 1 from rfl, Nat.mul_one, Nat.add_zero, Int.toNat_natCast] at hx42_0); have hf42_0 := hfr42 0; (try simp only [show ((Kd.slice 25 k25)).sz = 1 from rfl, Nat.mul_one, Nat.add_zero, Int.toNat_natCast] at hf42_0); clear hcl42 hcc42 hfr42 hM42; (try simp only [show ((Kd.slice 25 k25)).sz = 1 from rfl, Nat.mul_one, Nat.add_zero, Int.toNat_natCast] at HP42); (try simp only [show ((Kd.slice 25 k25)).sz = 1 from rfl, Nat.mul_one, Nat.add_zero, Int.toNat_natCast] at HP42)) | ((with_reducible refine gate_store (t := 22) (p := 109) rfl ?_); refine store_event (t := 22) (p := 109) (v := ?vo_w43) (w1 := (w41.setCell ⟨go30, ((ji20) : Int).toNat, none⟩ (.slice A405_0 (rd_L4 x0_1 x6_1).length c405_0))) ?hg ?ho ?hn ?hr ?_; (case ho => rfl); (case hg => rfl); (case hn => rfl); (case hr => first | (go_simp; done) | (go_simp; rfl)); intro w43 hw; have hg : w41.grownBy w43 (some go30) := (by rw [hw]; exact HP42.2); have hp_ : Kd.N (Kd.slice 25 k25) 22 w43 w.heap.size (fun k_ => (P0_ k_ ∨ w.heap.size ≤ k_) ∧ some k_ ≠ (.slice (some ⟨go26, 0, none⟩) x4_2.length co18 : Value).ownBlock) (.slice (some ⟨go30, 0, none⟩) x5_2.length co39) y406 := (by rw [hw, Ny406.out]; exact HP42.1); clear HP42; have n0_ := Aside0.mk (Kd.V_afterv (v := (.slice (some ⟨go30, 0, none⟩) x5_2.length co39)) (v1 := (.slice (some ⟨go30, 0, none⟩) x5_2.length co39)) (ok := (fun k_ => (P0_ k_ ∨ w.heap.size ≤ k_) ∧ some k_ ≠ (.slice (some ⟨go26, 0, none⟩) x4_2.length co18 : Value).ownBlock)) (by (with_reducible repeat (first | apply Kd.V_alloc | apply Kd.V_drewN | apply Kd.V_drew)); exact HO_0.out) hg (.inl rfl)); have n1_ := Aside0.mk (Kd.R_over' (v := (.slice (some ⟨go30, 0, none⟩) x5_2.length co39)) (by (with_reducible repeat (first | apply Kd.R_alloc | apply Kd.R_drewN | apply Kd.R_drew)); exact HO_4.out) (Kd.N_typed HO_5.out) (by decide) hg); have n2_ := Aside0.mk (hp_); have n3_ := Aside0.mk (Kd.V_afterv (v := (.slice (some ⟨go30, 0, none⟩) x5_2.length co39)) (v1 := (.slice (some ⟨go30, 0, none⟩) x5_2.length co39)) (ok := (fun k_ => (P0_ k_ ∨ w.heap.size ≤ k_) ∧ some k_ ≠ (.slice (some ⟨go26, 0, none⟩) x4_2.length co18 : Value).ownBlock)) (by (with_reducible repeat (first | apply Kd.V_alloc | apply Kd.V_drewN | apply Kd.V_drew)); exact HL403_0.out) hg (.inl rfl)); have n4_ := Aside0.mk (Kd.V_afterv (v := (.slice (some ⟨go30, 0, none⟩) x5_2.length co39)) (v1 := (.slice (some ⟨go30, 0, none⟩) x5_2.length co39)) (ok := (fun k_ => (P0_ k_ ∨ w.heap.size ≤ k_) ∧ some k_ ≠ (.slice (some ⟨go26, 0, none⟩) x4_2.length co18 : Value).ownBlock)) (by (with_reducible repeat (first | apply Kd.V_alloc | apply Kd.V_drewN | apply Kd.V_drew)); exact HL405_0.out) hg (.inl rfl)); have n5_ := Aside0.mk ((by rw [hw]; exact below_set (HB.out) GB30.out : Below w.heap.size w w43)); clear HO_0; clear HO_4; clear HO_5; clear HL403_0; clear HL405_0; clear HB; have HO_0 := n0_; have HO_4 := n1_; have HO_5 := n2_; have HL403_0 := n3_; have HL405_0 := n4_; have HB := n5_; clear n0_ n1_ n2_ n3_ n4_ n5_; clear hg hw hp_))
                       (try simp only [← hl4_2])
                       go_roundg k2
                       case measure => have := HK1.out; have := HK2.out; omega
                       case rel => exact ⟨(y402), (y406), (ji20), (by first | rfl | (simp; done) | (simp only [← hji20] <;> (first | rfl | simp)) | (simp [*]; done)), H', ⟨by have := HK1.out; have := HK2.out; omega⟩, ⟨by (try simp only [hl0_1]); (try simp only [hl4_2]); (with_reducible repeat (first | apply Kd.V_alloc | apply Kd.V_drewN | apply Kd.V_drew)); exact Kd.V_mono HO_0.out (fun _ hk => ⟨hk.1.1, ⟨hk.1.2, hk.2⟩⟩)⟩, ⟨by (try simp only [hl0_1]); (try simp only [hl4_2]); (with_reducible repeat (first | apply Kd.R_alloc | apply Kd.R_drewN | apply Kd.R_drew)); exact HO_4.out⟩, ⟨by (try simp only [hl0_1]); (try simp only [hl4_2]); (with_reducible repeat (first | apply Kd.N_alloc | apply Kd.N_drewN | apply Kd.N_drew)); exact HO_5.out⟩, ⟨by repeat (first | (with_reducible first | exact HB.out | apply below_alloc | apply pw_below_drewN | apply below_drew1) | exact HB.out)⟩⟩
                      ·
                       rw [if_neg c32] at H
                       exact absurd H (by simp)
                     ·
                      rw [if_neg c31] at H
                      exact absurd H (by simp)
                    ·
                     rw [if_neg c29] at H
                     exact absurd H (by simp)
                   ·
                    rw [if_neg c28] at H
                    exact absurd H (by simp)
                  ·
                   rw [if_neg c25] at H
                   have c25b0 : (Op.bytesLess ((rdOf ByteArray.empty x4_2 x11_2).toList) ((rdOf ByteArray.empty x4_2 (ji20)).toList)) = false := by simpa using c25
                   have c25bn : (!Op.bytesLess ((rdOf ByteArray.empty x4_2 x11_2).toList) ((rdOf ByteArray.empty x4_2 (ji20)).toList)) = true := by rw [c25b0]; rfl
                   try (have c25be : (((rdOf ByteArray.empty x4_2 x11_2).toList) == ((rdOf ByteArray.empty x4_2 (ji20)).toList)) = true := bl_eq c25b0 (by assumption))
                   try (have c25bf : (((rdOf ByteArray.empty x4_2 (ji20)).toList) == ((rdOf ByteArray.empty x4_2 x11_2).toList)) = true := bl_eq (by assumption) c25b0)
                   have c25bh : (Op.bytesLess ((rdOf ByteArray.empty x4_2 (ji20)).toList) ((rdOf ByteArray.empty x4_2 x11_2).toList) || ((rdOf ByteArray.empty x4_2 (ji20)).toList) == ((rdOf ByteArray.empty x4_2 x11_2).toList)) = true := bl_le c25b0
                   clear c25
                   have H' := Aside0.mk H
                   clear H
                   try go_wp2
                   have n0_ := Aside0.mk (Kd.V_drew HO_0.out)
                   have n1_ := Aside0.mk (Kd.R_drew HO_4.out)
                   have n2_ := Aside0.mk (Kd.N_drew HO_5.out)
                   have n3_ := Aside0.mk (below_drew1 HB.out)
                   clear HO_0
                   clear HO_4
                   clear HO_5
                   clear HB
                   have HO_0 := n0_
                   have HO_4 := n1_
                   have HO_5 := n2_
                   have HB := n3_
                   clear n0_ n1_ n2_ n3_
                   have p398 : 0 ≤ ((ji20) : Int) := of_decide_eq_true (by first | (with_reducible assumption) | assumption)
                   have q398 : (ji20) < (x4_2.length : Int) := of_decide_eq_true (by first | (with_reducible assumption) | assumption)
                   obtain ⟨ad398, e398, hx398_0⟩ := Kd.at_string (Kd.R_reads' HO_4.out).2.2 (ji20) p398 q398
                   cases e398
                   replace p398 := eq_true p398
                   replace q398 := eq_true q398
                   have p399 : 0 ≤ (x11_2 : Int) := of_decide_eq_true (by first | (with_reducible assumption) | assumption)
                   have q399 : x11_2 < (x4_2.length : Int) := of_decide_eq_true (by first | (with_reducible assumption) | assumption)
                   obtain ⟨ad399, e399, hx399_0⟩ := Kd.at_string (Kd.R_reads' HO_4.out).2.2 x11_2 p399 q399
                   obtain rfl : ad398 = ad399 := (by injection e399)
                   replace p399 := eq_true p399
                   replace q399 := eq_true q399
                   refine start_ (n := 14) (S := fun w' => w'.cell? (ad398.add ((ji20)).toNat) = some (.string (rdOf ByteArray.empty x4_2 (ji20))) ∧ w'.cell? (ad398.add (x11_2).toNat) = some (.string (rdOf ByteArray.empty x4_2 x11_2))) (ds := []) #[false, false, false, false, false, false, false, false, false, false, false, false, false, false] (by kernel_rfl) rfl rfl ⟨hx398_0, hx399_0⟩ (fun hHeld => ?_); refine with_tabW unisonlaw02_KeySorted.tab18 unisonlaw02_KeySorted.bits18 (fun HT_ HW_ => ?_)
                   generalize wr.drew = w44 at HO_0 HO_4 HO_5 HB hx398_0 hx399_0 hHeld ⊢
                   refine pure_ (i := 0) (N := some 65) (v := ?_) (a' := ?_) #[true, false, false, false, false, false, false, false, false, false, false, false, false, false] rfl rfl (any_of HT_.out (by kernel_rfl)) (fun _ _ _ h => h) (Or.inl ⟨by rfl, ?_⟩) ?_ ?_
                   rotate_left; focus (intro w'; go_simp; with_reducible rfl; done)
                   rotate_left; focus (simp only [Act.put, List.setIfInBounds_toArray, List.set_cons_zero, List.set_cons_succ, i64_w, i32_w, u8_w, u32_w]; rfl; done)
                   refine pure_ (i := 1) (N := some 66) (v := ?_) (a' := ?_) #[true, true, false, false, false, false, false, false, false, false, false, false, false, false] rfl rfl (any_of HT_.out (by kernel_rfl)) (fun _ _ _ h => h) (Or.inl ⟨by rfl, ?_⟩) ?_ ?_
                   rotate_left; focus (intro w'; go_simp; with_reducible rfl; done)
                   rotate_left; focus (simp only [Act.put, List.setIfInBounds_toArray, List.set_cons_zero, List.set_cons_succ, i64_w, i32_w, u8_w, u32_w]; rfl; done)
                   refine pure_ (i := 2) (N := some 67) (v := ?_) (a' := ?_) #[true, true, true, false, false, false, false, false, false, false, false, false, false, false] rfl rfl (any_of HT_.out (by kernel_rfl)) (fun _ _ _ h => h) (Or.inl ⟨by rfl, ?_⟩) ?_ ?_
                   rotate_left; focus (intro w'; go_simp; with_reducible rfl; done)
                   rotate_left; focus (simp only [Act.put, List.setIfInBounds_toArray, List.set_cons_zero, List.set_cons_succ, i64_w, i32_w, u8_w, u32_w]; rfl; done)
                   refine pure_ (i := 3) (N := some 68) (v := ?_) (a' := ?_) #[true, true, true, true, false, false, false, false, false, false, false, false, false, false] rfl rfl (any_of HT_.out (by kernel_rfl)) (fun _ _ _ h => h) (Or.inl ⟨by rfl, ?_⟩) ?_ ?_
                   rotate_left; focus (intro w'; go_simp; with_reducible rfl; done)
                   rotate_left; focus (simp only [Act.put, List.setIfInBounds_toArray, List.set_cons_zero, List.set_cons_succ, i64_w, i32_w, u8_w, u32_w]; rfl; done)
                   refine pure_ (i := 4) (N := some 69) (v := ?_) (a' := ?_) #[true, true, true, true, true, false, false, false, false, false, false, false, false, false] rfl rfl (any_of HT_.out (by kernel_rfl)) (fun _ _ _ h => h) (Or.inl ⟨by rfl, ?_⟩) ?_ ?_
                   rotate_left; focus (intro w'; go_simp; with_reducible rfl; done)
                   rotate_left; focus (simp only [Act.put, List.setIfInBounds_toArray, List.set_cons_zero, List.set_cons_succ, i64_w, i32_w, u8_w, u32_w]; rfl; done)
                   refine pure_ (i := 5) (N := some 70) (v := ?_) (a' := ?_) #[true, true, true, true, true, true, false, false, false, false, false, false, false, false] rfl rfl (any_of HT_.out (by kernel_rfl)) (fun _ _ _ h => h) (Or.inl ⟨by rfl, ?_⟩) ?_ ?_
                   rotate_left; focus (intro w'; go_simp; with_reducible rfl; done)
                   rotate_left; focus (simp only [Act.put, List.setIfInBounds_toArray, List.set_cons_zero, List.set_cons_succ, i64_w, i32_w, u8_w, u32_w]; rfl; done)
                   refine pure_ (i := 6) (N := some 71) (v := ?_) (a' := ?_) #[true, true, true, true, true, true, true, false, false, false, false, false, false, false] rfl rfl (any_of HT_.out (by kernel_rfl)) (fun _ _ _ h => h) (Or.inl ⟨by rfl, ?_⟩) ?_ ?_
                   rotate_left; focus (intro w'; go_simp; with_reducible rfl; done)
                   rotate_left; focus (simp only [Act.put, List.setIfInBounds_toArray, List.set_cons_zero, List.set_cons_succ, i64_w, i32_w, u8_w, u32_w]; rfl; done)
                   refine pure_ (i := 8) (N := some 73) (v := ?_) (a' := ?_) #[true, true, true, true, true, true, true, false, true, false, false, false, false, false] rfl rfl (any_of HT_.out (by kernel_rfl)) (fun _ _ _ h => h) (Or.inl ⟨by rfl, ?_⟩) ?_ ?_
                   rotate_left; focus (intro w'; go_simp; with_reducible rfl; done)
                   rotate_left; focus (simp only [Act.put, List.setIfInBounds_toArray, List.set_cons_zero, List.set_cons_succ, i64_w, i32_w, u8_w, u32_w]; rfl; done)
                   refine pure_ (i := 9) (N := some 74) (v := ?_) (a' := ?_) #[true, true, true, true, true, true, true, false, true, true, false, false, false, false] rfl rfl (any_of HT_.out (by kernel_rfl)) (fun _ _ _ h => h) (Or.inl ⟨by rfl, ?_⟩) ?_ ?_
                   rotate_left; focus (intro w'; go_simp; with_reducible rfl; done)
                   rotate_left; focus (simp only [Act.put, List.setIfInBounds_toArray, List.set_cons_zero, List.set_cons_succ, i64_w, i32_w, u8_w, u32_w]; rfl; done)
                   refine pure_ (i := 10) (N := some 75) (v := ?_) (a' := ?_) #[true, true, true, true, true, true, true, false, true, true, true, false, false, false] rfl rfl (any_of HT_.out (by kernel_rfl)) (fun _ _ _ h => h) (Or.inl ⟨by rfl, ?_⟩) ?_ ?_
                   rotate_left; focus (intro w'; go_simp; with_reducible rfl; done)
                   rotate_left; focus (simp only [Act.put, List.setIfInBounds_toArray, List.set_cons_zero, List.set_cons_succ, i64_w, i32_w, u8_w, u32_w]; rfl; done)
                   refine take_ (i := 7) (N := some 72) (v := ?_) (a' := ?_) #[true, true, true, true, true, true, true, true, true, true, true, false, false, false] rfl rfl (take_ofW HT_.out HW_.out (by kernel_rfl)) (fun _ _ _ h => h) (Or.inl ⟨by rfl, ?_⟩) hHeld ?_ ?_
                   rotate_left; focus (rintro w' ⟨s0, s1⟩; go_simp; with_reducible rfl; done)
                   rotate_left; focus (simp only [Act.put, List.setIfInBounds_toArray, List.set_cons_zero, List.set_cons_succ, i64_w, i32_w, u8_w, u32_w]; rfl; done)
                   refine take_ (i := 11) (N := some 76) (v := ?_) (a' := ?_) #[true, true, true, true, true, true, true, true, true, true, true, true, false, false] rfl rfl (take_ofW HT_.out HW_.out (by kernel_rfl)) (fun _ _ _ h => h) (Or.inl ⟨by rfl, ?_⟩) hHeld ?_ ?_
                   rotate_left; focus (rintro w' ⟨s0, s1⟩; go_simp; with_reducible rfl; done)
                   rotate_left; focus (simp only [Act.put, List.setIfInBounds_toArray, List.set_cons_zero, List.set_cons_succ, i64_w, i32_w, u8_w, u32_w]; rfl; done)
                   refine pure_ (i := 12) (N := some 77) (v := ?_) (a' := ?_) #[true, true, true, true, true, true, true, true, true, true, true, true, true, false] rfl rfl (any_of HT_.out (by kernel_rfl)) (fun _ _ _ h => h) (Or.inl ⟨by rfl, ?_⟩) ?_ ?_
                   rotate_left; focus (intro w'; go_simp; with_reducible rfl; done)
                   rotate_left; focus (simp only [Act.put, List.setIfInBounds_toArray, List.set_cons_zero, List.set_cons_succ, i64_w, i32_w, u8_w, u32_w]; rfl; done)
                   refine pure_ (i := 13) (N := some 78) (v := ?_) (a' := ?_) #[true, true, true, true, true, true, true, true, true, true, true, true, true, true] rfl rfl (any_of HT_.out (by kernel_rfl)) (fun _ _ _ h => h) (Or.inl ⟨by rfl, ?_⟩) ?_ ?_
                   rotate_left; focus (intro w'; go_simp; with_reducible rfl; done)
                   rotate_left; focus (simp only [Act.put, List.setIfInBounds_toArray, List.set_cons_zero, List.set_cons_succ, i64_w, i32_w, u8_w, u32_w]; rfl; done)
                   refine done_ (done_of HT_.out (by kernel_rfl)) ?_
                   try go_wp2
                   (try simp only [← hl0_1, ← hl4_2])
                   go_roundg k2
                   case measure => have := HK1.out; have := HK2.out; omega
                   case rel => exact ⟨(x0_1), (x4_2), (x5_2), (wrap64 (x6_1 + 1)), (by first | rfl | (simp; done) | (simp [*]; done)), H', ⟨by have := HK1.out; have := HK2.out; omega⟩, ⟨by (try simp only [hl0_1]); (try simp only [hl4_2]); (with_reducible repeat (first | apply Kd.V_alloc | apply Kd.V_drewN | apply Kd.V_drew)); exact HO_0.out⟩, ⟨by (try simp only [hl0_1]); (try simp only [hl4_2]); (with_reducible repeat (first | apply Kd.R_alloc | apply Kd.R_drewN | apply Kd.R_drew)); exact HO_4.out⟩, ⟨by (try simp only [hl0_1]); (try simp only [hl4_2]); (with_reducible repeat (first | apply Kd.N_alloc | apply Kd.N_drewN | apply Kd.N_drew)); exact HO_5.out⟩, ⟨by repeat (first | (with_reducible first | exact HB.out | apply below_alloc | apply pw_below_drewN | apply below_drew1) | exact HB.out)⟩⟩
                 ·
                  rw [if_neg c24] at H
                  exact absurd H (by simp)
                ·
                 rw [if_neg c23] at H
                 exact absurd H (by simp)
               ·
                rw [if_neg c22] at H
                exact absurd H (by simp)
              ·
               rw [if_neg c21] at H
               exact absurd H (by simp)
             ·
              rw [if_neg c19] at H
              have c19b0 : decide (0 < x11_2) = false := decide_eq_false c19
              clear c19
              have H' := Aside0.mk H
              clear H
              try go_wp2
              have n0_ := Aside0.mk (Kd.V_drew HO_0.out)
              have n1_ := Aside0.mk (Kd.R_drew HO_4.out)
              have n2_ := Aside0.mk (Kd.N_drew HO_5.out)
              have n3_ := Aside0.mk (below_drew1 HB.out)
              clear HO_0
              clear HO_4
              clear HO_5
              clear HB
              have HO_0 := n0_
              have HO_4 := n1_
              have HO_5 := n2_
              have HB := n3_
              clear n0_ n1_ n2_ n3_
              refine start_ (n := 14) (S := fun w' => True) (ds := []) #[false, false, false, false, false, false, false, false, false, false, false, false, false, false] (by kernel_rfl) rfl rfl trivial (fun hHeld => ?_); refine with_tabW unisonlaw02_KeySorted.tab18 unisonlaw02_KeySorted.bits18 (fun HT_ HW_ => ?_)
              generalize wr.drew = w45 at HO_0 HO_4 HO_5 HB hHeld ⊢
              refine pure_ (i := 0) (N := some 65) (v := ?_) (a' := ?_) #[true, false, false, false, false, false, false, false, false, false, false, false, false, false] rfl rfl (any_of HT_.out (by kernel_rfl)) (fun _ _ _ h => h) (Or.inl ⟨by rfl, ?_⟩) ?_ ?_
              rotate_left; focus (intro w'; go_simp; with_reducible rfl; done)
              rotate_left; focus (simp only [Act.put, List.setIfInBounds_toArray, List.set_cons_zero, List.set_cons_succ, i64_w, i32_w, u8_w, u32_w]; rfl; done)
              refine pure_ (i := 1) (N := some 66) (v := ?_) (a' := ?_) #[true, true, false, false, false, false, false, false, false, false, false, false, false, false] rfl rfl (any_of HT_.out (by kernel_rfl)) (fun _ _ _ h => h) (Or.inl ⟨by rfl, ?_⟩) ?_ ?_
              rotate_left; focus (intro w'; go_simp; with_reducible rfl; done)
              rotate_left; focus (simp only [Act.put, List.setIfInBounds_toArray, List.set_cons_zero, List.set_cons_succ, i64_w, i32_w, u8_w, u32_w]; rfl; done)
              refine pure_ (i := 2) (N := some 67) (v := ?_) (a' := ?_) #[true, true, true, false, false, false, false, false, false, false, false, false, false, false] rfl rfl (any_of HT_.out (by kernel_rfl)) (fun _ _ _ h => h) (Or.inl ⟨by rfl, ?_⟩) ?_ ?_
              rotate_left; focus (intro w'; go_simp; with_reducible rfl; done)
              rotate_left; focus (simp only [Act.put, List.setIfInBounds_toArray, List.set_cons_zero, List.set_cons_succ, i64_w, i32_w, u8_w, u32_w]; rfl; done)
              refine pure_ (i := 3) (N := some 68) (v := undef) (a' := ?_) #[true, true, true, true, false, false, false, false, false, false, false, false, false, false] rfl rfl (any_of HT_.out (by kernel_rfl)) (fun _ _ _ h => h) (Or.inr ⟨by rfl, rfl⟩) ?_ ?_
              rotate_left; focus (simp only [Act.put, List.setIfInBounds_toArray, List.set_cons_zero, List.set_cons_succ, i64_w, i32_w, u8_w, u32_w]; rfl; done)
              refine pure_ (i := 4) (N := some 69) (v := undef) (a' := ?_) #[true, true, true, true, true, false, false, false, false, false, false, false, false, false] rfl rfl (any_of HT_.out (by kernel_rfl)) (fun _ _ _ h => h) (Or.inr ⟨by rfl, rfl⟩) ?_ ?_
              rotate_left; focus (simp only [Act.put, List.setIfInBounds_toArray, List.set_cons_zero, List.set_cons_succ, i64_w, i32_w, u8_w, u32_w]; rfl; done)
              refine pure_ (i := 5) (N := some 70) (v := undef) (a' := ?_) #[true, true, true, true, true, true, false, false, false, false, false, false, false, false] rfl rfl (any_of HT_.out (by kernel_rfl)) (fun _ _ _ h => h) (Or.inr ⟨by rfl, rfl⟩) ?_ ?_
              rotate_left; focus (simp only [Act.put, List.setIfInBounds_toArray, List.set_cons_zero, List.set_cons_succ, i64_w, i32_w, u8_w, u32_w]; rfl; done)
              refine pure_ (i := 6) (N := some 71) (v := undef) (a' := ?_) #[true, true, true, true, true, true, true, false, false, false, false, false, false, false] rfl rfl (any_of HT_.out (by kernel_rfl)) (fun _ _ _ h => h) (Or.inr ⟨by rfl, rfl⟩) ?_ ?_
              rotate_left; focus (simp only [Act.put, List.setIfInBounds_toArray, List.set_cons_zero, List.set_cons_succ, i64_w, i32_w, u8_w, u32_w]; rfl; done)
              refine pure_ (i := 7) (N := some 72) (v := undef) (a' := ?_) #[true, true, true, true, true, true, true, true, false, false, false, false, false, false] rfl rfl (any_of HT_.out (by kernel_rfl)) (fun _ _ _ h => h) (Or.inr ⟨by rfl, rfl⟩) ?_ ?_
              rotate_left; focus (simp only [Act.put, List.setIfInBounds_toArray, List.set_cons_zero, List.set_cons_succ, i64_w, i32_w, u8_w, u32_w]; rfl; done)
              refine pure_ (i := 8) (N := some 73) (v := undef) (a' := ?_) #[true, true, true, true, true, true, true, true, true, false, false, false, false, false] rfl rfl (any_of HT_.out (by kernel_rfl)) (fun _ _ _ h => h) (Or.inr ⟨by rfl, rfl⟩) ?_ ?_
              rotate_left; focus (simp only [Act.put, List.setIfInBounds_toArray, List.set_cons_zero, List.set_cons_succ, i64_w, i32_w, u8_w, u32_w]; rfl; done)
              refine pure_ (i := 9) (N := some 74) (v := undef) (a' := ?_) #[true, true, true, true, true, true, true, true, true, true, false, false, false, false] rfl rfl (any_of HT_.out (by kernel_rfl)) (fun _ _ _ h => h) (Or.inr ⟨by rfl, rfl⟩) ?_ ?_
              rotate_left; focus (simp only [Act.put, List.setIfInBounds_toArray, List.set_cons_zero, List.set_cons_succ, i64_w, i32_w, u8_w, u32_w]; rfl; done)
              refine pure_ (i := 10) (N := some 75) (v := undef) (a' := ?_) #[true, true, true, true, true, true, true, true, true, true, true, false, false, false] rfl rfl (any_of HT_.out (by kernel_rfl)) (fun _ _ _ h => h) (Or.inr ⟨by rfl, rfl⟩) ?_ ?_
              rotate_left; focus (simp only [Act.put, List.setIfInBounds_toArray, List.set_cons_zero, List.set_cons_succ, i64_w, i32_w, u8_w, u32_w]; rfl; done)
              refine pure_ (i := 11) (N := some 76) (v := undef) (a' := ?_) #[true, true, true, true, true, true, true, true, true, true, true, true, false, false] rfl rfl (any_of HT_.out (by kernel_rfl)) (fun _ _ _ h => h) (Or.inr ⟨by rfl, rfl⟩) ?_ ?_
              rotate_left; focus (simp only [Act.put, List.setIfInBounds_toArray, List.set_cons_zero, List.set_cons_succ, i64_w, i32_w, u8_w, u32_w]; rfl; done)
              refine pure_ (i := 12) (N := some 77) (v := undef) (a' := ?_) #[true, true, true, true, true, true, true, true, true, true, true, true, true, false] rfl rfl (any_of HT_.out (by kernel_rfl)) (fun _ _ _ h => h) (Or.inr ⟨by rfl, rfl⟩) ?_ ?_
              rotate_left; focus (simp only [Act.put, List.setIfInBounds_toArray, List.set_cons_zero, List.set_cons_succ, i64_w, i32_w, u8_w, u32_w]; rfl; done)
              refine pure_ (i := 13) (N := some 78) (v := ?_) (a' := ?_) #[true, true, true, true, true, true, true, true, true, true, true, true, true, true] rfl rfl (any_of HT_.out (by kernel_rfl)) (fun _ _ _ h => h) (Or.inl ⟨by rfl, ?_⟩) ?_ ?_
              rotate_left; focus (intro w'; go_simp; with_reducible rfl; done)
              rotate_left; focus (simp only [Act.put, List.setIfInBounds_toArray, List.set_cons_zero, List.set_cons_succ, i64_w, i32_w, u8_w, u32_w]; rfl; done)
              refine done_ (done_of HT_.out (by kernel_rfl)) ?_
              try go_wp2
              (try simp only [← hl0_1, ← hl4_2])
              go_roundg k2
              case measure => have := HK1.out; have := HK2.out; omega
              case rel => exact ⟨(x0_1), (x4_2), (x5_2), (wrap64 (x6_1 + 1)), (by first | rfl | (simp; done) | (simp [*]; done)), H', ⟨by have := HK1.out; have := HK2.out; omega⟩, ⟨by (try simp only [hl0_1]); (try simp only [hl4_2]); (with_reducible repeat (first | apply Kd.V_alloc | apply Kd.V_drewN | apply Kd.V_drew)); exact HO_0.out⟩, ⟨by (try simp only [hl0_1]); (try simp only [hl4_2]); (with_reducible repeat (first | apply Kd.R_alloc | apply Kd.R_drewN | apply Kd.R_drew)); exact HO_4.out⟩, ⟨by (try simp only [hl0_1]); (try simp only [hl4_2]); (with_reducible repeat (first | apply Kd.N_alloc | apply Kd.N_drewN | apply Kd.N_drew)); exact HO_5.out⟩, ⟨by repeat (first | (with_reducible first | exact HB.out | apply below_alloc | apply pw_below_drewN | apply below_drew1) | exact HB.out)⟩⟩
          ·
           rw [if_neg c13] at H
           exact absurd H (by simp)
         ·
          rw [if_neg c12] at H
          exact absurd H (by simp)
        ·
         rw [if_neg c11] at H
         have c11b0 : (t387 == 0) = false := beq_eq_false_iff_ne.mpr c11
         have c11b1 : (t387 != 0) = true := bne_iff_ne.mpr c11
         have H' := Aside0.mk H
         clear H
         have p384 : 0 ≤ (x6_1 : Int) := of_decide_eq_true (by first | (with_reducible assumption) | assumption)
         have q384 : x6_1 < (x0_1.length : Int) := of_decide_eq_true (by first | (with_reducible assumption) | assumption)
         obtain ⟨ad384, A384_0, c384_0, e384, hx384_0, hl384_0, hi384_0⟩ := at_L4 (Kd.V_reads' HO_0.out).2.2 x6_1 p384 q384
         cases e384
         obtain ⟨ce384, hce384, hMe384, hcc384⟩ := Kd.V_get HO_0.out [] x6_1 p384 (by first | exact q384 | exact of_decide_eq_true (by first | (with_reducible assumption) | assumption) | (have e_ := (Kd.V_reads' HO_0.out).1; omega))
         obtain ⟨ua384_0, uc384_0, rfl, ul384_0, ge384_0⟩ := Kd.FK_slice_open hMe384
         have hv384_0 := hcc384 0 _ rfl
         rw [Nat.add_zero, show ((Kd.slice 25 k25)).sz = 1 from rfl, Nat.mul_one] at hv384_0
         replace hv384_0 := Option.some.inj (hv384_0.symm.trans hx384_0)
         injection hv384_0 with hva_ hvn_ hvc_
         rw [hva_] at ge384_0
         rw [hvc_] at ul384_0
         have HL384_0 := Aside0.mk (show Kd.V k25 25 _ w.heap.size _ _ (rd_L4 x0_1 x6_1) from Kd.V_mk ul384_0 ge384_0)
         clear hva_ hvn_ hvc_ ge384_0 ul384_0
         clear hcc384 hce384
         have HR384_0 := Aside0.mk hi384_0
         have HC384_0 := Aside0.mk hl384_0
         clear hi384_0 hl384_0
         replace p384 := eq_true p384
         replace q384 := eq_true q384
         have p385 : 0 ≤ (x6_1 : Int) := of_decide_eq_true (by first | (with_reducible assumption) | assumption)
         have q385 : x6_1 < (x0_1.length : Int) := of_decide_eq_true (by first | (with_reducible assumption) | assumption)
         obtain ⟨ad385, A385_0, c385_0, e385, hx385_0, hl385_0, hi385_0⟩ := at_L4 (Kd.V_reads' HO_0.out).2.2 x6_1 p385 q385
         obtain rfl : ad384 = ad385 := (by injection e385)
         obtain ⟨ce385, hce385, hMe385, hcc385⟩ := Kd.V_get HO_0.out [] x6_1 p385 (by first | exact q385 | exact of_decide_eq_true (by first | (with_reducible assumption) | assumption) | (have e_ := (Kd.V_reads' HO_0.out).1; omega))
         obtain ⟨ua385_0, uc385_0, rfl, ul385_0, ge385_0⟩ := Kd.FK_slice_open hMe385
         have hv385_0 := hcc385 0 _ rfl
         rw [Nat.add_zero, show ((Kd.slice 25 k25)).sz = 1 from rfl, Nat.mul_one] at hv385_0
         replace hv385_0 := Option.some.inj (hv385_0.symm.trans hx385_0)
         injection hv385_0 with hva_ hvn_ hvc_
         rw [hva_] at ge385_0
         rw [hvc_] at ul385_0
         have HL385_0 := Aside0.mk (show Kd.V k25 25 _ w.heap.size _ _ (rd_L4 x0_1 x6_1) from Kd.V_mk ul385_0 ge385_0)
         clear hva_ hvn_ hvc_ ge385_0 ul385_0
         clear hcc385 hce385
         have HR385_0 := Aside0.mk hi385_0
         have HC385_0 := Aside0.mk hl385_0
         clear hi385_0 hl385_0
         replace p385 := eq_true p385
         replace q385 := eq_true q385
         have ea_ := Option.some.inj (hx384_0.symm.trans hx385_0)
         injection ea_ with ea_ en_ ec_
         subst ea_
         subst ec_
         clear en_
         go_wp2_with (first | ((with_reducible refine gate_callee (f := 12) rfl ?_); refine goesL_ (some 35) rfl rfl Tryd.func12 (by kernel_rfl) rfl #[.slice A384_0 (rd_L4 x0_1 x6_1).length c384_0] rfl (by (try simp only [List.map_toArray, List.map_cons, List.map_nil]); first | done | rfl | (simp only [List.length_drop, List.length_take]; rfl)) ?_; (with_reducible refine (key_Encode.calls k1 _ _ (rd_L4 x0_1 x6_1) t386 t387 _ ?side1 ?side2 A8.out).mono ?_); (case side1 => repeat (first | exact (by repeat (first | (with_reducible exact HR385_0.out) | (with_reducible refine Kd.C_alloc ?_ _) | (with_reducible refine Kd.C_drewN ?_ _) | (with_reducible refine Kd.C_drew ?_) | exact HR385_0.out)) | (with_reducible refine Kd.C_alloc ?_ _) | (with_reducible refine Kd.C_drewN ?_ _) | (with_reducible refine Kd.C_drew ?_))); (case side2 => exact HC385_0.out); rintro e w46 ⟨rfl, hb⟩; refine ⟨_, rfl, ?_⟩; have n0_ := Aside0.mk (Kd.V_below (by (with_reducible repeat (first | apply Kd.V_alloc | apply Kd.V_drewN | apply Kd.V_drew)); exact HO_0.out) hb); have n1_ := Aside0.mk (Kd.R_below (by (with_reducible repeat (first | apply Kd.R_alloc | apply Kd.R_drewN | apply Kd.R_drew)); exact HO_4.out) hb); have n2_ := Aside0.mk (Kd.N_below (by (with_reducible repeat (first | apply Kd.N_alloc | apply Kd.N_drewN | apply Kd.N_drew)); exact HO_5.out) hb); have n3_ := Aside0.mk (Kd.V_below (by (with_reducible repeat (first | apply Kd.V_alloc | apply Kd.V_drewN | apply Kd.V_drew)); exact HL384_0.out) hb); have n4_ := Aside0.mk (Kd.V_below (by (with_reducible repeat (first | apply Kd.V_alloc | apply Kd.V_drewN | apply Kd.V_drew)); exact HL385_0.out) hb); have n5_ := Aside0.mk (Kd.C_below (by repeat (first | (with_reducible exact HR384_0.out) | (with_reducible refine Kd.C_alloc ?_ _) | (with_reducible refine Kd.C_drewN ?_ _) | (with_reducible refine Kd.C_drew ?_) | exact HR384_0.out)) hb); have n6_ := Aside0.mk (Kd.C_below (by repeat (first | (with_reducible exact HR385_0.out) | (with_reducible refine Kd.C_alloc ?_ _) | (with_reducible refine Kd.C_drewN ?_ _) | (with_reducible refine Kd.C_drew ?_) | exact HR385_0.out)) hb); have n7_ := Aside0.mk (below_step (by repeat (first | (with_reducible first | exact HB.out | apply below_alloc | apply pw_below_drewN | apply below_drew1) | exact HB.out)) hb); clear HO_0; clear HO_4; clear HO_5; clear HL384_0; clear HL385_0; clear HR384_0; clear HR385_0; clear HB; have HO_0 := n0_; have HO_4 := n1_; have HO_5 := n2_; have HL384_0 := n3_; have HL385_0 := n4_; have HR384_0 := n5_; have HR385_0 := n6_; have HB := n7_; clear n0_ n1_ n2_ n3_ n4_ n5_ n6_ n7_; (try clear hb); (try clear hb2); (try clear hk); (try clear hi); have p388 : 0 ≤ (x6_1 : Int) := of_decide_eq_true (by first | (with_reducible assumption) | assumption); have q388 : x6_1 < (x0_1.length : Int) := of_decide_eq_true (by first | (with_reducible assumption) | assumption); obtain ⟨ad388, A388_0, c388_0, e388, hx388_0, hl388_0, hi388_0⟩ := at_L4 (Kd.V_reads' HO_0.out).2.2 x6_1 p388 q388; obtain rfl : ad384 = ad388 := (by injection e388); obtain ⟨ce388, hce388, hMe388, hcc388⟩ := Kd.V_get HO_0.out [] x6_1 p388 (by first | exact q388 | exact of_decide_eq_true (by first | (with_reducible assumption) | assumption) | (have e_ := (Kd.V_reads' HO_0.out).1; omega)); obtain ⟨ua388_0, uc388_0, rfl, ul388_0, ge388_0⟩ := Kd.FK_slice_open hMe388; have hv388_0 := hcc388 0 _ rfl; rw [Nat.add_zero, show ((Kd.slice 25 k25)).sz = 1 from rfl, Nat.mul_one] at hv388_0; replace hv388_0 := Option.some.inj (hv388_0.symm.trans hx388_0); injection hv388_0 with hva_ hvn_ hvc_; rw [hva_] at ge388_0; rw [hvc_] at ul388_0; have HL388_0 := Aside0.mk (show Kd.V k25 25 _ w.heap.size _ _ (rd_L4 x0_1 x6_1) from Kd.V_mk ul388_0 ge388_0); clear hva_ hvn_ hvc_ ge388_0 ul388_0; clear hcc388 hce388; have HR388_0 := Aside0.mk hi388_0; have HC388_0 := Aside0.mk hl388_0; clear hi388_0 hl388_0; replace p388 := eq_true p388; replace q388 := eq_true q388) | ((with_reducible refine gate_callee (f := 13) rfl ?_); refine goesL_ (some 43) rfl rfl Tryd.func13 (by kernel_rfl) rfl #[.slice A388_0 (rd_L4 x0_1 x6_1).length c388_0] rfl (by (try simp only [List.map_toArray, List.map_cons, List.map_nil]); first | done | rfl | (simp only [List.length_drop, List.length_take]; rfl)) ?_; (with_reducible refine (unisonref02_Encode.calls k1 _ _ (rd_L4 x0_1 x6_1) t389 t390 _ ?side1 ?side2 A9.out).mono ?_); (case side1 => repeat (first | exact (by repeat (first | (with_reducible exact HR388_0.out) | (with_reducible refine Kd.C_alloc ?_ _) | (with_reducible refine Kd.C_drewN ?_ _) | (with_reducible refine Kd.C_drew ?_) | exact HR388_0.out)) | (with_reducible refine Kd.C_alloc ?_ _) | (with_reducible refine Kd.C_drewN ?_ _) | (with_reducible refine Kd.C_drew ?_))); (case side2 => exact HC388_0.out); rintro e w47 ⟨rfl, hb⟩; refine ⟨_, rfl, ?_⟩; have n0_ := Aside0.mk (Kd.V_below (by (with_reducible repeat (first | apply Kd.V_alloc | apply Kd.V_drewN | apply Kd.V_drew)); exact HO_0.out) hb); have n1_ := Aside0.mk (Kd.R_below (by (with_reducible repeat (first | apply Kd.R_alloc | apply Kd.R_drewN | apply Kd.R_drew)); exact HO_4.out) hb); have n2_ := Aside0.mk (Kd.N_below (by (with_reducible repeat (first | apply Kd.N_alloc | apply Kd.N_drewN | apply Kd.N_drew)); exact HO_5.out) hb); have n3_ := Aside0.mk (Kd.V_below (by (with_reducible repeat (first | apply Kd.V_alloc | apply Kd.V_drewN | apply Kd.V_drew)); exact HL384_0.out) hb); have n4_ := Aside0.mk (Kd.V_below (by (with_reducible repeat (first | apply Kd.V_alloc | apply Kd.V_drewN | apply Kd.V_drew)); exact HL385_0.out) hb); have n5_ := Aside0.mk (Kd.V_below (by (with_reducible repeat (first | apply Kd.V_alloc | apply Kd.V_drewN | apply Kd.V_drew)); exact HL388_0.out) hb); have n6_ := Aside0.mk (Kd.C_below (by repeat (first | (with_reducible exact HR384_0.out) | (with_reducible refine Kd.C_alloc ?_ _) | (with_reducible refine Kd.C_drewN ?_ _) | (with_reducible refine Kd.C_drew ?_) | exact HR384_0.out)) hb); have n7_ := Aside0.mk (Kd.C_below (by repeat (first | (with_reducible exact HR385_0.out) | (with_reducible refine Kd.C_alloc ?_ _) | (with_reducible refine Kd.C_drewN ?_ _) | (with_reducible refine Kd.C_drew ?_) | exact HR385_0.out)) hb); have n8_ := Aside0.mk (Kd.C_below (by repeat (first | (with_reducible exact HR388_0.out) | (with_reducible refine Kd.C_alloc ?_ _) | (with_reducible refine Kd.C_drewN ?_ _) | (with_reducible refine Kd.C_drew ?_) | exact HR388_0.out)) hb); have n9_ := Aside0.mk (below_step (by repeat (first | (with_reducible first | exact HB.out | apply below_alloc | apply pw_below_drewN | apply below_drew1) | exact HB.out)) hb); clear HO_0; clear HO_4; clear HO_5; clear HL384_0; clear HL385_0; clear HL388_0; clear HR384_0; clear HR385_0; clear HR388_0; clear HB; have HO_0 := n0_; have HO_4 := n1_; have HO_5 := n2_; have HL384_0 := n3_; have HL385_0 := n4_; have HL388_0 := n5_; have HR384_0 := n6_; have HR385_0 := n7_; have HR388_0 := n8_; have HB := n9_; clear n0_ n1_ n2_ n3_ n4_ n5_ n6_ n7_ n8_ n9_; (try clear hb); (try clear hb2); (try clear hk); (try clear hi)))
         (try simp only [← hl0_1])
         go_roundg k1
         case measure => have := HK1.out; omega
         case rel => exact ⟨(x0_1), (x4_1), (x5_1), (wrap64 (x6_1 + 1)), (by first | rfl | (simp; done) | (simp [*]; done)), H', ⟨by have := HK1.out; omega⟩, ⟨by (try simp only [hl0_1]); (with_reducible repeat (first | apply Kd.V_alloc | apply Kd.V_drewN | apply Kd.V_drew)); exact HO_0.out⟩, ⟨by (try simp only [hl0_1]); (with_reducible repeat (first | apply Kd.R_alloc | apply Kd.R_drewN | apply Kd.R_drew)); exact HO_4.out⟩, ⟨by (try simp only [hl0_1]); (with_reducible repeat (first | apply Kd.N_alloc | apply Kd.N_drewN | apply Kd.N_drew)); exact HO_5.out⟩, ⟨by repeat (first | (with_reducible first | exact HB.out | apply below_alloc | apply pw_below_drewN | apply below_drew1) | exact HB.out)⟩⟩
       ·
        rw [if_neg c10] at H
        exact absurd H (by simp)
     ·
      rw [if_neg c6] at H
      exact absurd H (by simp)
    ·
     rw [if_neg c5] at H
     have c5b0 : decide (x6_1 < (x0_1.length : Int)) = false := decide_eq_false c5
     clear c5
     have H' := Aside0.mk H
     clear H
     go_wp2
     go_loopg [12] k1 (fun kq v12 w' => ∃ (x12_2 : Int), v12 = .int .i64 x12_2 ∧ Aside0 (unisonlaw02_KeySorted.l2 kq t383 x4_1 x5_1 x12_2 = some r) ∧ Aside0 (kq ≤ k1) ∧ Aside0 (Kd.R Kd.string 9 w' w.heap.size (fun k_ => (w.heap.size ≤ k_)) u4 x4_1) ∧ Aside0 (Kd.N (Kd.slice 25 k25) 22 w' w.heap.size (fun k_ => (P0_ k_ ∨ w.heap.size ≤ k_) ∧ some k_ ≠ (u4 : Value).ownBlock) u5 x5_1) ∧ Aside0 (Below w.heap.size w w'))
     case atStart => exact ⟨(1), (by first | rfl | (simp; done) | (simp [*]; done)), H', ⟨Nat.le_refl _⟩, ⟨by (try simp only [hl0_1]); (with_reducible repeat (first | apply Kd.R_alloc | apply Kd.R_drewN | apply Kd.R_drew)); exact HO_4.out⟩, ⟨by (try simp only [hl0_1]); (with_reducible repeat (first | apply Kd.N_alloc | apply Kd.N_drewN | apply Kd.N_drew)); exact HO_5.out⟩, ⟨by repeat (first | (with_reducible first | exact HB.out | apply below_alloc | apply pw_below_drewN | apply below_drew1) | exact HB.out)⟩⟩
     case round =>
      clear H'
      try clear c1
      try clear c2
      try clear p2
      try clear q2
      try clear hx2
      try clear hf2
      try clear c3
      try clear p3
      try clear q3
      try clear hx3
      try clear hf3
      try clear c4
      try clear p4
      try clear q4
      try clear hx4
      try clear hf4
      try clear c5
      try clear c5b0
      try clear c6
      try clear p6
      try clear c10
      try clear c10b0
      try clear c10b1
      try clear c11
      try clear c11b0
      try clear c11b1
      try clear c12
      try clear c13
      try clear c19
      try clear c19b0
      try clear c21
      try clear c21b0
      try clear c22
      try clear c22b0
      try clear c23
      try clear c23b0
      try clear c24
      try clear c24b0
      try clear c25
      try clear c25b0
      try clear p26
      try clear q26
      try clear hx26
      try clear hf26
      try clear p27
      try clear q27
      try clear hx27
      try clear hf27
      try clear c28
      try clear c28b0
      try clear c29
      try clear c29b0
      try clear c30
      try clear p30
      try clear q30
      try clear hx30
      try clear hf30
      try clear c31
      try clear c31b0
      try clear c32
      try clear c32b0
      try clear c33
      try clear p33
      try clear q33
      try clear hx33
      try clear hf33
      try clear c38
      try clear p38
      try clear q38
      try clear hx38
      try clear p39
      try clear q39
      try clear hx39
      try clear c40
      try clear p40
      try clear q40
      try clear hx40
      try clear hf40
      try clear c42
      try clear hx42
      try clear hf42
      try clear hx26_0
      try clear hx27_0
      try clear hx30_0
      try clear hx33_0
      try clear hx384_0
      try clear hx385_0
      try clear hx388_0
      try clear hx394_0
      try clear hx398_0
      try clear hx399_0
      try clear hx400_0
      try clear hx403_0
      try clear hx405_0
      try clear hx40_0
      try clear hx42_0
      try clear p2
      try clear p26
      try clear p27
      try clear p30
      try clear p33
      try clear p384
      try clear p385
      try clear p388
      try clear p394
      try clear p398
      try clear p399
      try clear p400
      try clear p403
      try clear p405
      try clear q26
      try clear q27
      try clear q30
      try clear q33
      try clear q384
      try clear q385
      try clear q388
      try clear q394
      try clear q398
      try clear q399
      try clear q400
      try clear q403
      try clear q405
      obtain ⟨x12_2, rfl, HA, HK2, HO_4, HO_5, HB⟩ := hrel
      cases gk with
      | zero => exact absurd HA.out (by simp [unisonlaw02_KeySorted.l2])
      | succ k2 =>
       have H := HA.out
       clear HA
       simp only [unisonlaw02_KeySorted.l2] at H
       by_cases c48 : x12_2 < (x5_1.length : Int)
       ·
        rw [if_pos c48] at H
        have c48b0 : decide (x12_2 < (x5_1.length : Int)) = true := decide_eq_true c48
        clear c48
        obtain ⟨ji49, hji49⟩ : ∃ j_ : Int, (wrap64 (x12_2 - 1)) = j_ := ⟨_, rfl⟩
        replace H : (if 0 ≤ (ji49) then (if (ji49) < (x5_1.length : Int) then (if 0 ≤ x12_2 then ((key_Order.f k2 (rd_L4 x5_1 (ji49)) (rd_L4 x5_1 x12_2)).bind fun t409 => (if t409 > 0 then (none) else (if (ji49) < (x4_1.length : Int) then (if x12_2 < (x4_1.length : Int) then (if ((t409 == 0) != ((rdOf ByteArray.empty x4_1 (ji49)).toList == (rdOf ByteArray.empty x4_1 x12_2).toList)) = true then (none) else (unisonlaw02_KeySorted.l2 k2 t383 x4_1 x5_1 (wrap64 (x12_2 + 1)))) else (none)) else (none)))) else (none)) else (none)) else (none)) = some r := by first | (rw [hji49] at H; exact H) | (simp only [hji49] at H ⊢; exact H)
        have hji49w : (IntKind.i64.wrap (x12_2 - 1)) = ji49 := (i64_w _).trans hji49
        by_cases c50 : 0 ≤ (ji49)
        ·
         rw [if_pos c50] at H
         have c50b0 : decide (0 ≤ (ji49)) = true := decide_eq_true c50
         clear c50
         by_cases c51 : (ji49) < (x5_1.length : Int)
         ·
          rw [if_pos c51] at H
          have c51b0 : decide ((ji49) < (x5_1.length : Int)) = true := decide_eq_true c51
          clear c51
          by_cases c52 : 0 ≤ x12_2
          ·
           rw [if_pos c52] at H
           have c52b0 : decide (0 ≤ x12_2) = true := decide_eq_true c52
           clear c52
           replace H := Option.bind_eq_some_iff.mp H
           obtain ⟨t409, A530, H⟩ := H
           replace H : (if t409 > 0 then (none) else (if (ji49) < (x4_1.length : Int) then (if x12_2 < (x4_1.length : Int) then (if ((t409 == 0) != ((rdOf ByteArray.empty x4_1 (ji49)).toList == (rdOf ByteArray.empty x4_1 x12_2).toList)) = true then (none) else (unisonlaw02_KeySorted.l2 k2 t383 x4_1 x5_1 (wrap64 (x12_2 + 1)))) else (none)) else (none))) = some r := H
           have A53 := Aside0.mk A530
           clear A530
           by_cases c54 : t409 > 0
           ·
            rw [if_pos c54] at H
            have c54b0 : decide (0 < t409) = true := decide_eq_true c54
            clear c54
            exact absurd H (by simp)
           ·
            rw [if_neg c54] at H
            have c54b0 : decide (0 < t409) = false := decide_eq_false c54
            clear c54
            by_cases c55 : (ji49) < (x4_1.length : Int)
            ·
             rw [if_pos c55] at H
             have c55b0 : decide ((ji49) < (x4_1.length : Int)) = true := decide_eq_true c55
             clear c55
             by_cases c56 : x12_2 < (x4_1.length : Int)
             ·
              rw [if_pos c56] at H
              have c56b0 : decide (x12_2 < (x4_1.length : Int)) = true := decide_eq_true c56
              clear c56
              by_cases c57 : ((t409 == 0) != ((rdOf ByteArray.empty x4_1 (ji49)).toList == (rdOf ByteArray.empty x4_1 x12_2).toList)) = true
              ·
               rw [if_pos c57] at H
               exact absurd H (by simp)
              ·
               rw [if_neg c57] at H
               have c57b0 : ((t409 == 0) != ((rdOf ByteArray.empty x4_1 (ji49)).toList == (rdOf ByteArray.empty x4_1 x12_2).toList)) = false := by simpa using c57
               (try (have c57b1 : decide ((t409 == 0) = ((rdOf ByteArray.empty x4_1 (ji49)).toList == (rdOf ByteArray.empty x4_1 x12_2).toList)) = true := by simpa using c57))
               (try (have c57b2 : ((t409 == 0) == ((rdOf ByteArray.empty x4_1 (ji49)).toList == (rdOf ByteArray.empty x4_1 x12_2).toList)) = true := by simpa using c57))
               clear c57
               have H' := Aside0.mk H
               clear H
               obtain ⟨Ao58, co58, eo58⟩ := Kd.N_slice HO_5.out
               subst eo58
               try go_wp2
               have n0_ := Aside0.mk (Kd.R_drew HO_4.out)
               have n1_ := Aside0.mk (Kd.N_drew HO_5.out)
               have n2_ := Aside0.mk (below_drew1 HB.out)
               clear HO_4
               clear HO_5
               clear HB
               have HO_4 := n0_
               have HO_5 := n1_
               have HB := n2_
               clear n0_ n1_ n2_
               have p407 : 0 ≤ ((ji49) : Int) := of_decide_eq_true (by first | (with_reducible assumption) | assumption)
               have q407 : (ji49) < (x5_1.length : Int) := of_decide_eq_true (by first | (with_reducible assumption) | assumption)
               obtain ⟨ad407, A407_0, c407_0, e407, hx407_0, hl407_0, hi407_0⟩ := at_L4 (Kd.N_reads' HO_5.out).2.2 (ji49) p407 q407
               cases e407
               obtain ⟨ce407, hce407, hMe407, hcc407⟩ := Kd.N_get HO_5.out [] (ji49) p407 (by first | exact q407 | exact of_decide_eq_true (by first | (with_reducible assumption) | assumption) | (have e_ := (Kd.N_reads' HO_5.out).1; omega))
               obtain ⟨ua407_0, uc407_0, rfl, ul407_0, ge407_0⟩ := Kd.FK_slice_open hMe407
               have hv407_0 := hcc407 0 _ rfl
               rw [Nat.add_zero, show ((Kd.slice 25 k25)).sz = 1 from rfl, Nat.mul_one] at hv407_0
               replace hv407_0 := Option.some.inj (hv407_0.symm.trans hx407_0)
               injection hv407_0 with hva_ hvn_ hvc_
               rw [hva_] at ge407_0
               rw [hvc_] at ul407_0
               have HL407_0 := Aside0.mk (show Kd.V k25 25 _ w.heap.size _ _ (rd_L4 x5_1 (ji49)) from Kd.V_mk ul407_0 ge407_0)
               clear hva_ hvn_ hvc_ ge407_0 ul407_0
               clear hcc407 hce407
               have HR407_0 := Aside0.mk hi407_0
               have HC407_0 := Aside0.mk hl407_0
               clear hi407_0 hl407_0
               replace p407 := eq_true p407
               replace q407 := eq_true q407
               have p408 : 0 ≤ (x12_2 : Int) := of_decide_eq_true (by first | (with_reducible assumption) | assumption)
               have q408 : x12_2 < (x5_1.length : Int) := of_decide_eq_true (by first | (with_reducible assumption) | assumption)
               obtain ⟨ad408, A408_0, c408_0, e408, hx408_0, hl408_0, hi408_0⟩ := at_L4 (Kd.N_reads' HO_5.out).2.2 x12_2 p408 q408
               obtain rfl : ad407 = ad408 := (by injection e408)
               obtain ⟨ce408, hce408, hMe408, hcc408⟩ := Kd.N_get HO_5.out [] x12_2 p408 (by first | exact q408 | exact of_decide_eq_true (by first | (with_reducible assumption) | assumption) | (have e_ := (Kd.N_reads' HO_5.out).1; omega))
               obtain ⟨ua408_0, uc408_0, rfl, ul408_0, ge408_0⟩ := Kd.FK_slice_open hMe408
               have hv408_0 := hcc408 0 _ rfl
               rw [Nat.add_zero, show ((Kd.slice 25 k25)).sz = 1 from rfl, Nat.mul_one] at hv408_0
               replace hv408_0 := Option.some.inj (hv408_0.symm.trans hx408_0)
               injection hv408_0 with hva_ hvn_ hvc_
               rw [hva_] at ge408_0
               rw [hvc_] at ul408_0
               have HL408_0 := Aside0.mk (show Kd.V k25 25 _ w.heap.size _ _ (rd_L4 x5_1 x12_2) from Kd.V_mk ul408_0 ge408_0)
               clear hva_ hvn_ hvc_ ge408_0 ul408_0
               clear hcc408 hce408
               have HR408_0 := Aside0.mk hi408_0
               have HC408_0 := Aside0.mk hl408_0
               clear hi408_0 hl408_0
               replace p408 := eq_true p408
               replace q408 := eq_true q408
               refine start_ (n := 11) (S := fun w' => w'.cell? (ad407.add ((ji49)).toNat) = some (.slice A407_0 (rd_L4 x5_1 (ji49)).length c407_0) ∧ w'.cell? (ad407.add (x12_2).toNat) = some (.slice A408_0 (rd_L4 x5_1 x12_2).length c408_0)) (ds := []) #[false, false, false, false, false, false, false, false, false, false, false] (by kernel_rfl) rfl rfl ⟨hx407_0, hx408_0⟩ (fun hHeld => ?_); refine with_tabW unisonlaw02_KeySorted.tab27 unisonlaw02_KeySorted.bits27 (fun HT_ HW_ => ?_)
               generalize wr.drew = w59 at HO_4 HO_5 HB HL407_0 HL408_0 HR407_0 HR408_0 hx407_0 hx408_0 hHeld ⊢
               refine pure_ (i := 0) (N := some 116) (v := ?_) (a' := ?_) #[true, false, false, false, false, false, false, false, false, false, false] rfl rfl (any_of HT_.out (by kernel_rfl)) (fun _ _ _ h => h) (Or.inl ⟨by rfl, ?_⟩) ?_ ?_
               rotate_left; focus (intro w'; go_simp; with_reducible rfl; done)
               rotate_left; focus (simp only [Act.put, List.setIfInBounds_toArray, List.set_cons_zero, List.set_cons_succ, i64_w, i32_w, u8_w, u32_w]; rfl; done)
               refine pure_ (i := 1) (N := some 117) (v := ?_) (a' := ?_) #[true, true, false, false, false, false, false, false, false, false, false] rfl rfl (any_of HT_.out (by kernel_rfl)) (fun _ _ _ h => h) (Or.inl ⟨by rfl, ?_⟩) ?_ ?_
               rotate_left; focus (intro w'; go_simp; with_reducible rfl; done)
               rotate_left; focus (simp only [Act.put, List.setIfInBounds_toArray, List.set_cons_zero, List.set_cons_succ, i64_w, i32_w, u8_w, u32_w]; rfl; done)
               refine pure_ (i := 2) (N := some 118) (v := ?_) (a' := ?_) #[true, true, true, false, false, false, false, false, false, false, false] rfl rfl (any_of HT_.out (by kernel_rfl)) (fun _ _ _ h => h) (Or.inl ⟨by rfl, ?_⟩) ?_ ?_
               rotate_left; focus (intro w'; go_simp; with_reducible rfl; done)
               rotate_left; focus (simp only [Act.put, List.setIfInBounds_toArray, List.set_cons_zero, List.set_cons_succ, i64_w, i32_w, u8_w, u32_w]; rfl; done)
               refine pure_ (i := 3) (N := some 119) (v := ?_) (a' := ?_) #[true, true, true, true, false, false, false, false, false, false, false] rfl rfl (any_of HT_.out (by kernel_rfl)) (fun _ _ _ h => h) (Or.inl ⟨by rfl, ?_⟩) ?_ ?_
               rotate_left; focus (intro w'; go_simp; with_reducible rfl; done)
               rotate_left; focus (simp only [Act.put, List.setIfInBounds_toArray, List.set_cons_zero, List.set_cons_succ, i64_w, i32_w, u8_w, u32_w]; rfl; done)
               refine pure_ (i := 5) (N := some 121) (v := ?_) (a' := ?_) #[true, true, true, true, false, true, false, false, false, false, false] rfl rfl (any_of HT_.out (by kernel_rfl)) (fun _ _ _ h => h) (Or.inl ⟨by rfl, ?_⟩) ?_ ?_
               rotate_left; focus (intro w'; go_simp; with_reducible rfl; done)
               rotate_left; focus (simp only [Act.put, List.setIfInBounds_toArray, List.set_cons_zero, List.set_cons_succ, i64_w, i32_w, u8_w, u32_w]; rfl; done)
               refine pure_ (i := 6) (N := some 122) (v := ?_) (a' := ?_) #[true, true, true, true, false, true, true, false, false, false, false] rfl rfl (any_of HT_.out (by kernel_rfl)) (fun _ _ _ h => h) (Or.inl ⟨by rfl, ?_⟩) ?_ ?_
               rotate_left; focus (intro w'; go_simp; with_reducible rfl; done)
               rotate_left; focus (simp only [Act.put, List.setIfInBounds_toArray, List.set_cons_zero, List.set_cons_succ, i64_w, i32_w, u8_w, u32_w]; rfl; done)
               refine pure_ (i := 7) (N := some 123) (v := ?_) (a' := ?_) #[true, true, true, true, false, true, true, true, false, false, false] rfl rfl (any_of HT_.out (by kernel_rfl)) (fun _ _ _ h => h) (Or.inl ⟨by rfl, ?_⟩) ?_ ?_
               rotate_left; focus (intro w'; go_simp; with_reducible rfl; done)
               rotate_left; focus (simp only [Act.put, List.setIfInBounds_toArray, List.set_cons_zero, List.set_cons_succ, i64_w, i32_w, u8_w, u32_w]; rfl; done)
               refine take_ (i := 4) (N := some 120) (v := ?_) (a' := ?_) #[true, true, true, true, true, true, true, true, false, false, false] rfl rfl (take_ofW HT_.out HW_.out (by kernel_rfl)) (fun _ _ _ h => h) (Or.inl ⟨by rfl, ?_⟩) hHeld ?_ ?_
               rotate_left; focus (rintro w' ⟨s0, s1⟩; go_simp; with_reducible rfl; done)
               rotate_left; focus (simp only [Act.put, List.setIfInBounds_toArray, List.set_cons_zero, List.set_cons_succ, i64_w, i32_w, u8_w, u32_w]; rfl; done)
               refine take_ (i := 8) (N := some 124) (v := ?_) (a' := ?_) #[true, true, true, true, true, true, true, true, true, false, false] rfl rfl (take_ofW HT_.out HW_.out (by kernel_rfl)) (fun _ _ _ h => h) (Or.inl ⟨by rfl, ?_⟩) hHeld ?_ ?_
               rotate_left; focus (rintro w' ⟨s0, s1⟩; go_simp; with_reducible rfl; done)
               rotate_left; focus (simp only [Act.put, List.setIfInBounds_toArray, List.set_cons_zero, List.set_cons_succ, i64_w, i32_w, u8_w, u32_w]; rfl; done)
               refine one_ (i := 9) (N := some 125) #[true, true, true, true, true, true, true, true, true, true, false] rfl rfl (one_of HT_.out (by kernel_rfl)) (by decide) (fun K hK => ?_)
               refine goes_ Tryd.func17 (by kernel_rfl) rfl #[.slice A407_0 (rd_L4 x5_1 (ji49)).length c407_0, .slice A408_0 (rd_L4 x5_1 x12_2).length c408_0] (by rfl) rfl rfl (by (try simp only [List.map_toArray, List.map_cons, List.map_nil]); first | done | (simp only [hji49]; rfl) | rfl | (simp only [List.length_drop, List.length_take]; rfl)) ?_
               with_reducible refine (key_Order.calls k2 _ _ (rd_L4 x5_1 (ji49)) _ _ (rd_L4 x5_1 x12_2) t409 _ ?side1 ?side2 ?side3 ?side4 A53.out).mono ?_
               (case side1 => repeat (first | exact (by repeat (first | (with_reducible exact HR407_0.out) | (with_reducible refine Kd.C_alloc ?_ _) | (with_reducible refine Kd.C_drewN ?_ _) | (with_reducible refine Kd.C_drew ?_) | exact HR407_0.out)) | (with_reducible refine Kd.C_alloc ?_ _) | (with_reducible refine Kd.C_drewN ?_ _) | (with_reducible refine Kd.C_drew ?_)))
               (case side2 => exact HC407_0.out)
               (case side3 => repeat (first | exact (by repeat (first | (with_reducible exact HR408_0.out) | (with_reducible refine Kd.C_alloc ?_ _) | (with_reducible refine Kd.C_drewN ?_ _) | (with_reducible refine Kd.C_drew ?_) | exact HR408_0.out)) | (with_reducible refine Kd.C_alloc ?_ _) | (with_reducible refine Kd.C_drewN ?_ _) | (with_reducible refine Kd.C_drew ?_)))
               (case side4 => exact HC408_0.out)
               rintro e w60 ⟨rfl, hb⟩
               have HS0_ := (hb.cell (World.block_lt_of_cell? _ _ (hHeld.1))).trans (hHeld.1)
               have HS1_ := (hb.cell (World.block_lt_of_cell? _ _ (hHeld.2))).trans (hHeld.2)
               refine ⟨_, rfl, ?_⟩
               have n0_ := Aside0.mk (Kd.R_below (by (with_reducible repeat (first | apply Kd.R_alloc | apply Kd.R_drewN | apply Kd.R_drew)); exact HO_4.out) hb)
               have n1_ := Aside0.mk (Kd.N_below (by (with_reducible repeat (first | apply Kd.N_alloc | apply Kd.N_drewN | apply Kd.N_drew)); exact HO_5.out) hb)
               have n2_ := Aside0.mk (Kd.V_below (by (with_reducible repeat (first | apply Kd.V_alloc | apply Kd.V_drewN | apply Kd.V_drew)); exact HL407_0.out) hb)
               have n3_ := Aside0.mk (Kd.V_below (by (with_reducible repeat (first | apply Kd.V_alloc | apply Kd.V_drewN | apply Kd.V_drew)); exact HL408_0.out) hb)
               have n4_ := Aside0.mk (Kd.C_below (by repeat (first | (with_reducible exact HR407_0.out) | (with_reducible refine Kd.C_alloc ?_ _) | (with_reducible refine Kd.C_drewN ?_ _) | (with_reducible refine Kd.C_drew ?_) | exact HR407_0.out)) hb)
               have n5_ := Aside0.mk (Kd.C_below (by repeat (first | (with_reducible exact HR408_0.out) | (with_reducible refine Kd.C_alloc ?_ _) | (with_reducible refine Kd.C_drewN ?_ _) | (with_reducible refine Kd.C_drew ?_) | exact HR408_0.out)) hb)
               have n6_ := Aside0.mk (below_step (by repeat (first | (with_reducible first | exact HB.out | apply below_alloc | apply pw_below_drewN | apply below_drew1) | exact HB.out)) hb)
               clear HO_4
               clear HO_5
               clear HL407_0
               clear HL408_0
               clear HR407_0
               clear HR408_0
               clear HB
               have HO_4 := n0_
               have HO_5 := n1_
               have HL407_0 := n2_
               have HL408_0 := n3_
               have HR407_0 := n4_
               have HR408_0 := n5_
               have HB := n6_
               clear n0_ n1_ n2_ n3_ n4_ n5_ n6_
               (try clear hb)
               (try clear hb2)
               (try clear hk)
               (try clear hi)
               refine hK.out _ _ ⟨HS0_, HS1_⟩ (fun hHeld => ?_)
               clear hK K
               refine norm_ (a' := ?_) ?_ ?_
               rotate_left; focus (show Act.put _ (some 125) _ = _; simp only [Act.put, List.setIfInBounds_toArray, List.set_cons_zero, List.set_cons_succ, i64_w, i32_w, u8_w, u32_w]; rfl; done)
               refine pure_ (i := 10) (N := some 13) (v := ?_) (a' := ?_) #[true, true, true, true, true, true, true, true, true, true, true] rfl rfl (any_of HT_.out (by kernel_rfl)) (fun _ _ _ h => h) (Or.inl ⟨by rfl, ?_⟩) ?_ ?_
               rotate_left; focus (intro w'; go_simp; with_reducible rfl; done)
               rotate_left; focus (simp only [Act.put, List.setIfInBounds_toArray, List.set_cons_zero, List.set_cons_succ, i64_w, i32_w, u8_w, u32_w]; rfl; done)
               refine done_ (done_of HT_.out (by kernel_rfl)) ?_
               try go_wp2
               have n0_ := Aside0.mk (Kd.R_drew HO_4.out)
               have n1_ := Aside0.mk (Kd.N_drew HO_5.out)
               have n2_ := Aside0.mk (Kd.V_drew HL407_0.out)
               have n3_ := Aside0.mk (Kd.V_drew HL408_0.out)
               have n4_ := Aside0.mk (Kd.C_drew HR407_0.out)
               have n5_ := Aside0.mk (Kd.C_drew HR408_0.out)
               have n6_ := Aside0.mk (below_drew1 HB.out)
               clear HO_4
               clear HO_5
               clear HL407_0
               clear HL408_0
               clear HR407_0
               clear HR408_0
               clear HB
               have HO_4 := n0_
               have HO_5 := n1_
               have HL407_0 := n2_
               have HL408_0 := n3_
               have HR407_0 := n4_
               have HR408_0 := n5_
               have HB := n6_
               clear n0_ n1_ n2_ n3_ n4_ n5_ n6_
               obtain ⟨Ao62, co62, eo62⟩ := Kd.R_slice HO_4.out
               (first | subst eo62 | (injection eo62 with f1_ f2_ f3_; have f4_ := f1_.symm; have f5_ := f3_.symm; clear f1_ f2_ f3_; subst f4_; subst f5_))
               have p410 : 0 ≤ ((ji49) : Int) := of_decide_eq_true (by first | (with_reducible assumption) | assumption)
               have q410 : (ji49) < (x4_1.length : Int) := of_decide_eq_true (by first | (with_reducible assumption) | assumption)
               obtain ⟨ad410, e410, hx410_0⟩ := Kd.at_string (Kd.R_reads' HO_4.out).2.2 (ji49) p410 q410
               cases e410
               replace p410 := eq_true p410
               replace q410 := eq_true q410
               have p411 : 0 ≤ (x12_2 : Int) := of_decide_eq_true (by first | (with_reducible assumption) | assumption)
               have q411 : x12_2 < (x4_1.length : Int) := of_decide_eq_true (by first | (with_reducible assumption) | assumption)
               obtain ⟨ad411, e411, hx411_0⟩ := Kd.at_string (Kd.R_reads' HO_4.out).2.2 x12_2 p411 q411
               obtain rfl : ad410 = ad411 := (by injection e411)
               replace p411 := eq_true p411
               replace q411 := eq_true q411
               refine start_ (n := 17) (S := fun w' => w'.cell? (ad410.add ((ji49)).toNat) = some (.string (rdOf ByteArray.empty x4_1 (ji49))) ∧ w'.cell? (ad410.add (x12_2).toNat) = some (.string (rdOf ByteArray.empty x4_1 x12_2))) (ds := []) #[false, false, false, false, false, false, false, false, false, false, false, false, false, false, false, false, false] (by kernel_rfl) rfl rfl ⟨hx410_0, hx411_0⟩ (fun hHeld => ?_); refine with_tabW unisonlaw02_KeySorted.tab28 unisonlaw02_KeySorted.bits28 (fun HT_ HW_ => ?_)
               generalize w60.drew = w61 at HO_4 HO_5 HL407_0 HL408_0 HR407_0 HR408_0 HB hx410_0 hx411_0 hHeld ⊢
               refine pure_ (i := 0) (N := some 126) (v := ?_) (a' := ?_) #[true, false, false, false, false, false, false, false, false, false, false, false, false, false, false, false, false] rfl rfl (any_of HT_.out (by kernel_rfl)) (fun _ _ _ h => h) (Or.inl ⟨by rfl, ?_⟩) ?_ ?_
               rotate_left; focus (intro w'; go_simp; with_reducible rfl; done)
               rotate_left; focus (simp only [Act.put, List.setIfInBounds_toArray, List.set_cons_zero, List.set_cons_succ, i64_w, i32_w, u8_w, u32_w]; rfl; done)
               refine pure_ (i := 1) (N := some 127) (v := ?_) (a' := ?_) #[true, true, false, false, false, false, false, false, false, false, false, false, false, false, false, false, false] rfl rfl (any_of HT_.out (by kernel_rfl)) (fun _ _ _ h => h) (Or.inl ⟨by rfl, ?_⟩) ?_ ?_
               rotate_left; focus (intro w'; go_simp; with_reducible rfl; done)
               rotate_left; focus (simp only [Act.put, List.setIfInBounds_toArray, List.set_cons_zero, List.set_cons_succ, i64_w, i32_w, u8_w, u32_w]; rfl; done)
               refine pure_ (i := 2) (N := some 128) (v := ?_) (a' := ?_) #[true, true, true, false, false, false, false, false, false, false, false, false, false, false, false, false, false] rfl rfl (any_of HT_.out (by kernel_rfl)) (fun _ _ _ h => h) (Or.inl ⟨by rfl, ?_⟩) ?_ ?_
               rotate_left; focus (intro w'; go_simp; with_reducible rfl; done)
               rotate_left; focus (simp only [Act.put, List.setIfInBounds_toArray, List.set_cons_zero, List.set_cons_succ, i64_w, i32_w, u8_w, u32_w]; rfl; done)
               refine pure_ (i := 3) (N := some 129) (v := ?_) (a' := ?_) #[true, true, true, true, false, false, false, false, false, false, false, false, false, false, false, false, false] rfl rfl (any_of HT_.out (by kernel_rfl)) (fun _ _ _ h => h) (Or.inl ⟨by rfl, ?_⟩) ?_ ?_
               rotate_left; focus (intro w'; go_simp; with_reducible rfl; done)
               rotate_left; focus (simp only [Act.put, List.setIfInBounds_toArray, List.set_cons_zero, List.set_cons_succ, i64_w, i32_w, u8_w, u32_w]; rfl; done)
               refine pure_ (i := 4) (N := some 130) (v := ?_) (a' := ?_) #[true, true, true, true, true, false, false, false, false, false, false, false, false, false, false, false, false] rfl rfl (any_of HT_.out (by kernel_rfl)) (fun _ _ _ h => h) (Or.inl ⟨by rfl, ?_⟩) ?_ ?_
               rotate_left; focus (intro w'; go_simp; with_reducible rfl; done)
               rotate_left; focus (simp only [Act.put, List.setIfInBounds_toArray, List.set_cons_zero, List.set_cons_succ, i64_w, i32_w, u8_w, u32_w]; rfl; done)
               refine pure_ (i := 5) (N := some 131) (v := ?_) (a' := ?_) #[true, true, true, true, true, true, false, false, false, false, false, false, false, false, false, false, false] rfl rfl (any_of HT_.out (by kernel_rfl)) (fun _ _ _ h => h) (Or.inl ⟨by rfl, ?_⟩) ?_ ?_
               rotate_left; focus (intro w'; go_simp; with_reducible rfl; done)
               rotate_left; focus (simp only [Act.put, List.setIfInBounds_toArray, List.set_cons_zero, List.set_cons_succ, i64_w, i32_w, u8_w, u32_w]; rfl; done)
               refine pure_ (i := 6) (N := some 132) (v := ?_) (a' := ?_) #[true, true, true, true, true, true, true, false, false, false, false, false, false, false, false, false, false] rfl rfl (any_of HT_.out (by kernel_rfl)) (fun _ _ _ h => h) (Or.inl ⟨by rfl, ?_⟩) ?_ ?_
               rotate_left; focus (intro w'; go_simp; with_reducible rfl; done)
               rotate_left; focus (simp only [Act.put, List.setIfInBounds_toArray, List.set_cons_zero, List.set_cons_succ, i64_w, i32_w, u8_w, u32_w]; rfl; done)
               refine pure_ (i := 7) (N := some 133) (v := ?_) (a' := ?_) #[true, true, true, true, true, true, true, true, false, false, false, false, false, false, false, false, false] rfl rfl (any_of HT_.out (by kernel_rfl)) (fun _ _ _ h => h) (Or.inl ⟨by rfl, ?_⟩) ?_ ?_
               rotate_left; focus (intro w'; go_simp; with_reducible rfl; done)
               rotate_left; focus (simp only [Act.put, List.setIfInBounds_toArray, List.set_cons_zero, List.set_cons_succ, i64_w, i32_w, u8_w, u32_w]; rfl; done)
               refine pure_ (i := 8) (N := some 134) (v := ?_) (a' := ?_) #[true, true, true, true, true, true, true, true, true, false, false, false, false, false, false, false, false] rfl rfl (any_of HT_.out (by kernel_rfl)) (fun _ _ _ h => h) (Or.inl ⟨by rfl, ?_⟩) ?_ ?_
               rotate_left; focus (intro w'; go_simp; with_reducible rfl; done)
               rotate_left; focus (simp only [Act.put, List.setIfInBounds_toArray, List.set_cons_zero, List.set_cons_succ, i64_w, i32_w, u8_w, u32_w]; rfl; done)
               refine pure_ (i := 10) (N := some 136) (v := ?_) (a' := ?_) #[true, true, true, true, true, true, true, true, true, false, true, false, false, false, false, false, false] rfl rfl (any_of HT_.out (by kernel_rfl)) (fun _ _ _ h => h) (Or.inl ⟨by rfl, ?_⟩) ?_ ?_
               rotate_left; focus (intro w'; go_simp; with_reducible rfl; done)
               rotate_left; focus (simp only [Act.put, List.setIfInBounds_toArray, List.set_cons_zero, List.set_cons_succ, i64_w, i32_w, u8_w, u32_w]; rfl; done)
               refine pure_ (i := 11) (N := some 137) (v := ?_) (a' := ?_) #[true, true, true, true, true, true, true, true, true, false, true, true, false, false, false, false, false] rfl rfl (any_of HT_.out (by kernel_rfl)) (fun _ _ _ h => h) (Or.inl ⟨by rfl, ?_⟩) ?_ ?_
               rotate_left; focus (intro w'; go_simp; with_reducible rfl; done)
               rotate_left; focus (simp only [Act.put, List.setIfInBounds_toArray, List.set_cons_zero, List.set_cons_succ, i64_w, i32_w, u8_w, u32_w]; rfl; done)
               refine pure_ (i := 12) (N := some 138) (v := ?_) (a' := ?_) #[true, true, true, true, true, true, true, true, true, false, true, true, true, false, false, false, false] rfl rfl (any_of HT_.out (by kernel_rfl)) (fun _ _ _ h => h) (Or.inl ⟨by rfl, ?_⟩) ?_ ?_
               rotate_left; focus (intro w'; go_simp; with_reducible rfl; done)
               rotate_left; focus (simp only [Act.put, List.setIfInBounds_toArray, List.set_cons_zero, List.set_cons_succ, i64_w, i32_w, u8_w, u32_w]; rfl; done)
               refine take_ (i := 9) (N := some 135) (v := ?_) (a' := ?_) #[true, true, true, true, true, true, true, true, true, true, true, true, true, false, false, false, false] rfl rfl (take_ofW HT_.out HW_.out (by kernel_rfl)) (fun _ _ _ h => h) (Or.inl ⟨by rfl, ?_⟩) hHeld ?_ ?_
               rotate_left; focus (rintro w' ⟨s0, s1⟩; go_simp; with_reducible rfl; done)
               rotate_left; focus (simp only [Act.put, List.setIfInBounds_toArray, List.set_cons_zero, List.set_cons_succ, i64_w, i32_w, u8_w, u32_w]; rfl; done)
               refine take_ (i := 13) (N := some 139) (v := ?_) (a' := ?_) #[true, true, true, true, true, true, true, true, true, true, true, true, true, true, false, false, false] rfl rfl (take_ofW HT_.out HW_.out (by kernel_rfl)) (fun _ _ _ h => h) (Or.inl ⟨by rfl, ?_⟩) hHeld ?_ ?_
               rotate_left; focus (rintro w' ⟨s0, s1⟩; go_simp; with_reducible rfl; done)
               rotate_left; focus (simp only [Act.put, List.setIfInBounds_toArray, List.set_cons_zero, List.set_cons_succ, i64_w, i32_w, u8_w, u32_w]; rfl; done)
               refine pure_ (i := 14) (N := some 140) (v := ?_) (a' := ?_) #[true, true, true, true, true, true, true, true, true, true, true, true, true, true, true, false, false] rfl rfl (any_of HT_.out (by kernel_rfl)) (fun _ _ _ h => h) (Or.inl ⟨by rfl, ?_⟩) ?_ ?_
               rotate_left; focus (intro w'; go_simp; with_reducible rfl; done)
               rotate_left; focus (simp only [Act.put, List.setIfInBounds_toArray, List.set_cons_zero, List.set_cons_succ, i64_w, i32_w, u8_w, u32_w]; rfl; done)
               refine pure_ (i := 15) (N := some 141) (v := ?_) (a' := ?_) #[true, true, true, true, true, true, true, true, true, true, true, true, true, true, true, true, false] rfl rfl (any_of HT_.out (by kernel_rfl)) (fun _ _ _ h => h) (Or.inl ⟨by rfl, ?_⟩) ?_ ?_
               rotate_left; focus (intro w'; go_simp; with_reducible rfl; done)
               rotate_left; focus (simp only [Act.put, List.setIfInBounds_toArray, List.set_cons_zero, List.set_cons_succ, i64_w, i32_w, u8_w, u32_w]; rfl; done)
               refine pure_ (i := 16) (N := some 142) (v := ?_) (a' := ?_) #[true, true, true, true, true, true, true, true, true, true, true, true, true, true, true, true, true] rfl rfl (any_of HT_.out (by kernel_rfl)) (fun _ _ _ h => h) (Or.inl ⟨by rfl, ?_⟩) ?_ ?_
               rotate_left; focus (intro w'; go_simp; with_reducible rfl; done)
               rotate_left; focus (simp only [Act.put, List.setIfInBounds_toArray, List.set_cons_zero, List.set_cons_succ, i64_w, i32_w, u8_w, u32_w]; rfl; done)
               refine done_ (done_of HT_.out (by kernel_rfl)) ?_
               try go_wp2
               go_roundg k2
               case measure => have := HK1.out; have := HK2.out; omega
               case rel => exact ⟨(wrap64 (x12_2 + 1)), (by first | rfl | (simp; done) | (simp [*]; done)), H', ⟨by have := HK1.out; have := HK2.out; omega⟩, ⟨by (try simp only [hl0_1]); (with_reducible repeat (first | apply Kd.R_alloc | apply Kd.R_drewN | apply Kd.R_drew)); exact HO_4.out⟩, ⟨by (try simp only [hl0_1]); (with_reducible repeat (first | apply Kd.N_alloc | apply Kd.N_drewN | apply Kd.N_drew)); exact HO_5.out⟩, ⟨by repeat (first | (with_reducible first | exact HB.out | apply below_alloc | apply pw_below_drewN | apply below_drew1) | exact HB.out)⟩⟩
             ·
              rw [if_neg c56] at H
              exact absurd H (by simp)
            ·
             rw [if_neg c55] at H
             exact absurd H (by simp)
          ·
           rw [if_neg c52] at H
           exact absurd H (by simp)
         ·
          rw [if_neg c51] at H
          exact absurd H (by simp)
        ·
         rw [if_neg c50] at H
         exact absurd H (by simp)
       ·
        rw [if_neg c48] at H
        have c48b0 : decide (x12_2 < (x5_1.length : Int)) = false := decide_eq_false c48
        clear c48
        obtain rfl := Option.some.inj H
        obtain ⟨Ao63, co63, eo63⟩ := Kd.N_slice HO_5.out
        subst eo63
        go_wp2
        go_ret
        exact ⟨by first | (simp only [ByteArray.size_extract, Nat.min_self]; rfl) | rfl | (simp [errW_none, errW_some] <;> rfl) | (simp [*, errW_none, errW_some] <;> rfl), by repeat (first | (with_reducible first | exact HB.out | apply below_alloc | apply pw_below_drewN | apply below_drew1) | exact HB.out)⟩

end Go.Proofs.YtohknmlcleifpaaDoor.PA
