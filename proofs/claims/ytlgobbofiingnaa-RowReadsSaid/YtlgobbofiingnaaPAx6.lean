-- Laid by a program of ours (wip/gen/xprint.py). Not trusted: Lean checks it.
import Derived.Test.YtlgobbofiingnaaPAx0
import Derived.Test.YtlgobbofiingnaaPAx4
import Derived.Test.YtlgobbofiingnaaPAx5
namespace Go.Proofs.Ytlgobbofiingnaa.PA
open Go.RowKit Go.Proofs.YtlgobbofiingnaaW.PrintWords Go.Proofs.YtlgobbofiingnaaW.PrintLast Go.Proofs.YtlgobbofiingnaaW.PrintMore Go.Proofs.YtlgobbofiingnaaX
attribute [local go_sem] max2_int min2_int max_two min_two max_three min_three max_four min_four   -- for this text's walks alone
set_option linter.unusedVariables false
set_option linter.unusedSimpArgs false

/-! ### row_Decode: function 13 -/
def row_Decode.l0 : Nat → Int → ByteArray → List (S25) → Int → ByteArray → Bool → Option ((List (S25)) × Int)
 | 0, _, _, _, _, _, _ => none
 | k + 1, x5, x6, x7, x8, x157000, x157001 => if x8 < x5 then (if x157001 = true then (some (([] : List (S25)), 30)) else (if 0 ≤ (wrap64 (Int.tdiv x8 4)) then (if (wrap64 (Int.tdiv x8 4)) < (x6.size : Int) then (if 0 ≤ (wrap64 ((Int.tmod x8 4) * 2)) then ((row_reader_value.f k x157000 x157001 (wrap64 (Go.bits .and .u8 (shr .u8 (bt x6 (wrap64 (Int.tdiv x8 4))) (wrap64 ((Int.tmod x8 4) * 2))) 3))).bind fun bt166 => (if 0 ≤ x8 then (if x8 < (x7.length : Int) then (row_Decode.l0 k x5 x6 (x7.set (x8 : Int).toNat (⟨bt166.1, bt166.2.1, bt166.2.2.1⟩ : S25)) (wrap64 (x8 + 1)) bt166.2.2.2.1 bt166.2.2.2.2) else (none)) else (none))) else (none)) else (none)) else (none))) else (if x157001 = true then (some (([] : List (S25)), 30)) else (if x157000.toList = ([] : List UInt8) then (if (Int.tmod x5 4) > 0 then (if 0 ≤ (wrap64 (Int.tdiv x5 4)) then (if (wrap64 (Int.tdiv x5 4)) < (x6.size : Int) then (if 0 ≤ (wrap64 ((Int.tmod x5 4) * 2)) then (if (shr .u8 (bt x6 (wrap64 (Int.tdiv x5 4))) (wrap64 ((Int.tmod x5 4) * 2))) = 0 then (some (x7, 0)) else (some (([] : List (S25)), 30))) else (none)) else (none)) else (none)) else (some (x7, 0))) else (some (([] : List (S25)), 30))))
def row_Decode.f (k : Nat) (a0 : ByteArray) : Option ((List (S25)) × Int) := (row_reader_byte.f a0 false).bind fun bt157 => (if bt157.1 > 16 then (some (([] : List (S25)), 30)) else ((row_reader_cut.f bt157.2.1 bt157.2.2 (wrap64 (Int.tdiv (wrap64 (bt157.1 + 3)) 4))).bind fun bt160 => (if 0 ≤ bt157.1 then (if (bt157.1 : Int).toNat ≤ 8796093022208 then (row_Decode.l0 k bt157.1 bt160.1 (List.replicate (bt157.1 : Int).toNat z25) 0 bt160.2.1 bt160.2.2) else (none)) else (none))))
theorem row_Decode.mono_l : ∀ k, (∀ y0 y1 y2 y3 y4 y5, LeO (row_Decode.l0 k y0 y1 y2 y3 y4 y5) (row_Decode.l0 (k + 1) y0 y1 y2 y3 y4 y5))
 | 0 => fun _ _ _ _ _ _ r h => by simp [row_Decode.l0] at h
 | k + 1 => by
  have ih0 := row_Decode.mono_l k
  ·
   intro y0 y1 y2 y3 y4 y5
   unfold row_Decode.l0
   repeat' first
   | (with_reducible exact ih0 _ _ _ _ _ _)
   | (with_reducible exact row_reader_value.mono _ _ _ _)
   | (with_reducible exact LeO.refl _)
   | (with_reducible exact LeO.none _)
   | (with_reducible refine LeO.ite ?_ ?_)
   | (with_reducible refine LeO.bind ?_ (fun _ => ?_))
   | exact ih0 _ _ _ _ _ _
   | exact row_reader_value.mono _ _ _ _
   | exact LeO.none _
   | refine LeO.ite ?_ ?_
   | refine LeO.bind ?_ (fun _ => ?_)
theorem row_Decode.mono : ∀ a0 k, LeO (row_Decode.f k a0) (row_Decode.f (k + 1) a0) := by
 intro a0 k
 have ih0 := row_Decode.mono_l k
 unfold row_Decode.f
 repeat' first
   | (with_reducible exact ih0 _ _ _ _ _ _)
   | (with_reducible exact row_reader_value.mono _ _ _ _)
   | (with_reducible exact LeO.refl _)
   | (with_reducible exact LeO.none _)
   | (with_reducible refine LeO.ite ?_ ?_)
   | (with_reducible refine LeO.bind ?_ (fun _ => ?_))
   | exact ih0 _ _ _ _ _ _
   | exact row_reader_value.mono _ _ _ _
   | exact LeO.none _
   | refine LeO.ite ?_ ?_
   | refine LeO.bind ?_ (fun _ => ?_)
set_option maxHeartbeats 8000000 in
set_option maxRecDepth 100000 in
theorem row_Decode.calls (k : Nat) (a0 : ByteArray) (r1 : List (S25)) (r2 : Int) (w : World) (h : row_Decode.f k a0 = some (r1, r2)) :
  Calls Try.prog 13 #[.string a0] w fun e w' => ∃ v0_ : Value, e = .returned (.tuple #[v0_, .int .i64 r2]) ∧ Kd.R k25 25 w' w.heap.size (fun _ => True) v0_ r1 ∧ Below w.heap.size w w' := by
 have hu44 := Try.underlying44
 have hu25 := Try.underlying25
 have HB := Aside0.mk (Below.refl w.heap.size w)
 have H : ((row_reader_byte.f a0 false).bind fun bt157 => (if bt157.1 > 16 then (some (([] : List (S25)), 30)) else ((row_reader_cut.f bt157.2.1 bt157.2.2 (wrap64 (Int.tdiv (wrap64 (bt157.1 + 3)) 4))).bind fun bt160 => (if 0 ≤ bt157.1 then (if (bt157.1 : Int).toNat ≤ 8796093022208 then (row_Decode.l0 k bt157.1 bt160.1 (List.replicate (bt157.1 : Int).toNat z25) 0 bt160.2.1 bt160.2.2) else (none)) else (none))))) = some (r1, r2) := h
 clear h
 replace H := Option.bind_eq_some_iff.mp H
 obtain ⟨⟨t157, t158, t159⟩, A20, H⟩ := H
 replace H : (if t157 > 16 then (some (([] : List (S25)), 30)) else ((row_reader_cut.f t158 t159 (wrap64 (Int.tdiv (wrap64 (t157 + 3)) 4))).bind fun bt160 => (if 0 ≤ t157 then (if (t157 : Int).toNat ≤ 8796093022208 then (row_Decode.l0 k t157 bt160.1 (List.replicate (t157 : Int).toNat z25) 0 bt160.2.1 bt160.2.2) else (none)) else (none)))) = some (r1, r2) := H
 have A2 := Aside0.mk A20
 clear A20
 by_cases c3 : t157 > 16
 ·
  rw [if_pos c3] at H
  have c3b0 : decide (16 < t157) = true := decide_eq_true c3
  clear c3
  simp only [Option.some.injEq, Prod.mk.injEq] at H
  obtain ⟨rfl, rfl⟩ := H
  go_enter Try.func13, Try.ntmps13
  go_wp2_with (first | ((with_reducible refine gate_dst (N := 11) rfl ?_); refine box_event ?hg (N := 11) ?hd (cs := #[.string a0, .bool false]) (t := 44) ?hr ?_; (case hd => rfl); (case hg => rfl); (case hr => first | (go_simp; done) | (go_simp; rfl)); intro gb156 hg w4 hbox hb; have n0_ := Aside0.mk (below_step (by repeat (first | (with_reducible first | exact HB.out | apply below_alloc | apply pw_below_drewN | apply below_drew1) | exact HB.out)) hb); have n1_ := Aside0.mk (hbox); have n2_ := Aside0.mk ((by rw [hg]; exact (below_size (by repeat (first | (with_reducible first | exact HB.out | apply below_alloc | apply pw_below_drewN | apply below_drew1) | exact HB.out))) : w.heap.size ≤ gb156)); have n3_ := Aside0.mk ((by rw [hg]; exact (below_size (by repeat (first | (with_reducible first | exact HB.out | apply below_alloc | apply pw_below_drewN | apply below_drew1) | exact HB.out))) : w.heap.size ≤ gb156)); have n4_ := Aside0.mk ((show IsS44 w _ gb156 a0 false from ⟨hbox, (by rw [hg]; exact (below_size (by repeat (first | (with_reducible first | exact HB.out | apply below_alloc | apply pw_below_drewN | apply below_drew1) | exact HB.out))) : w.heap.size ≤ gb156)⟩)); clear HB; have HB := n0_; have BK156 := n1_; have GW156 := n2_; have GE156 := n3_; have HI156 := n4_; clear n0_ n1_ n2_ n3_ n4_; clear hb hbox hg) | ((with_reducible refine gate_callee (f := 19) rfl ?_); refine goesL_ (some 13) rfl rfl Try.func19 (by kernel_rfl) rfl #[.pointer (some ⟨gb156, 0, none⟩)] rfl (by (try simp only [List.map_toArray, List.map_cons, List.map_nil]); first | done | rfl | (simp only [List.length_drop, List.length_take]; rfl)) ?_; (with_reducible refine (row_reader_byte.calls gb156 a0 false t157 t158 t159 w _ ?side1 ?side2 A2.out).mono ?_); (case side1 => repeat (first | (with_reducible first | exact HI156.out | apply IsS44.alloc | apply IsS44.drewN | apply IsS44.drew | apply IsS44.set_0 | apply IsS44.set_1) | exact HI156.out)); (case side2 => repeat (first | (with_reducible first | exact HB.out | apply below_alloc | apply pw_below_drewN | apply below_drew1 | refine below_set ?_ (IsS44.ge HI156.out)) | exact HB.out)); rintro e w5 ⟨rfl, hi, hb, hk⟩; refine ⟨_, rfl, ?_⟩; have n0_ := Aside0.mk (hb); have n1_ := Aside0.mk (hi); clear HB; clear HI156; have HB := n0_; have HI156 := n1_; clear n0_ n1_; (try clear hb); (try clear hb2); (try clear hk); (try clear hi)))
  go_ret2
  exact ⟨_, by first | rfl | (simp [errW_none, errW_some] <;> rfl) | (simp [*, errW_none, errW_some] <;> rfl), by first | exact Kd.R_nil _ _ _ _ _ | exact Kd.N_nil _ _ _ _ _ | exact Kd.V_nil _ _ _ _ _ | exact Kd.Q_nil _ _ _ _ _ | exact Kd.S_nil _ _ _ _ _, by repeat (first | (with_reducible first | exact HB.out | apply below_alloc | apply pw_below_drewN | apply below_drew1 | refine below_set ?_ (IsS44.ge HI156.out)) | exact HB.out)⟩
 ·
  rw [if_neg c3] at H
  have c3b0 : decide (16 < t157) = false := decide_eq_false c3
  clear c3
  replace H := Option.bind_eq_some_iff.mp H
  obtain ⟨⟨t160, t161, t162⟩, A60, H⟩ := H
  replace H : (if 0 ≤ t157 then (if (t157 : Int).toNat ≤ 8796093022208 then (row_Decode.l0 k t157 t160 (List.replicate (t157 : Int).toNat z25) 0 t161 t162) else (none)) else (none)) = some (r1, r2) := H
  have A6 := Aside0.mk A60
  clear A60
  by_cases c7 : 0 ≤ t157
  ·
   rw [if_pos c7] at H
   have c7b0 := eq_true c7
   have c7b1 : decide (0 ≤ t157) = true := decide_eq_true c7
   clear c7
   by_cases c8 : (t157 : Int).toNat ≤ 8796093022208
   ·
    rw [if_pos c8] at H
    have c8b0 := eq_true c8
    have c8b1 : decide ((t157 : Int).toNat ≤ 8796093022208) = true := decide_eq_true c8
    clear c8
    obtain ⟨y163, hy163⟩ : ∃ y_ : List (S25), y_ = (List.replicate (t157 : Int).toNat z25) := ⟨_, rfl⟩
    replace H : (row_Decode.l0 k t157 t160 y163 0 t161 t162) = some (r1, r2) := by first | (rw [hy163]; with_reducible exact H) | (have H2_ := (Option.bind_some _ _).symm.trans H; rw [hy163]; with_reducible exact H2_) | (have H2_ := (Option.bind_some _ _).symm.trans H; with_reducible exact H2_) | with_reducible exact H | (rw [hy163]; exact H) | exact H
    have Ny163 := Aside0.mk hy163
    clear hy163
    have H' := Aside0.mk H
    clear H
    go_enter Try.func13, Try.ntmps13
    go_wp2_with (first | ((with_reducible refine gate_dst (N := 11) rfl ?_); refine box_event ?hg (N := 11) ?hd (cs := #[.string a0, .bool false]) (t := 44) ?hr ?_; (case hd => rfl); (case hg => rfl); (case hr => first | (go_simp; done) | (go_simp; rfl)); intro gb156 hg w9 hbox hb; have n0_ := Aside0.mk (below_step (by repeat (first | (with_reducible first | exact HB.out | apply below_alloc | apply pw_below_drewN | apply below_drew1) | exact HB.out)) hb); have n1_ := Aside0.mk (hbox); have n2_ := Aside0.mk ((by rw [hg]; exact (below_size (by repeat (first | (with_reducible first | exact HB.out | apply below_alloc | apply pw_below_drewN | apply below_drew1) | exact HB.out))) : w.heap.size ≤ gb156)); have n3_ := Aside0.mk ((by rw [hg]; exact (below_size (by repeat (first | (with_reducible first | exact HB.out | apply below_alloc | apply pw_below_drewN | apply below_drew1) | exact HB.out))) : w.heap.size ≤ gb156)); have n4_ := Aside0.mk ((show IsS44 w _ gb156 a0 false from ⟨hbox, (by rw [hg]; exact (below_size (by repeat (first | (with_reducible first | exact HB.out | apply below_alloc | apply pw_below_drewN | apply below_drew1) | exact HB.out))) : w.heap.size ≤ gb156)⟩)); clear HB; have HB := n0_; have BK156 := n1_; have GW156 := n2_; have GE156 := n3_; have HI156 := n4_; clear n0_ n1_ n2_ n3_ n4_; clear hb hbox hg) | ((with_reducible refine gate_callee (f := 19) rfl ?_); refine goesL_ (some 13) rfl rfl Try.func19 (by kernel_rfl) rfl #[.pointer (some ⟨gb156, 0, none⟩)] rfl (by (try simp only [List.map_toArray, List.map_cons, List.map_nil]); first | done | rfl | (simp only [List.length_drop, List.length_take]; rfl)) ?_; (with_reducible refine (row_reader_byte.calls gb156 a0 false t157 t158 t159 w _ ?side1 ?side2 A2.out).mono ?_); (case side1 => repeat (first | (with_reducible first | exact HI156.out | apply IsS44.alloc | apply IsS44.drewN | apply IsS44.drew | apply IsS44.set_0 | apply IsS44.set_1) | exact HI156.out)); (case side2 => repeat (first | (with_reducible first | exact HB.out | apply below_alloc | apply pw_below_drewN | apply below_drew1 | refine below_set ?_ (IsS44.ge HI156.out)) | exact HB.out)); rintro e w10 ⟨rfl, hi, hb, hk⟩; refine ⟨_, rfl, ?_⟩; have n0_ := Aside0.mk (hb); have n1_ := Aside0.mk (hi); clear HB; clear HI156; have HB := n0_; have HI156 := n1_; clear n0_ n1_; (try clear hb); (try clear hb2); (try clear hk); (try clear hi)) | ((with_reducible refine gate_callee (f := 20) rfl ?_); refine goesL_ (some 20) rfl rfl Try.func20 (by kernel_rfl) rfl #[.pointer (some ⟨gb156, 0, none⟩), .int .i64 (wrap64 (Int.tdiv (wrap64 (t157 + 3)) 4))] rfl (by (try simp only [List.map_toArray, List.map_cons, List.map_nil]); first | done | rfl | (simp only [List.length_drop, List.length_take]; rfl)) ?_; (with_reducible refine (row_reader_cut.calls gb156 t158 t159 (wrap64 (Int.tdiv (wrap64 (t157 + 3)) 4)) t160 t161 t162 w _ ?side1 ?side2 A6.out).mono ?_); (case side1 => repeat (first | (with_reducible first | exact HI156.out | apply IsS44.alloc | apply IsS44.drewN | apply IsS44.drew | apply IsS44.set_0 | apply IsS44.set_1) | exact HI156.out)); (case side2 => repeat (first | (with_reducible first | exact HB.out | apply below_alloc | apply pw_below_drewN | apply below_drew1 | refine below_set ?_ (IsS44.ge HI156.out)) | exact HB.out)); rintro e w11 ⟨rfl, hi, hb, hk⟩; refine ⟨_, rfl, ?_⟩; have n0_ := Aside0.mk (hb); have n1_ := Aside0.mk (hi); clear HB; clear HI156; have HB := n0_; have HI156 := n1_; clear n0_ n1_; (try clear hb); (try clear hb2); (try clear hk); (try clear hi)) | ((with_reducible refine gate_dst (N := 22) rfl ?_); refine Kd.R_make k25 _ 25 rfl (N := 22) rfl 22 _ _ rfl t157 rfl rfl Try.underlying22 (.agg #[(.int .i64 0), (.int .i64 0), (.string ⟨#[]⟩)]) 32 info25 rfl (by decide) (by omega) z25 (ok := fun _ => True) (okp := fun _ => True) (k25_mkM _ _ _ z25 ) (fun _ hk => hk) trivial (of_decide_eq_true (by first | (with_reducible assumption) | assumption)) (Nat.le_trans (Nat.mul_le_mul_right _ (of_decide_eq_true (by first | (with_reducible assumption) | assumption) : t157.toNat ≤ 8796093022208)) (by omega)) (Below.refl _ _) (Nat.le_refl _) ?_; intro v164 w12 ho13 hb hg_ hnew_; clear hg_ hnew_; (first | rw [← Ny163.out] at ho13 | (simp only [Int.reduceToNat] at ho13; rw [← Ny163.out] at ho13)); have n0_ := Aside0.mk (Kd.R_lower ho13 (below_size (by repeat (first | (with_reducible first | exact HB.out | apply below_alloc | apply pw_below_drewN | apply below_drew1 | refine below_set ?_ (IsS44.ge HI156.out)) | exact HB.out)))); have n1_ := Aside0.mk (IsS44.below (by repeat (first | (with_reducible first | exact HI156.out | apply IsS44.alloc | apply IsS44.drewN | apply IsS44.drew | apply IsS44.set_0 | apply IsS44.set_1) | exact HI156.out)) hb); have n2_ := Aside0.mk (below_step (by repeat (first | (with_reducible first | exact HB.out | apply below_alloc | apply pw_below_drewN | apply below_drew1 | refine below_set ?_ (IsS44.ge HI156.out)) | exact HB.out)) hb); clear HI156; clear HB; have HO165 := n0_; have HI156 := n1_; have HB := n2_; clear n0_ n1_ n2_; clear hb ho13))
    go_loopg [8] k (fun kq v8 w' => ∃ (x7_1 : List (S25)) (x8_1 : Int) (x157000_1 : ByteArray) (x157001_1 : Bool), v8 = .int .i64 x8_1 ∧ Aside0 (row_Decode.l0 kq t157 t160 x7_1 x8_1 x157000_1 x157001_1 = some (r1, r2)) ∧ Aside0 (kq ≤ k) ∧ Aside0 (Kd.R k25 25 w' w.heap.size (fun _ => True) v164 x7_1) ∧ Aside0 (IsS44 w w' gb156 x157000_1 x157001_1) ∧ Aside0 (Below w.heap.size w w'))
    case atStart => exact ⟨(y163), (0), (t161), (t162), (by first | rfl | (simp; done) | (simp [*]; done)), H', ⟨Nat.le_refl _⟩, ⟨by (with_reducible repeat (first | apply Kd.R_alloc | apply Kd.R_drewN | apply Kd.R_drew)); exact HO165.out⟩, ⟨by repeat (first | (with_reducible first | exact HI156.out | apply IsS44.alloc | apply IsS44.drewN | apply IsS44.drew | apply IsS44.set_0 | apply IsS44.set_1) | exact HI156.out)⟩, ⟨by repeat (first | (with_reducible first | exact HB.out | apply below_alloc | apply pw_below_drewN | apply below_drew1 | refine below_set ?_ (IsS44.ge HI156.out)) | exact HB.out)⟩⟩
    case round =>
     clear H'
     try clear c1
     try clear c2
     try clear p2
     try clear c3
     try clear c3b0
     try clear p6
     try clear c7
     try clear c7b0
     try clear c7b1
     try clear c8
     try clear c8b0
     try clear c8b1
     try clear c13
     obtain ⟨x7_1, x8_1, x157000_1, x157001_1, rfl, HA, HK1, HO_7, HI156, HB⟩ := hrel
     cases gk with
     | zero => exact absurd HA.out (by simp [row_Decode.l0])
     | succ k1 =>
      have H := HA.out
      clear HA
      simp only [row_Decode.l0] at H
      by_cases c14 : x8_1 < t157
      ·
       rw [if_pos c14] at H
       have c14b0 : decide (x8_1 < t157) = true := decide_eq_true c14
       clear c14
       by_cases c15 : x157001_1 = true
       ·
        subst c15
        have H1 : (some (([] : List (S25)), 30)) = some (r1, r2) := by rw [if_pos rfl] at H; exact H
        clear H
        have H := H1
        clear H1
        simp only [Option.some.injEq, Prod.mk.injEq] at H
        obtain ⟨rfl, rfl⟩ := H
        obtain ⟨HGz16, hgz16⟩ := HI156.out
        have hcz16_0 := cellS44_0 HGz16
        have hcz16_1 := cellS44_1 HGz16
        have hfz16_0 := blk_frozen HGz16 0
        have hfz16_1 := blk_frozen HGz16 1
        clear HGz16 hgz16
        go_wp2
        go_ret2
        exact ⟨_, by first | rfl | (simp [errW_none, errW_some] <;> rfl) | (simp [*, errW_none, errW_some] <;> rfl), by first | exact Kd.R_nil _ _ _ _ _ | exact Kd.N_nil _ _ _ _ _ | exact Kd.V_nil _ _ _ _ _ | exact Kd.Q_nil _ _ _ _ _ | exact Kd.S_nil _ _ _ _ _, by repeat (first | (with_reducible first | exact HB.out | apply below_alloc | apply pw_below_drewN | apply below_drew1 | refine below_set ?_ (IsS44.ge HI156.out)) | exact HB.out)⟩
       ·
        replace c15 := Bool.eq_false_iff.mpr c15
        subst c15
        have H1 : (if 0 ≤ (wrap64 (Int.tdiv x8_1 4)) then (if (wrap64 (Int.tdiv x8_1 4)) < (t160.size : Int) then (if 0 ≤ (wrap64 ((Int.tmod x8_1 4) * 2)) then ((row_reader_value.f k1 x157000_1 false (wrap64 (Go.bits .and .u8 (shr .u8 (bt t160 (wrap64 (Int.tdiv x8_1 4))) (wrap64 ((Int.tmod x8_1 4) * 2))) 3))).bind fun bt166 => (if 0 ≤ x8_1 then (if x8_1 < (x7_1.length : Int) then (row_Decode.l0 k1 t157 t160 (x7_1.set (x8_1 : Int).toNat (⟨bt166.1, bt166.2.1, bt166.2.2.1⟩ : S25)) (wrap64 (x8_1 + 1)) bt166.2.2.2.1 bt166.2.2.2.2) else (none)) else (none))) else (none)) else (none)) else (none)) = some (r1, r2) := by rw [if_neg (show ¬ (false = true) by decide)] at H; exact H
        clear H
        have H := H1
        clear H1
        obtain ⟨ji17, hji17⟩ : ∃ j_ : Int, (wrap64 (Int.tdiv x8_1 4)) = j_ := ⟨_, rfl⟩
        replace H : (if 0 ≤ (ji17) then (if (ji17) < (t160.size : Int) then (if 0 ≤ (wrap64 ((Int.tmod x8_1 4) * 2)) then ((row_reader_value.f k1 x157000_1 false (wrap64 (Go.bits .and .u8 (shr .u8 (bt t160 (ji17)) (wrap64 ((Int.tmod x8_1 4) * 2))) 3))).bind fun bt166 => (if 0 ≤ x8_1 then (if x8_1 < (x7_1.length : Int) then (row_Decode.l0 k1 t157 t160 (x7_1.set (x8_1 : Int).toNat (⟨bt166.1, bt166.2.1, bt166.2.2.1⟩ : S25)) (wrap64 (x8_1 + 1)) bt166.2.2.2.1 bt166.2.2.2.2) else (none)) else (none))) else (none)) else (none)) else (none)) = some (r1, r2) := by first | (rw [hji17] at H; exact H) | (simp only [hji17] at H ⊢; exact H)
        have hji17w : (IntKind.i64.wrap (Int.tdiv x8_1 4)) = ji17 := (i64_w _).trans hji17
        by_cases c18 : 0 ≤ (ji17)
        ·
         rw [if_pos c18] at H
         have c18b0 : decide (0 ≤ (ji17)) = true := decide_eq_true c18
         clear c18
         by_cases c19 : (ji17) < (t160.size : Int)
         ·
          rw [if_pos c19] at H
          have c19b0 : decide ((ji17) < (t160.size : Int)) = true := decide_eq_true c19
          clear c19
          obtain ⟨ji21, hji21⟩ : ∃ j_ : Int, (wrap64 ((Int.tmod x8_1 4) * 2)) = j_ := ⟨_, rfl⟩
          replace H : (if 0 ≤ (ji21) then ((row_reader_value.f k1 x157000_1 false (wrap64 (Go.bits .and .u8 (shr .u8 (bt t160 (ji17)) (ji21)) 3))).bind fun bt166 => (if 0 ≤ x8_1 then (if x8_1 < (x7_1.length : Int) then (row_Decode.l0 k1 t157 t160 (x7_1.set (x8_1 : Int).toNat (⟨bt166.1, bt166.2.1, bt166.2.2.1⟩ : S25)) (wrap64 (x8_1 + 1)) bt166.2.2.2.1 bt166.2.2.2.2) else (none)) else (none))) else (none)) = some (r1, r2) := by first | (rw [hji21] at H; exact H) | (simp only [hji21] at H ⊢; exact H)
          have hji21w : (IntKind.i64.wrap ((Int.tmod x8_1 4) * 2)) = ji21 := (i64_w _).trans hji21
          by_cases c22 : 0 ≤ (ji21)
          ·
           rw [if_pos c22] at H
           have c22b0 := eq_true c22
           have c22b1 : decide (0 ≤ (ji21)) = true := decide_eq_true c22
           clear c22
           obtain ⟨ji23, hji23⟩ : ∃ j_ : Int, (shr .u8 (bt t160 (ji17)) (ji21)) = j_ := ⟨_, rfl⟩
           replace H : ((row_reader_value.f k1 x157000_1 false (wrap64 (Go.bits .and .u8 (ji23) 3))).bind fun bt166 => (if 0 ≤ x8_1 then (if x8_1 < (x7_1.length : Int) then (row_Decode.l0 k1 t157 t160 (x7_1.set (x8_1 : Int).toNat (⟨bt166.1, bt166.2.1, bt166.2.2.1⟩ : S25)) (wrap64 (x8_1 + 1)) bt166.2.2.2.1 bt166.2.2.2.2) else (none)) else (none))) = some (r1, r2) := by first | (rw [hji23] at H; exact H) | (simp only [hji23] at H ⊢; exact H)
           have hji23_ : ((bt t160 (ji17)) / 2 ^ min (ji21).toNat 8) = ji23 := hji23
           have hji23z : (ji21) ≤ 8 → ((bt t160 (ji17)) / 2 ^ (ji21).toNat) = ji23 := shr_small hji23
           (try have hji23y := hji23z (by (try simp only [decide_eq_true_eq, decide_eq_false_iff_not] at *); omega))
           replace H := Option.bind_eq_some_iff.mp H
           obtain ⟨⟨t166, t167, t168, t169, t170⟩, A240, H⟩ := H
           replace H : (if 0 ≤ x8_1 then (if x8_1 < (x7_1.length : Int) then (row_Decode.l0 k1 t157 t160 (x7_1.set (x8_1 : Int).toNat (⟨t166, t167, t168⟩ : S25)) (wrap64 (x8_1 + 1)) t169 t170) else (none)) else (none)) = some (r1, r2) := H
           have A24 := Aside0.mk A240
           clear A240
           by_cases c25 : 0 ≤ x8_1
           ·
            rw [if_pos c25] at H
            have c25b0 : decide (0 ≤ x8_1) = true := decide_eq_true c25
            clear c25
            by_cases c26 : x8_1 < (x7_1.length : Int)
            ·
             rw [if_pos c26] at H
             have c26b0 : decide (x8_1 < (x7_1.length : Int)) = true := decide_eq_true c26
             clear c26
             obtain ⟨y171, hy171⟩ : ∃ y_ : List (S25), y_ = (x7_1.set (x8_1 : Int).toNat (⟨t166, t167, t168⟩ : S25)) := ⟨_, rfl⟩
             replace H : (row_Decode.l0 k1 t157 t160 y171 (wrap64 (x8_1 + 1)) t169 t170) = some (r1, r2) := by first | (rw [hy171]; with_reducible exact H) | (have H2_ := (Option.bind_some _ _).symm.trans H; rw [hy171]; with_reducible exact H2_) | (have H2_ := (Option.bind_some _ _).symm.trans H; with_reducible exact H2_) | with_reducible exact H | (rw [hy171]; exact H) | exact H
             have Ny171 := Aside0.mk hy171
             clear hy171
             have H' := Aside0.mk H
             clear H
             obtain ⟨HGz28, hgz28⟩ := HI156.out
             have hcz28_0 := cellS44_0 HGz28
             have hcz28_1 := cellS44_1 HGz28
             have hfz28_0 := blk_frozen HGz28 0
             have hfz28_1 := blk_frozen HGz28 1
             clear HGz28 hgz28
             have p20 : 0 ≤ ((ji17) : Int) := of_decide_eq_true (by first | (with_reducible assumption) | assumption)
             have q20 : (ji17) < (t160.size : Int) := of_decide_eq_true (by first | (with_reducible assumption) | assumption)
             have hx20 := bt_at t160 (ji17)
             replace p20 := eq_true p20
             replace q20 := eq_true q20
             go_wp2_with (first | ((with_reducible refine gate_callee (f := 21) rfl ?_); refine goesL_ (some 48) rfl rfl Try.func21 (by kernel_rfl) rfl #[.pointer (some ⟨gb156, 0, none⟩), .int .i64 (wrap64 (Go.bits .and .u8 (ji23) 3))] rfl (by (try simp only [List.map_toArray, List.map_cons, List.map_nil]); first | done | (simp only [hji23]; rfl) | rfl | (simp only [List.length_drop, List.length_take]; rfl)) ?_; (with_reducible refine (row_reader_value.calls k1 gb156 x157000_1 false (wrap64 (Go.bits .and .u8 (ji23) 3)) t166 t167 t168 t169 t170 w _ ?side1 ?side2 A24.out).mono ?_); (case side1 => repeat (first | (with_reducible first | exact HI156.out | apply IsS44.alloc | apply IsS44.drewN | apply IsS44.drew | apply IsS44.set_0 | apply IsS44.set_1) | exact HI156.out)); (case side2 => repeat (first | (with_reducible first | exact HB.out | apply below_alloc | apply pw_below_drewN | apply below_drew1 | refine below_set ?_ (IsS44.ge HI156.out)) | exact HB.out)); rintro e w29 ⟨rfl, hi, hb, hk⟩; refine ⟨_, rfl, ?_⟩; have n0_ := Aside0.mk (Kd.R_mono (Kd.R_keep (IsS44.apart (show IsS44 w _ gb156 x157000_1 false from by repeat (first | (with_reducible first | exact HI156.out | apply IsS44.alloc | apply IsS44.drewN | apply IsS44.drew | apply IsS44.set_0 | apply IsS44.set_1) | exact HI156.out)) (by (with_reducible repeat (first | apply Kd.R_alloc | apply Kd.R_drewN | apply Kd.R_drew)); exact HO_7.out) (by decide)) hk (fun _ h => h.2)) (fun _ h => h.1)); have n1_ := Aside0.mk (hb); have n2_ := Aside0.mk (hi); clear HO_7; clear HB; clear HI156; have HO_7 := n0_; have HB := n1_; have HI156 := n2_; clear n0_ n1_ n2_; (try clear hb); (try clear hb2); (try clear hk); (try clear hi); have p27 : 0 ≤ (x8_1 : Int) := of_decide_eq_true (by first | (with_reducible assumption) | assumption); have q27 : (x8_1 : Int) < ((x7_1.length : Int) : Int) := of_decide_eq_true (by first | (with_reducible assumption) | assumption); obtain ⟨go27, co27, eo27, gb27, gl27, cl27, HG27⟩ := Kd.R_form HO_7.out (by omega); (first | cases eo27 | (injection eo27 with ea_ en_ ec_; (first | subst ea_ | (injection ea_ with ea_; subst ea_)); subst ec_; clear en_)); have GB27 := Aside0.mk gb27; have GG27 := Aside0.mk HG27; clear gb27 gl27 HG27; obtain ⟨ce27, hcl27, hM27, hcc27, hfr27⟩ := Kd.R_elem HO_7.out z25 (x8_1 : Int) p27 q27; obtain rfl := k25_openM hM27; have hx27_0 : w29.cell? ⟨go27, (x8_1 : Int).toNat * 3, none⟩ = some (.int .i64 ((rd_T25 x7_1 x8_1).f0)) := hcc27 0 _ rfl; have hx27_1 : w29.cell? ⟨go27, (x8_1 : Int).toNat * 3 + 1, none⟩ = some (.int .i64 ((rd_T25 x7_1 x8_1).f1)) := hcc27 1 _ rfl; have hx27_2 : w29.cell? ⟨go27, (x8_1 : Int).toNat * 3 + 2, none⟩ = some (.string ((rd_T25 x7_1 x8_1).f2)) := hcc27 2 _ rfl; have hf27_0 : w29.frozen? ⟨go27, (x8_1 : Int).toNat * 3, none⟩ = false := hfr27 0; have hf27_1 : w29.frozen? ⟨go27, (x8_1 : Int).toNat * 3 + 1, none⟩ = false := hfr27 1; have hf27_2 : w29.frozen? ⟨go27, (x8_1 : Int).toNat * 3 + 2, none⟩ = false := hfr27 2; clear hcl27 hcc27 hfr27 hM27; replace p27 := eq_true p27; replace q27 := eq_true q27; have HX30 := Aside0.mk (show Kd.R k25 25 w29 w.heap.size (fun _ => True) (.slice (some ⟨go27, 0, none⟩) x7_1.length co27) x7_1 from (by (with_reducible repeat (first | apply Kd.R_alloc | apply Kd.R_drewN | apply Kd.R_drew)); exact HO_7.out)); obtain ⟨ce30, hcl30, hM30, hcc30, hfr30⟩ := Kd.R_elem HX30.out z25 (x8_1 : Int) (of_decide_eq_true (by first | (with_reducible assumption) | assumption)) (by have h_ : (x8_1 : Int) < ((x7_1.length : Int) : Int) := of_decide_eq_true (by first | (with_reducible assumption) | assumption); first | exact h_ | (have e_ := (Kd.R_reads' HO_7.out).1; omega) | simpa using h_); obtain rfl := k25_openM hM30; have HP30 := Kd.R_seg HX30.out (x8_1 : Int) (of_decide_eq_true (by first | (with_reducible assumption) | assumption)) (by have h_ : (x8_1 : Int) < ((x7_1.length : Int) : Int) := of_decide_eq_true (by first | (with_reducible assumption) | assumption); first | exact h_ | (have e_ := (Kd.R_reads' HO_7.out).1; omega) | simpa using h_) (seg := [.int .i64 t166, .int .i64 t167, .string t168]) (j := 0) hcl30 hcc30 (show 3 ≤ 3 from by decide) (x' := (⟨t166, t167, t168⟩ : S25)) (k25_mkM _ _ _ (⟨t166, t167, t168⟩ : S25) ) (fun _ hk => hk); have hx30_0 := hcc30 0 _ rfl; (try simp only [show (k25).sz = 3 from rfl, Nat.mul_one, Nat.add_zero, Int.toNat_natCast] at hx30_0); have hf30_0 := hfr30 0; (try simp only [show (k25).sz = 3 from rfl, Nat.mul_one, Nat.add_zero, Int.toNat_natCast] at hf30_0); have hx30_1 := hcc30 1 _ rfl; (try simp only [show (k25).sz = 3 from rfl, Nat.mul_one, Nat.add_zero, Int.toNat_natCast] at hx30_1); have hf30_1 := hfr30 1; (try simp only [show (k25).sz = 3 from rfl, Nat.mul_one, Nat.add_zero, Int.toNat_natCast] at hf30_1); have hx30_2 := hcc30 2 _ rfl; (try simp only [show (k25).sz = 3 from rfl, Nat.mul_one, Nat.add_zero, Int.toNat_natCast] at hx30_2); have hf30_2 := hfr30 2; (try simp only [show (k25).sz = 3 from rfl, Nat.mul_one, Nat.add_zero, Int.toNat_natCast] at hf30_2); clear hcl30 hcc30 hfr30 hM30) | ((with_reducible refine gate_store (t := 25) (p := 49) rfl ?_); refine store_event (t := 25) (p := 49) (v := ?vo_w31) (w1 := (((w29.setCell ⟨go27, (x8_1 : Int).toNat * 3, none⟩ (.int .i64 t166)).setCell ⟨go27, (x8_1 : Int).toNat * 3 + 1, none⟩ (.int .i64 t167)).setCell ⟨go27, (x8_1 : Int).toNat * 3 + 2, none⟩ (.string t168))) ?hg ?ho ?hn ?hr ?_; (case ho => rfl); (case hg => rfl); (case hn => rfl); (case hr => first | (go_simp; done) | (go_simp; rfl)); intro w31 hw; have hg : w29.grownBy w31 (some go27) := (by rw [hw]; exact HP30.2); have hp_ : Kd.R k25 25 w31 w.heap.size (fun _ => True) (.slice (some ⟨go27, 0, none⟩) x7_1.length co27) y171 := (by rw [hw, Ny171.out]; exact HP30.1); clear HP30; have n0_ := Aside0.mk (hp_); have n1_ := Aside0.mk (IsS44.grown (by repeat (first | (with_reducible first | exact HI156.out | apply IsS44.alloc | apply IsS44.drewN | apply IsS44.drew | apply IsS44.set_0 | apply IsS44.set_1) | exact HI156.out)) hg (IsS44.own_ne HI156.out HO_7.out (by decide))); have n2_ := Aside0.mk ((by rw [hw]; exact below_set (below_set (below_set (HB.out) GB27.out) GB27.out) GB27.out : Below w.heap.size w w31)); clear HO_7; clear HI156; clear HB; have HO_7 := n0_; have HI156 := n1_; have HB := n2_; clear n0_ n1_ n2_; clear hg hw hp_))
             go_roundg k1
             case measure => have := HK1.out; omega
             case rel => exact ⟨(y171), (wrap64 (x8_1 + 1)), (t169), (t170), (by first | rfl | (simp; done) | (simp [*]; done)), H', ⟨by have := HK1.out; omega⟩, ⟨by (with_reducible repeat (first | apply Kd.R_alloc | apply Kd.R_drewN | apply Kd.R_drew)); exact HO_7.out⟩, ⟨by repeat (first | (with_reducible first | exact HI156.out | apply IsS44.alloc | apply IsS44.drewN | apply IsS44.drew | apply IsS44.set_0 | apply IsS44.set_1) | exact HI156.out)⟩, ⟨by repeat (first | (with_reducible first | exact HB.out | apply below_alloc | apply pw_below_drewN | apply below_drew1 | refine below_set ?_ (IsS44.ge HI156.out)) | exact HB.out)⟩⟩
            ·
             rw [if_neg c26] at H
             exact absurd H (by simp)
           ·
            rw [if_neg c25] at H
            exact absurd H (by simp)
          ·
           rw [if_neg c22] at H
           exact absurd H (by simp)
         ·
          rw [if_neg c19] at H
          exact absurd H (by simp)
        ·
         rw [if_neg c18] at H
         exact absurd H (by simp)
      ·
       rw [if_neg c14] at H
       have c14b0 : decide (x8_1 < t157) = false := decide_eq_false c14
       clear c14
       by_cases c32 : x157001_1 = true
       ·
        subst c32
        have H1 : (some (([] : List (S25)), 30)) = some (r1, r2) := by rw [if_pos rfl] at H; exact H
        clear H
        have H := H1
        clear H1
        simp only [Option.some.injEq, Prod.mk.injEq] at H
        obtain ⟨rfl, rfl⟩ := H
        obtain ⟨HGz33, hgz33⟩ := HI156.out
        have hcz33_0 := cellS44_0 HGz33
        have hcz33_1 := cellS44_1 HGz33
        have hfz33_0 := blk_frozen HGz33 0
        have hfz33_1 := blk_frozen HGz33 1
        clear HGz33 hgz33
        go_wp2
        go_ret2
        exact ⟨_, by first | rfl | (simp [errW_none, errW_some] <;> rfl) | (simp [*, errW_none, errW_some] <;> rfl), by first | exact Kd.R_nil _ _ _ _ _ | exact Kd.N_nil _ _ _ _ _ | exact Kd.V_nil _ _ _ _ _ | exact Kd.Q_nil _ _ _ _ _ | exact Kd.S_nil _ _ _ _ _, by repeat (first | (with_reducible first | exact HB.out | apply below_alloc | apply pw_below_drewN | apply below_drew1 | refine below_set ?_ (IsS44.ge HI156.out)) | exact HB.out)⟩
       ·
        replace c32 := Bool.eq_false_iff.mpr c32
        subst c32
        have H1 : (if x157000_1.toList = ([] : List UInt8) then (if (Int.tmod t157 4) > 0 then (if 0 ≤ (wrap64 (Int.tdiv t157 4)) then (if (wrap64 (Int.tdiv t157 4)) < (t160.size : Int) then (if 0 ≤ (wrap64 ((Int.tmod t157 4) * 2)) then (if (shr .u8 (bt t160 (wrap64 (Int.tdiv t157 4))) (wrap64 ((Int.tmod t157 4) * 2))) = 0 then (some (x7_1, 0)) else (some (([] : List (S25)), 30))) else (none)) else (none)) else (none)) else (some (x7_1, 0))) else (some (([] : List (S25)), 30))) = some (r1, r2) := by rw [if_neg (show ¬ (false = true) by decide)] at H; exact H
        clear H
        have H := H1
        clear H1
        by_cases c34 : x157000_1.toList = ([] : List UInt8)
        ·
         rw [if_pos c34] at H
         have c34b0 : (x157000_1.toList == ([] : List UInt8)) = true := beq_iff_eq.mpr c34
         have c34b1 : (x157000_1.toList != ([] : List UInt8)) = false := bne_eq_false_iff_eq.mpr c34
         clear c34
         by_cases c35 : (Int.tmod t157 4) > 0
         ·
          rw [if_pos c35] at H
          have c35b0 : decide (0 < (Int.tmod t157 4)) = true := decide_eq_true c35
          clear c35
          obtain ⟨ji36, hji36⟩ : ∃ j_ : Int, (wrap64 (Int.tdiv t157 4)) = j_ := ⟨_, rfl⟩
          replace H : (if 0 ≤ (ji36) then (if (ji36) < (t160.size : Int) then (if 0 ≤ (wrap64 ((Int.tmod t157 4) * 2)) then (if (shr .u8 (bt t160 (ji36)) (wrap64 ((Int.tmod t157 4) * 2))) = 0 then (some (x7_1, 0)) else (some (([] : List (S25)), 30))) else (none)) else (none)) else (none)) = some (r1, r2) := by first | (rw [hji36] at H; exact H) | (simp only [hji36] at H ⊢; exact H)
          have hji36w : (IntKind.i64.wrap (Int.tdiv t157 4)) = ji36 := (i64_w _).trans hji36
          by_cases c37 : 0 ≤ (ji36)
          ·
           rw [if_pos c37] at H
           have c37b0 : decide (0 ≤ (ji36)) = true := decide_eq_true c37
           clear c37
           by_cases c38 : (ji36) < (t160.size : Int)
           ·
            rw [if_pos c38] at H
            have c38b0 : decide ((ji36) < (t160.size : Int)) = true := decide_eq_true c38
            clear c38
            obtain ⟨ji40, hji40⟩ : ∃ j_ : Int, (wrap64 ((Int.tmod t157 4) * 2)) = j_ := ⟨_, rfl⟩
            replace H : (if 0 ≤ (ji40) then (if (shr .u8 (bt t160 (ji36)) (ji40)) = 0 then (some (x7_1, 0)) else (some (([] : List (S25)), 30))) else (none)) = some (r1, r2) := by first | (rw [hji40] at H; exact H) | (simp only [hji40] at H ⊢; exact H)
            have hji40w : (IntKind.i64.wrap ((Int.tmod t157 4) * 2)) = ji40 := (i64_w _).trans hji40
            by_cases c41 : 0 ≤ (ji40)
            ·
             rw [if_pos c41] at H
             have c41b0 := eq_true c41
             have c41b1 : decide (0 ≤ (ji40)) = true := decide_eq_true c41
             clear c41
             obtain ⟨ji42, hji42⟩ : ∃ j_ : Int, (shr .u8 (bt t160 (ji36)) (ji40)) = j_ := ⟨_, rfl⟩
             replace H : (if (ji42) = 0 then (some (x7_1, 0)) else (some (([] : List (S25)), 30))) = some (r1, r2) := by first | (rw [hji42] at H; exact H) | (simp only [hji42] at H ⊢; exact H)
             have hji42_ : ((bt t160 (ji36)) / 2 ^ min (ji40).toNat 8) = ji42 := hji42
             have hji42z : (ji40) ≤ 8 → ((bt t160 (ji36)) / 2 ^ (ji40).toNat) = ji42 := shr_small hji42
             (try have hji42y := hji42z (by (try simp only [decide_eq_true_eq, decide_eq_false_iff_not] at *); omega))
             by_cases c43 : (ji42) = 0
             ·
              rw [if_pos c43] at H
              have c43b0 : ((ji42) == 0) = true := beq_iff_eq.mpr c43
              have c43b1 : ((ji42) != 0) = false := bne_eq_false_iff_eq.mpr c43
              clear c43
              simp only [Option.some.injEq, Prod.mk.injEq] at H
              obtain ⟨rfl, rfl⟩ := H
              obtain ⟨HGz44, hgz44⟩ := HI156.out
              have hcz44_0 := cellS44_0 HGz44
              have hcz44_1 := cellS44_1 HGz44
              have hfz44_0 := blk_frozen HGz44 0
              have hfz44_1 := blk_frozen HGz44 1
              clear HGz44 hgz44
              have p39 : 0 ≤ ((ji36) : Int) := of_decide_eq_true (by first | (with_reducible assumption) | assumption)
              have q39 : (ji36) < (t160.size : Int) := of_decide_eq_true (by first | (with_reducible assumption) | assumption)
              have hx39 := bt_at t160 (ji36)
              replace p39 := eq_true p39
              replace q39 := eq_true q39
              go_wp2
              go_ret2
              exact ⟨_, by first | rfl | (simp [errW_none, errW_some] <;> rfl) | (simp only [← hji36, ← hji40, ← hji42]; first | rfl | (simp [errW_none, errW_some] <;> rfl)) | (simp only [hji42z (by (try simp only [decide_eq_true_eq, decide_eq_false_iff_not, beq_iff_eq, bne_iff_ne] at *); omega)]; first | rfl | (simp [errW_none, errW_some] <;> rfl)) | (simp [*, errW_none, errW_some] <;> rfl), by (with_reducible repeat (first | apply Kd.R_alloc | apply Kd.R_drewN | apply Kd.R_drew)); exact HO_7.out, by repeat (first | (with_reducible first | exact HB.out | apply below_alloc | apply pw_below_drewN | apply below_drew1 | refine below_set ?_ (IsS44.ge HI156.out)) | exact HB.out)⟩
             ·
              rw [if_neg c43] at H
              have c43b0 : ((ji42) == 0) = false := beq_eq_false_iff_ne.mpr c43
              have c43b1 : ((ji42) != 0) = true := bne_iff_ne.mpr c43
              simp only [Option.some.injEq, Prod.mk.injEq] at H
              obtain ⟨rfl, rfl⟩ := H
              obtain ⟨HGz45, hgz45⟩ := HI156.out
              have hcz45_0 := cellS44_0 HGz45
              have hcz45_1 := cellS44_1 HGz45
              have hfz45_0 := blk_frozen HGz45 0
              have hfz45_1 := blk_frozen HGz45 1
              clear HGz45 hgz45
              have p39 : 0 ≤ ((ji36) : Int) := of_decide_eq_true (by first | (with_reducible assumption) | assumption)
              have q39 : (ji36) < (t160.size : Int) := of_decide_eq_true (by first | (with_reducible assumption) | assumption)
              have hx39 := bt_at t160 (ji36)
              replace p39 := eq_true p39
              replace q39 := eq_true q39
              go_wp2
              go_ret2
              exact ⟨_, by first | rfl | (simp [errW_none, errW_some] <;> rfl) | (simp only [← hji36, ← hji40, ← hji42]; first | rfl | (simp [errW_none, errW_some] <;> rfl)) | (simp only [hji42z (by (try simp only [decide_eq_true_eq, decide_eq_false_iff_not, beq_iff_eq, bne_iff_ne] at *); omega)]; first | rfl | (simp [errW_none, errW_some] <;> rfl)) | (simp [*, errW_none, errW_some] <;> rfl), by first | exact Kd.R_nil _ _ _ _ _ | exact Kd.N_nil _ _ _ _ _ | exact Kd.V_nil _ _ _ _ _ | exact Kd.Q_nil _ _ _ _ _ | exact Kd.S_nil _ _ _ _ _, by repeat (first | (with_reducible first | exact HB.out | apply below_alloc | apply pw_below_drewN | apply below_drew1 | refine below_set ?_ (IsS44.ge HI156.out)) | exact HB.out)⟩
            ·
             rw [if_neg c41] at H
             exact absurd H (by simp)
           ·
            rw [if_neg c38] at H
            exact absurd H (by simp)
          ·
           rw [if_neg c37] at H
           exact absurd H (by simp)
         ·
          rw [if_neg c35] at H
          have c35b0 : decide (0 < (Int.tmod t157 4)) = false := decide_eq_false c35
          clear c35
          simp only [Option.some.injEq, Prod.mk.injEq] at H
          obtain ⟨rfl, rfl⟩ := H
          obtain ⟨HGz46, hgz46⟩ := HI156.out
          have hcz46_0 := cellS44_0 HGz46
          have hcz46_1 := cellS44_1 HGz46
          have hfz46_0 := blk_frozen HGz46 0
          have hfz46_1 := blk_frozen HGz46 1
          clear HGz46 hgz46
          go_wp2
          go_ret2
          exact ⟨_, by first | rfl | (simp [errW_none, errW_some] <;> rfl) | (simp [*, errW_none, errW_some] <;> rfl), by (with_reducible repeat (first | apply Kd.R_alloc | apply Kd.R_drewN | apply Kd.R_drew)); exact HO_7.out, by repeat (first | (with_reducible first | exact HB.out | apply below_alloc | apply pw_below_drewN | apply below_drew1 | refine below_set ?_ (IsS44.ge HI156.out)) | exact HB.out)⟩
        ·
         rw [if_neg c34] at H
         have c34b0 : (x157000_1.toList == ([] : List UInt8)) = false := beq_eq_false_iff_ne.mpr c34
         have c34b1 : (x157000_1.toList != ([] : List UInt8)) = true := bne_iff_ne.mpr c34
         simp only [Option.some.injEq, Prod.mk.injEq] at H
         obtain ⟨rfl, rfl⟩ := H
         obtain ⟨HGz47, hgz47⟩ := HI156.out
         have hcz47_0 := cellS44_0 HGz47
         have hcz47_1 := cellS44_1 HGz47
         have hfz47_0 := blk_frozen HGz47 0
         have hfz47_1 := blk_frozen HGz47 1
         clear HGz47 hgz47
         go_wp2
         go_ret2
         exact ⟨_, by first | rfl | (simp [errW_none, errW_some] <;> rfl) | (simp [*, errW_none, errW_some] <;> rfl), by first | exact Kd.R_nil _ _ _ _ _ | exact Kd.N_nil _ _ _ _ _ | exact Kd.V_nil _ _ _ _ _ | exact Kd.Q_nil _ _ _ _ _ | exact Kd.S_nil _ _ _ _ _, by repeat (first | (with_reducible first | exact HB.out | apply below_alloc | apply pw_below_drewN | apply below_drew1 | refine below_set ?_ (IsS44.ge HI156.out)) | exact HB.out)⟩
   ·
    rw [if_neg c8] at H
    exact absurd H (by simp)
  ·
   rw [if_neg c7] at H
   exact absurd H (by simp)

end Go.Proofs.Ytlgobbofiingnaa.PA
