-- Laid by a program of ours (wip/gen/xprint.py). Not trusted: Lean checks it.
import Derived.Test.YtllehkjebikgpaaGreatDoorPAx0
import Derived.Test.YtllehkjebikgpaaGreatDoorMD
import Derived.Test.YtllehkjebikgpaaGreatDoorPFRScan
import Derived.Test.YtllehkjebikgpaaGreatDoorXC
namespace Go.Proofs.YtllehkjebikgpaaGreatDoor.PA
open Go.RowKit Go.Proofs.YtllehkjebikgpaaGreatDoorW.PrintWords Go.Proofs.YtllehkjebikgpaaGreatDoorW.PrintLast Go.Proofs.YtllehkjebikgpaaGreatDoorW.PrintMore Go.Proofs.YtllehkjebikgpaaGreatDoorX
attribute [local go_sem] max2_int min2_int max_two min_two max_three min_three max_four min_four   -- for this text's walks alone
set_option linter.unusedVariables false
set_option linter.unusedSimpArgs false

/-! ### unisonlaw10_LexScans: function 3 -/
mutual
def unisonlaw10_LexScans.l0 : Nat → ByteArray → ByteArray → List (S28) → Int → Int → List (S28) → Int → Int → Bool → Int → Option (Bool)
 | 0, _, _, _, _, _, _, _, _, _, _ => none
 | k + 1, x0, x1, x5, x6, x7, x8, x9, x10, x11, x12 => if x12 < (x5.length : Int) then (if 0 ≤ x12 then (unisonlaw10_LexScans.l0 k x0 x1 (x5.set (x12 : Int).toNat (⟨(-7), 0, (⟨#[]⟩ : ByteArray), 0⟩ : S28)) x6 x7 x8 x9 x10 x11 (wrap64 (x12 + 1))) else (none)) else ((lex_Scan.f k x1).bind fun bt234 => ((unisonref10_Scan.f k x1).bind fun bt239 => ((lex_Scan.f k x0).bind fun bt244 => ((unisonlaw10_same.f k bt234.1 bt239.1).bind fun t249 => ((unisonlaw10_same.f k bt244.1 x8).bind fun t250 => (unisonlaw10_LexScans.j1 k x6 x7 x9 x10 x11 bt234.2.1 bt234.2.2 bt239.2.1 bt239.2.2 bt244.2.1 bt244.2.2 t249 t250))))))
def unisonlaw10_LexScans.j1 : Nat → Int → Int → Int → Int → Bool → Int → Int → Int → Int → Int → Int → Bool → Bool → Option (Bool)
 | 0, _, _, _, _, _, _, _, _, _, _, _, _, _ => none
 | k + 1, x6, x7, x9, x10, x11, x14, x15, x17, x18, x20, x21, x22, x23 => if x11 = true then (if x22 = true then (if x23 = true then (if x6 = x9 then (if x7 = x10 then (if x14 = x17 then (if x15 = x18 then (if x20 = x9 then (some (x21 == x10)) else (none)) else (none)) else (none)) else (none)) else (none)) else (none)) else (none)) else (none)
end
def unisonlaw10_LexScans.f (k : Nat) (a0 : ByteArray) (a1 : ByteArray) : Option (Bool) := (lex_Scan.f k a0).bind fun bt222 => ((unisonref10_Scan.f k a0).bind fun bt227 => ((unisonlaw10_same.f k bt222.1 bt227.1).bind fun t232 => (unisonlaw10_LexScans.l0 k a0 a1 bt222.1 bt222.2.1 bt222.2.2 bt227.1 bt227.2.1 bt227.2.2 t232 0)))
theorem unisonlaw10_LexScans.mono_l : ∀ k, (∀ y0 y1 y2 y3 y4 y5 y6 y7 y8 y9, LeO (unisonlaw10_LexScans.l0 k y0 y1 y2 y3 y4 y5 y6 y7 y8 y9) (unisonlaw10_LexScans.l0 (k + 1) y0 y1 y2 y3 y4 y5 y6 y7 y8 y9)) ∧ (∀ y0 y1 y2 y3 y4 y5 y6 y7 y8 y9 y10 y11 y12, LeO (unisonlaw10_LexScans.j1 k y0 y1 y2 y3 y4 y5 y6 y7 y8 y9 y10 y11 y12) (unisonlaw10_LexScans.j1 (k + 1) y0 y1 y2 y3 y4 y5 y6 y7 y8 y9 y10 y11 y12))
 | 0 => ⟨fun _ _ _ _ _ _ _ _ _ _ r h => by simp [unisonlaw10_LexScans.l0] at h, fun _ _ _ _ _ _ _ _ _ _ _ _ _ r h => by simp [unisonlaw10_LexScans.j1] at h⟩
 | k + 1 => by
  obtain ⟨ih0, ih1⟩ := unisonlaw10_LexScans.mono_l k
  refine ⟨?_, ?_⟩
  ·
   intro y0 y1 y2 y3 y4 y5 y6 y7 y8 y9
   unfold unisonlaw10_LexScans.l0
   repeat' first
   | (with_reducible exact ih0 _ _ _ _ _ _ _ _ _ _)
   | (with_reducible exact ih1 _ _ _ _ _ _ _ _ _ _ _ _ _)
   | (with_reducible exact lex_Scan.mono _ _)
   | (with_reducible exact unisonlaw10_same.mono _ _ _)
   | (with_reducible exact unisonref10_Scan.mono _ _)
   | (with_reducible exact LeO.refl _)
   | (with_reducible exact LeO.none _)
   | (with_reducible refine LeO.ite ?_ ?_)
   | (with_reducible refine LeO.bind ?_ (fun _ => ?_))
   | exact ih0 _ _ _ _ _ _ _ _ _ _
   | exact ih1 _ _ _ _ _ _ _ _ _ _ _ _ _
   | exact lex_Scan.mono _ _
   | exact unisonlaw10_same.mono _ _ _
   | exact unisonref10_Scan.mono _ _
   | exact LeO.none _
   | refine LeO.ite ?_ ?_
   | refine LeO.bind ?_ (fun _ => ?_)
  ·
   intro y0 y1 y2 y3 y4 y5 y6 y7 y8 y9 y10 y11 y12
   unfold unisonlaw10_LexScans.j1
   repeat' first
   | (with_reducible exact ih0 _ _ _ _ _ _ _ _ _ _)
   | (with_reducible exact ih1 _ _ _ _ _ _ _ _ _ _ _ _ _)
   | (with_reducible exact lex_Scan.mono _ _)
   | (with_reducible exact unisonlaw10_same.mono _ _ _)
   | (with_reducible exact unisonref10_Scan.mono _ _)
   | (with_reducible exact LeO.refl _)
   | (with_reducible exact LeO.none _)
   | (with_reducible refine LeO.ite ?_ ?_)
   | (with_reducible refine LeO.bind ?_ (fun _ => ?_))
   | exact ih0 _ _ _ _ _ _ _ _ _ _
   | exact ih1 _ _ _ _ _ _ _ _ _ _ _ _ _
   | exact lex_Scan.mono _ _
   | exact unisonlaw10_same.mono _ _ _
   | exact unisonref10_Scan.mono _ _
   | exact LeO.none _
   | refine LeO.ite ?_ ?_
   | refine LeO.bind ?_ (fun _ => ?_)
theorem unisonlaw10_LexScans.mono : ∀ a0 a1 k, LeO (unisonlaw10_LexScans.f k a0 a1) (unisonlaw10_LexScans.f (k + 1) a0 a1) := by
 intro a0 a1 k
 obtain ⟨ih0, ih1⟩ := unisonlaw10_LexScans.mono_l k
 unfold unisonlaw10_LexScans.f
 repeat' first
   | (with_reducible exact ih0 _ _ _ _ _ _ _ _ _ _)
   | (with_reducible exact ih1 _ _ _ _ _ _ _ _ _ _ _ _ _)
   | (with_reducible exact lex_Scan.mono _ _)
   | (with_reducible exact unisonlaw10_same.mono _ _ _)
   | (with_reducible exact unisonref10_Scan.mono _ _)
   | (with_reducible exact LeO.refl _)
   | (with_reducible exact LeO.none _)
   | (with_reducible refine LeO.ite ?_ ?_)
   | (with_reducible refine LeO.bind ?_ (fun _ => ?_))
   | exact ih0 _ _ _ _ _ _ _ _ _ _
   | exact ih1 _ _ _ _ _ _ _ _ _ _ _ _ _
   | exact lex_Scan.mono _ _
   | exact unisonlaw10_same.mono _ _ _
   | exact unisonref10_Scan.mono _ _
   | exact LeO.none _
   | refine LeO.ite ?_ ?_
   | refine LeO.bind ?_ (fun _ => ?_)
set_option maxHeartbeats 8000000 in
set_option maxRecDepth 100000 in
theorem unisonlaw10_LexScans.calls (k : Nat) (a0 : ByteArray) (a1 : ByteArray) (r : Bool) (w : World) (h : unisonlaw10_LexScans.f k a0 a1 = some r) (HG0 : Gw w) :
  Calls Tryz.prog 3 #[.string a0, .string a1] w fun e w' => e = .returned (.bool r) ∧ Below w.heap.size w w' := by
 have HG := Aside0.mk HG0
 clear HG0
 have hu28 := Tryz.underlying28; have HB := Aside0.mk (Below.refl w.heap.size w); have H : ((lex_Scan.f k a0).bind fun bt222 => ((unisonref10_Scan.f k a0).bind fun bt227 => ((unisonlaw10_same.f k bt222.1 bt227.1).bind fun t232 => (unisonlaw10_LexScans.l0 k a0 a1 bt222.1 bt222.2.1 bt222.2.2 bt227.1 bt227.2.1 bt227.2.2 t232 0)))) = some r := h; clear h; replace H := Option.bind_eq_some_iff.mp H
 obtain ⟨⟨t222, t223, t224⟩, A30, H⟩ := H
 replace H : ((unisonref10_Scan.f k a0).bind fun bt227 => ((unisonlaw10_same.f k t222 bt227.1).bind fun t232 => (unisonlaw10_LexScans.l0 k a0 a1 t222 t223 t224 bt227.1 bt227.2.1 bt227.2.2 t232 0))) = some r := H; have A3 := Aside0.mk A30; clear A30; replace H := Option.bind_eq_some_iff.mp H
 obtain ⟨⟨t227, t228, t229⟩, A40, H⟩ := H
 replace H : ((unisonlaw10_same.f k t222 t227).bind fun t232 => (unisonlaw10_LexScans.l0 k a0 a1 t222 t223 t224 t227 t228 t229 t232 0)) = some r := H; have A4 := Aside0.mk A40; clear A40; replace H := Option.bind_eq_some_iff.mp H
 obtain ⟨t232, A50, H⟩ := H
 replace H : (unisonlaw10_LexScans.l0 k a0 a1 t222 t223 t224 t227 t228 t229 t232 0) = some r := H; have A5 := Aside0.mk A50; clear A50
 have H' := Aside0.mk H
 clear H
 go_enter Tryz.func3, Tryz.ntmps3
 go_wp2_with (first | ((with_reducible refine gate_callee (f := 4) rfl ?_); refine gL (some 26) Tryz.func4 #[.string a0] ?_; (with_reducible refine (lex_Scan.calls k a0 t222 t223 t224 _ A3.out (gk HG)).mono ?_); rintro e w6 ⟨v225, rfl, ho0, hb⟩; refine ⟨_, rfl, ?_⟩; have HO226 := Aside0.mk (Kd.R_lower ho0 (below_size bel)); replace HB := bs hb; (try clear hb); (try clear hb2); (try clear hk); (try clear hi); (try clear ho0)) | ((with_reducible refine gate_callee (f := 5) rfl ?_); refine gL (some 32) Tryz.func5 #[.string a0] ?_; (with_reducible refine (unisonref10_Scan.calls k a0 t227 t228 t229 _ A4.out).mono ?_); rintro e w7 ⟨v230, rfl, ho0, hb⟩; refine ⟨_, rfl, ?_⟩; have HO231 := Aside0.mk (Kd.R_lower (Kd.R_new' ho0 (Kd.R_lt (by (with_reducible repeat (first | apply Kd.R_alloc | apply Kd.R_drewN | apply Kd.R_drew)); exact HO226.out))) (below_size bel)); replace HO226 := Aside0.mk (Kd.R_elder' (by (with_reducible repeat (first | apply Kd.R_alloc | apply Kd.R_drewN | apply Kd.R_drew)); exact HO226.out) (Kd.R_base ho0) hb); replace HB := bs hb; (try clear hb); (try clear hb2); (try clear hk); (try clear hi); (try clear ho0); obtain ⟨Ao8, co8, eo8⟩ := Kd.R_slice HO226.out; subst eo8; obtain ⟨Ao9, co9, eo9⟩ := Kd.R_slice HO231.out; subst eo9) | ((with_reducible refine gate_callee (f := 6) rfl ?_); refine gL (some 38) Tryz.func6 #[.slice Ao8 t222.length co8, .slice Ao9 t227.length co9] ?_; (with_reducible refine (unisonlaw10_same.calls k _ _ t222 _ _ t227 t232 _ ?side1 ?side2 ?side3 ?side4 A5.out).mono ?_); (case side1 => repeat (first | exact (Kd.R_reads' HO226.out).2.2 | (with_reducible refine Kd.C_alloc ?_ _) | (with_reducible refine Kd.C_drewN ?_ _) | (with_reducible refine Kd.C_drew ?_))); (case side2 => exact (Kd.R_reads' HO226.out).2.1); (case side3 => repeat (first | exact (Kd.R_reads' HO231.out).2.2 | (with_reducible refine Kd.C_alloc ?_ _) | (with_reducible refine Kd.C_drewN ?_ _) | (with_reducible refine Kd.C_drew ?_))); (case side4 => exact (Kd.R_reads' HO231.out).2.1); rintro e w' ⟨rfl, ⟨nd, rfl⟩⟩; refine ⟨_, rfl, ?_⟩))
 go_loopg [12] k (fun kq v12 w' => ∃ (x5_1 : List (S28)) (x12_1 : Int), v12 = .int .i64 x12_1 ∧ Aside0 (unisonlaw10_LexScans.l0 kq a0 a1 x5_1 t223 t224 t227 t228 t229 t232 x12_1 = some r) ∧ Aside0 (kq ≤ k) ∧ Aside0 (Kd.R k28 28 w' w.heap.size (fun k_ => some k_ ≠ ((.slice Ao9 t227.length co9) : Value).ownBlock) (.slice Ao8 t222.length co8) x5_1) ∧ Aside0 (Kd.R k28 28 w' w.heap.size (fun k_ => some k_ ≠ ((.slice Ao8 t222.length co8) : Value).ownBlock) (.slice Ao9 t227.length co9) t227) ∧ Aside0 (Below w.heap.size w w'))
 case atStart => exact ⟨(t222), (0), (by first | rfl | (simp; done) | (simp [*]; done)), H', ⟨Nat.le_refl _⟩, ⟨by (with_reducible repeat (first | apply Kd.R_alloc | apply Kd.R_drewN | apply Kd.R_drew)); exact Kd.R_mono HO226.out (fun _ hk => hk.2)⟩, ⟨by (with_reducible repeat (first | apply Kd.R_alloc | apply Kd.R_drewN | apply Kd.R_drew)); exact Kd.R_mono HO231.out (fun _ hk => hk.2)⟩, ⟨by repeat (first | (with_reducible first | exact HB.out | apply below_alloc | apply pw_below_drewN | apply below_drew1) | exact HB.out)⟩⟩
 case round =>
  clear H'
  (try clear p2); (try clear c3); (try clear c4); (try clear c5); (try clear c6)
  obtain ⟨x5_1, x12_1, rfl, HA, HK1, HO_5, HO_8, HB⟩ := hrel
  have hl5_1 := (Kd.R_reads' HO_5.out).1
  rw [hl5_1] at HO_5
  (try simp only [hl5_1])
  (try simp only [hl5_1] at HO_8)
  cases gk with
  | zero => exact absurd HA.out (by simp [unisonlaw10_LexScans.l0])
  | succ k1 =>
   have H := HA.out; clear HA
   simp only [unisonlaw10_LexScans.l0] at H
   by_cases c10 : x12_1 < (x5_1.length : Int)
   ·
    rw [if_pos c10] at H
    have c10b0 : decide (x12_1 < (x5_1.length : Int)) = true := decide_eq_true c10; clear c10
    by_cases c11 : 0 ≤ x12_1
    ·
     rw [if_pos c11] at H
     have c11b0 : decide (0 ≤ x12_1) = true := decide_eq_true c11; clear c11
     obtain ⟨y233, hy233⟩ : ∃ y_ : List (S28), y_ = (x5_1.set (x12_1 : Int).toNat (⟨(-7), 0, (⟨#[]⟩ : ByteArray), 0⟩ : S28)) := ⟨_, rfl⟩
     replace H : (unisonlaw10_LexScans.l0 k1 a0 a1 y233 t223 t224 t227 t228 t229 t232 (wrap64 (x12_1 + 1))) = some r := by first | (rw [hy233]; with_reducible exact H) | (have H2_ := (Option.bind_some _ _).symm.trans H; rw [hy233]; with_reducible exact H2_) | (have H2_ := (Option.bind_some _ _).symm.trans H; with_reducible exact H2_) | with_reducible exact H | (rw [hy233]; exact H) | exact H
     have Ny233 := Aside0.mk hy233; clear hy233
     have H' := Aside0.mk H
     clear H; have p12 : 0 ≤ (x12_1 : Int) := of_decide_eq_true (by first | (with_reducible assumption) | assumption); have q12 : (x12_1 : Int) < ((x5_1.length : Int) : Int) := of_decide_eq_true (by first | (with_reducible assumption) | assumption)
     obtain ⟨go12, co12, eo12, gb12, gl12, cl12, HG12⟩ := Kd.R_form HO_5.out (by omega)
     (first | cases eo12 | (injection eo12 with ea_ en_ ec_; (first | subst ea_ | (injection ea_ with ea_; subst ea_)); subst ec_; clear en_))
     have GB12 := Aside0.mk gb12; have GG12 := Aside0.mk HG12; clear gb12 gl12 HG12
     obtain ⟨ce12, hcl12, hM12, hcc12, hfr12⟩ := Kd.R_elem HO_5.out z28 (x12_1 : Int) p12 q12
     obtain rfl := k28_openM hM12
     have hx12_0 : wr.cell? ⟨go12, (x12_1 : Int).toNat * 4, none⟩ = some (.int .i64 ((rd_T28 x5_1 x12_1).f0)) := hcc12 0 _ rfl; have hx12_1 : wr.cell? ⟨go12, (x12_1 : Int).toNat * 4 + 1, none⟩ = some (.int .i64 ((rd_T28 x5_1 x12_1).f1)) := hcc12 1 _ rfl; have hx12_2 : wr.cell? ⟨go12, (x12_1 : Int).toNat * 4 + 2, none⟩ = some (.string ((rd_T28 x5_1 x12_1).f2)) := hcc12 2 _ rfl; have hx12_3 : wr.cell? ⟨go12, (x12_1 : Int).toNat * 4 + 3, none⟩ = some (.int .i64 ((rd_T28 x5_1 x12_1).f3)) := hcc12 3 _ rfl; have hf12_0 : wr.frozen? ⟨go12, (x12_1 : Int).toNat * 4, none⟩ = false := hfr12 0; have hf12_1 : wr.frozen? ⟨go12, (x12_1 : Int).toNat * 4 + 1, none⟩ = false := hfr12 1; have hf12_2 : wr.frozen? ⟨go12, (x12_1 : Int).toNat * 4 + 2, none⟩ = false := hfr12 2; have hf12_3 : wr.frozen? ⟨go12, (x12_1 : Int).toNat * 4 + 3, none⟩ = false := hfr12 3; clear hcl12 hcc12 hfr12 hM12; replace p12 := eq_true p12; replace q12 := eq_true q12; have HX13 := Aside0.mk (show Kd.R k28 28 wr w.heap.size (fun k_ => some k_ ≠ (.slice Ao9 t227.length co9 : Value).ownBlock) (.slice (some ⟨go12, 0, none⟩) x5_1.length co8) x5_1 from (by (with_reducible repeat (first | apply Kd.R_alloc | apply Kd.R_drewN | apply Kd.R_drew)); exact HO_5.out))
     obtain ⟨ce13, hcl13, hM13, hcc13, hfr13⟩ := Kd.R_elem HX13.out z28 (x12_1 : Int) (of_decide_eq_true (by first | (with_reducible assumption) | assumption)) (by have h_ : (x12_1 : Int) < ((x5_1.length : Int) : Int) := of_decide_eq_true (by first | (with_reducible assumption) | assumption); first | exact h_ | (have e_ := (Kd.R_reads' HO_5.out).1; omega) | simpa using h_)
     obtain rfl := k28_openM hM13
     have HP13 := Kd.R_seg HX13.out (x12_1 : Int) (of_decide_eq_true (by first | (with_reducible assumption) | assumption)) (by have h_ : (x12_1 : Int) < ((x5_1.length : Int) : Int) := of_decide_eq_true (by first | (with_reducible assumption) | assumption); first | exact h_ | (have e_ := (Kd.R_reads' HO_5.out).1; omega) | simpa using h_) (seg := [.int .i64 (-7), .int .i64 0, .string (⟨#[]⟩ : ByteArray), .int .i64 0]) (j := 0) hcl13 hcc13 (show 4 ≤ 4 from by decide) (x' := (⟨(-7), 0, (⟨#[]⟩ : ByteArray), 0⟩ : S28)) (k28_mkM _ _ _ (⟨(-7), 0, (⟨#[]⟩ : ByteArray), 0⟩ : S28) ) (fun _ hk => hk); have hx13_0 := hcc13 0 _ rfl
     (try simp only [show (k28).sz = 4 from rfl, Nat.mul_one, Nat.add_zero, Int.toNat_natCast] at hx13_0)
     have hf13_0 := hfr13 0
     (try simp only [show (k28).sz = 4 from rfl, Nat.mul_one, Nat.add_zero, Int.toNat_natCast] at hf13_0)
     have hx13_1 := hcc13 1 _ rfl
     (try simp only [show (k28).sz = 4 from rfl, Nat.mul_one, Nat.add_zero, Int.toNat_natCast] at hx13_1)
     have hf13_1 := hfr13 1
     (try simp only [show (k28).sz = 4 from rfl, Nat.mul_one, Nat.add_zero, Int.toNat_natCast] at hf13_1)
     have hx13_2 := hcc13 2 _ rfl
     (try simp only [show (k28).sz = 4 from rfl, Nat.mul_one, Nat.add_zero, Int.toNat_natCast] at hx13_2)
     have hf13_2 := hfr13 2
     (try simp only [show (k28).sz = 4 from rfl, Nat.mul_one, Nat.add_zero, Int.toNat_natCast] at hf13_2)
     have hx13_3 := hcc13 3 _ rfl
     (try simp only [show (k28).sz = 4 from rfl, Nat.mul_one, Nat.add_zero, Int.toNat_natCast] at hx13_3)
     have hf13_3 := hfr13 3
     (try simp only [show (k28).sz = 4 from rfl, Nat.mul_one, Nat.add_zero, Int.toNat_natCast] at hf13_3)
     clear hcl13 hcc13 hfr13 hM13
     go_wp2_with (first | ((with_reducible refine gate_store (t := 28) (p := 48) rfl ?_); refine store_event (t := 28) (p := 48) (v := ?vo_w14) (w1 := ((((wr.setCell ⟨go12, (x12_1 : Int).toNat * 4, none⟩ (.int .i64 (-7))).setCell ⟨go12, (x12_1 : Int).toNat * 4 + 1, none⟩ (.int .i64 0)).setCell ⟨go12, (x12_1 : Int).toNat * 4 + 2, none⟩ (.string (⟨#[]⟩ : ByteArray))).setCell ⟨go12, (x12_1 : Int).toNat * 4 + 3, none⟩ (.int .i64 0))) ?hg ?ho ?hn ?hr ?_; (case ho => rfl); (case hg => rfl); (case hn => rfl); (case hr => first | (go_simp; done) | (go_simp; rfl)); intro w14 hw; have hg : wr.grownBy w14 (some go12) := (by rw [hw]; exact HP13.2); have hp_ : Kd.R k28 28 w14 w.heap.size (fun k_ => some k_ ≠ (.slice Ao9 t227.length co9 : Value).ownBlock) (.slice (some ⟨go12, 0, none⟩) x5_1.length co8) y233 := (by rw [hw, Ny233.out]; exact HP13.1); clear HP13; replace HO_5 := Aside0.mk (hp_); replace HO_8 := Aside0.mk (Kd.R_after (v := (.slice (some ⟨go12, 0, none⟩) x5_1.length co8)) (v1 := (.slice (some ⟨go12, 0, none⟩) x5_1.length co8)) (ok := (fun _ => True)) (by (with_reducible repeat (first | apply Kd.R_alloc | apply Kd.R_drewN | apply Kd.R_drew)); exact Kd.R_mono HO_8.out (fun _ hk => ⟨trivial, hk⟩)) hg (.inl rfl)); replace HB := Aside0.mk ((by rw [hw]; exact below_set (below_set (below_set (below_set (HB.out) GB12.out) GB12.out) GB12.out) GB12.out : Below w.heap.size w w14)); clear hg hw hp_))
     (try simp only [← hl5_1])
     go_roundg k1
     case measure => have := HK1.out; omega
     case rel => exact ⟨(y233), (wrap64 (x12_1 + 1)), (by first | rfl | (simp; done) | (simp [*]; done)), H', ⟨by have := HK1.out; omega⟩, ⟨by (try simp only [hl5_1]); (with_reducible repeat (first | apply Kd.R_alloc | apply Kd.R_drewN | apply Kd.R_drew)); exact HO_5.out⟩, ⟨by (try simp only [hl5_1]); (with_reducible repeat (first | apply Kd.R_alloc | apply Kd.R_drewN | apply Kd.R_drew)); exact Kd.R_mono HO_8.out (fun _ hk => hk.2)⟩, ⟨by repeat (first | (with_reducible first | exact HB.out | apply below_alloc | apply pw_below_drewN | apply below_drew1) | exact HB.out)⟩⟩
    ·
     rw [if_neg c11] at H
     exact absurd H (by simp)
   ·
    rw [if_neg c10] at H
    have c10b0 : decide (x12_1 < (x5_1.length : Int)) = false := decide_eq_false c10; clear c10; replace H := Option.bind_eq_some_iff.mp H
    obtain ⟨⟨t234, t235, t236⟩, A150, H⟩ := H
    replace H : ((unisonref10_Scan.f k1 a1).bind fun bt239 => ((lex_Scan.f k1 a0).bind fun bt244 => ((unisonlaw10_same.f k1 t234 bt239.1).bind fun t249 => ((unisonlaw10_same.f k1 bt244.1 t227).bind fun t250 => (unisonlaw10_LexScans.j1 k1 t223 t224 t228 t229 t232 t235 t236 bt239.2.1 bt239.2.2 bt244.2.1 bt244.2.2 t249 t250))))) = some r := H; have A15 := Aside0.mk A150; clear A150; replace H := Option.bind_eq_some_iff.mp H
    obtain ⟨⟨t239, t240, t241⟩, A160, H⟩ := H
    replace H : ((lex_Scan.f k1 a0).bind fun bt244 => ((unisonlaw10_same.f k1 t234 t239).bind fun t249 => ((unisonlaw10_same.f k1 bt244.1 t227).bind fun t250 => (unisonlaw10_LexScans.j1 k1 t223 t224 t228 t229 t232 t235 t236 t240 t241 bt244.2.1 bt244.2.2 t249 t250)))) = some r := H; have A16 := Aside0.mk A160; clear A160; replace H := Option.bind_eq_some_iff.mp H
    obtain ⟨⟨t244, t245, t246⟩, A170, H⟩ := H
    replace H : ((unisonlaw10_same.f k1 t234 t239).bind fun t249 => ((unisonlaw10_same.f k1 t244 t227).bind fun t250 => (unisonlaw10_LexScans.j1 k1 t223 t224 t228 t229 t232 t235 t236 t240 t241 t245 t246 t249 t250))) = some r := H; have A17 := Aside0.mk A170; clear A170; replace H := Option.bind_eq_some_iff.mp H
    obtain ⟨t249, A180, H⟩ := H
    replace H : ((unisonlaw10_same.f k1 t244 t227).bind fun t250 => (unisonlaw10_LexScans.j1 k1 t223 t224 t228 t229 t232 t235 t236 t240 t241 t245 t246 t249 t250)) = some r := H; have A18 := Aside0.mk A180; clear A180; have HC19 := Aside0.mk H; clear H
    go_upto_region 12 with (first | ((with_reducible refine gate_callee (f := 4) rfl ?_); refine gL (some 51) Tryz.func4 #[.string a1] ?_; (with_reducible refine (lex_Scan.calls k1 a1 t234 t235 t236 _ A15.out (gk HG)).mono ?_); rintro e w20 ⟨v237, rfl, ho0, hb⟩; refine ⟨_, rfl, ?_⟩; have HO238 := Aside0.mk (Kd.R_lower (Kd.R_new' (Kd.R_new' ho0 (Kd.R_lt (by (with_reducible repeat (first | apply Kd.R_alloc | apply Kd.R_drewN | apply Kd.R_drew)); exact HO_5.out))) (Kd.R_lt (by (with_reducible repeat (first | apply Kd.R_alloc | apply Kd.R_drewN | apply Kd.R_drew)); exact HO_8.out))) (below_size bel)); replace HO_5 := Aside0.mk (Kd.R_elder' (by (with_reducible repeat (first | apply Kd.R_alloc | apply Kd.R_drewN | apply Kd.R_drew)); exact HO_5.out) (Kd.R_base ho0) hb); replace HO_8 := Aside0.mk (Kd.R_elder' (by (with_reducible repeat (first | apply Kd.R_alloc | apply Kd.R_drewN | apply Kd.R_drew)); exact HO_8.out) (Kd.R_base ho0) hb); replace HB := bs hb; (try clear hb); (try clear hb2); (try clear hk); (try clear hi); (try clear ho0)) | ((with_reducible refine gate_callee (f := 5) rfl ?_); refine gL (some 57) Tryz.func5 #[.string a1] ?_; (with_reducible refine (unisonref10_Scan.calls k1 a1 t239 t240 t241 _ A16.out).mono ?_); rintro e w21 ⟨v242, rfl, ho0, hb⟩; refine ⟨_, rfl, ?_⟩; have HO243 := Aside0.mk (Kd.R_lower (Kd.R_new' (Kd.R_new' (Kd.R_new' ho0 (Kd.R_lt (by (with_reducible repeat (first | apply Kd.R_alloc | apply Kd.R_drewN | apply Kd.R_drew)); exact HO_5.out))) (Kd.R_lt (by (with_reducible repeat (first | apply Kd.R_alloc | apply Kd.R_drewN | apply Kd.R_drew)); exact HO_8.out))) (Kd.R_lt (by (with_reducible repeat (first | apply Kd.R_alloc | apply Kd.R_drewN | apply Kd.R_drew)); exact HO238.out))) (below_size bel)); replace HO_5 := Aside0.mk (Kd.R_elder' (by (with_reducible repeat (first | apply Kd.R_alloc | apply Kd.R_drewN | apply Kd.R_drew)); exact HO_5.out) (Kd.R_base ho0) hb); replace HO_8 := Aside0.mk (Kd.R_elder' (by (with_reducible repeat (first | apply Kd.R_alloc | apply Kd.R_drewN | apply Kd.R_drew)); exact HO_8.out) (Kd.R_base ho0) hb); replace HO238 := Aside0.mk (Kd.R_elder' (by (with_reducible repeat (first | apply Kd.R_alloc | apply Kd.R_drewN | apply Kd.R_drew)); exact HO238.out) (Kd.R_base ho0) hb); replace HB := bs hb; (try clear hb); (try clear hb2); (try clear hk); (try clear hi); (try clear ho0)) | ((with_reducible refine gate_callee (f := 4) rfl ?_); refine gL (some 63) Tryz.func4 #[.string a0] ?_; (with_reducible refine (lex_Scan.calls k1 a0 t244 t245 t246 _ A17.out (gk HG)).mono ?_); rintro e w22 ⟨v247, rfl, ho0, hb⟩; refine ⟨_, rfl, ?_⟩; have HO248 := Aside0.mk (Kd.R_lower (Kd.R_new' (Kd.R_new' (Kd.R_new' (Kd.R_new' ho0 (Kd.R_lt (by (with_reducible repeat (first | apply Kd.R_alloc | apply Kd.R_drewN | apply Kd.R_drew)); exact HO_5.out))) (Kd.R_lt (by (with_reducible repeat (first | apply Kd.R_alloc | apply Kd.R_drewN | apply Kd.R_drew)); exact HO_8.out))) (Kd.R_lt (by (with_reducible repeat (first | apply Kd.R_alloc | apply Kd.R_drewN | apply Kd.R_drew)); exact HO238.out))) (Kd.R_lt (by (with_reducible repeat (first | apply Kd.R_alloc | apply Kd.R_drewN | apply Kd.R_drew)); exact HO243.out))) (below_size bel)); replace HO_5 := Aside0.mk (Kd.R_elder' (by (with_reducible repeat (first | apply Kd.R_alloc | apply Kd.R_drewN | apply Kd.R_drew)); exact HO_5.out) (Kd.R_base ho0) hb); replace HO_8 := Aside0.mk (Kd.R_elder' (by (with_reducible repeat (first | apply Kd.R_alloc | apply Kd.R_drewN | apply Kd.R_drew)); exact HO_8.out) (Kd.R_base ho0) hb); replace HO238 := Aside0.mk (Kd.R_elder' (by (with_reducible repeat (first | apply Kd.R_alloc | apply Kd.R_drewN | apply Kd.R_drew)); exact HO238.out) (Kd.R_base ho0) hb); replace HO243 := Aside0.mk (Kd.R_elder' (by (with_reducible repeat (first | apply Kd.R_alloc | apply Kd.R_drewN | apply Kd.R_drew)); exact HO243.out) (Kd.R_base ho0) hb); replace HB := bs hb; (try clear hb); (try clear hb2); (try clear hk); (try clear hi); (try clear ho0); obtain ⟨Ao23, co23, eo23⟩ := Kd.R_slice HO238.out; subst eo23; obtain ⟨Ao24, co24, eo24⟩ := Kd.R_slice HO243.out; subst eo24) | ((with_reducible refine gate_callee (f := 6) rfl ?_); refine gL (some 69) Tryz.func6 #[.slice Ao23 t234.length co23, .slice Ao24 t239.length co24] ?_; (with_reducible refine (unisonlaw10_same.calls k1 _ _ t234 _ _ t239 t249 _ ?side1 ?side2 ?side3 ?side4 A18.out).mono ?_); (case side1 => repeat (first | exact (Kd.R_reads' HO238.out).2.2 | (with_reducible refine Kd.C_alloc ?_ _) | (with_reducible refine Kd.C_drewN ?_ _) | (with_reducible refine Kd.C_drew ?_))); (case side2 => exact (Kd.R_reads' HO238.out).2.1); (case side3 => repeat (first | exact (Kd.R_reads' HO243.out).2.2 | (with_reducible refine Kd.C_alloc ?_ _) | (with_reducible refine Kd.C_drewN ?_ _) | (with_reducible refine Kd.C_drew ?_))); (case side4 => exact (Kd.R_reads' HO243.out).2.1); rintro e w' ⟨rfl, ⟨nd, rfl⟩⟩; refine ⟨_, rfl, ?_⟩))
    (try simp only [Act.put, List.setIfInBounds_toArray, List.set_cons_zero, List.set_cons_succ])
    go_cut [23] (fun v23 wc => ∃ (kq : Nat) (x23_18 : Bool), v23 = .bool x23_18 ∧ Aside0 (unisonlaw10_LexScans.j1 kq t223 t224 t228 t229 t232 t235 t236 t240 t241 t245 t246 t249 x23_18 = some r) ∧ Aside0 (kq ≤ k1) ∧ Aside0 (Below w.heap.size w wc))
    case first =>
     have H := HC19.out; clear HC19; replace H := Option.bind_eq_some_iff.mp H
     obtain ⟨t250, A250, H⟩ := H
     replace H : (unisonlaw10_LexScans.j1 k1 t223 t224 t228 t229 t232 t235 t236 t240 t241 t245 t246 t249 t250) = some r := H; have A25 := Aside0.mk A250; clear A250
     have H' := Aside0.mk H
     clear H
     obtain ⟨Ao26, co26, eo26⟩ := Kd.R_slice HO248.out
     subst eo26
     go_wp2_with (first | ((with_reducible refine gate_callee (f := 6) rfl ?_); refine gL (some 72) Tryz.func6 #[.slice Ao26 t244.length co26, .slice Ao9 t227.length co9] ?_; (with_reducible refine (unisonlaw10_same.calls k1 _ _ t244 _ _ t227 t250 _ ?side1 ?side2 ?side3 ?side4 A25.out).mono ?_); (case side1 => repeat (first | exact (Kd.R_reads' HO248.out).2.2 | (with_reducible refine Kd.C_alloc ?_ _) | (with_reducible refine Kd.C_drewN ?_ _) | (with_reducible refine Kd.C_drew ?_))); (case side2 => exact (Kd.R_reads' HO248.out).2.1); (case side3 => repeat (first | exact (Kd.R_reads' HO_8.out).2.2 | (with_reducible refine Kd.C_alloc ?_ _) | (with_reducible refine Kd.C_drewN ?_ _) | (with_reducible refine Kd.C_drew ?_))); (case side4 => exact (Kd.R_reads' HO_8.out).2.1); rintro e w' ⟨rfl, ⟨nd, rfl⟩⟩; refine ⟨_, rfl, ?_⟩))
     go_meet
     case rel => exact ⟨_, (t250), (by first | rfl | (simp; done) | (simp [*]; done)), H', ⟨by have := HK1.out; first | omega | exact Nat.le_refl _⟩, ⟨by repeat (first | (with_reducible first | exact HB.out | apply below_alloc | apply pw_below_drewN | apply below_drew1) | exact HB.out)⟩⟩
    case rest =>
     clear HC19; (try clear c1); (try clear p1); (try clear q1); (try clear hx1); (try clear p2); (try clear c3); (try clear c4); (try clear c5); (try clear c6); (try clear p6); (try clear c10); (try clear c10b0); (try clear c11); (try clear c11b0); (try clear c12); (try clear p12); (try clear q12); (try clear hx12); (try clear hf12); (try clear c13); (try clear hx13); (try clear hf13); (try clear hx12_0); (try clear hx12_1); (try clear hx12_2); (try clear hx12_3); (try clear hx13_0); (try clear hx13_1); (try clear hx13_2); (try clear hx13_3); (try clear p12); (try clear p2); (try clear q12)
     obtain ⟨kq, x23_18, rfl, HA, HJ18, HB⟩ := hcut
     cases kq with
     | zero => exact absurd HA.out (by simp [unisonlaw10_LexScans.j1])
     | succ kj18 =>
      have H := HA.out; clear HA
      simp only [unisonlaw10_LexScans.j1] at H
      by_cases c27 : t232 = true
      ·
       subst c27
       have H1 : (if t249 = true then (if x23_18 = true then (if t223 = t228 then (if t224 = t229 then (if t235 = t240 then (if t236 = t241 then (if t245 = t228 then (some (t246 == t229)) else (none)) else (none)) else (none)) else (none)) else (none)) else (none)) else (none)) = some r := by rw [if_pos rfl] at H; exact H
       clear H; have H := H1; clear H1
       by_cases c28 : t249 = true
       ·
        subst c28
        have H1 : (if x23_18 = true then (if t223 = t228 then (if t224 = t229 then (if t235 = t240 then (if t236 = t241 then (if t245 = t228 then (some (t246 == t229)) else (none)) else (none)) else (none)) else (none)) else (none)) else (none)) = some r := by rw [if_pos rfl] at H; exact H
        clear H; have H := H1; clear H1
        by_cases c29 : x23_18 = true
        ·
         subst c29
         have H1 : (if t223 = t228 then (if t224 = t229 then (if t235 = t240 then (if t236 = t241 then (if t245 = t228 then (some (t246 == t229)) else (none)) else (none)) else (none)) else (none)) else (none)) = some r := by rw [if_pos rfl] at H; exact H
         clear H; have H := H1; clear H1
         by_cases c30 : t223 = t228
         ·
          rw [if_pos c30] at H
          have c30b0 : (t223 == t228) = true := beq_iff_eq.mpr c30; have c30b1 : (t223 != t228) = false := bne_eq_false_iff_eq.mpr c30; clear c30
          by_cases c31 : t224 = t229
          ·
           rw [if_pos c31] at H
           have c31b0 : (t224 == t229) = true := beq_iff_eq.mpr c31; have c31b1 : (t224 != t229) = false := bne_eq_false_iff_eq.mpr c31; clear c31
           by_cases c32 : t235 = t240
           ·
            rw [if_pos c32] at H
            have c32b0 : (t235 == t240) = true := beq_iff_eq.mpr c32; have c32b1 : (t235 != t240) = false := bne_eq_false_iff_eq.mpr c32; clear c32
            by_cases c33 : t236 = t241
            ·
             rw [if_pos c33] at H
             have c33b0 : (t236 == t241) = true := beq_iff_eq.mpr c33; have c33b1 : (t236 != t241) = false := bne_eq_false_iff_eq.mpr c33; clear c33
             by_cases c34 : t245 = t228
             ·
              rw [if_pos c34] at H
              have c34b0 : (t245 == t228) = true := beq_iff_eq.mpr c34; have c34b1 : (t245 != t228) = false := bne_eq_false_iff_eq.mpr c34; clear c34
              obtain rfl := Option.some.inj H
              go_wp2
              go_ret
              exact ⟨by first | rfl | (simp [errW_none, errW_some] <;> rfl) | (simp [*, errW_none, errW_some] <;> rfl), by repeat (first | (with_reducible first | exact HB.out | apply below_alloc | apply pw_below_drewN | apply below_drew1) | exact HB.out)⟩
             ·
              rw [if_neg c34] at H
              exact absurd H (by simp)
            ·
             rw [if_neg c33] at H
             exact absurd H (by simp)
           ·
            rw [if_neg c32] at H
            exact absurd H (by simp)
          ·
           rw [if_neg c31] at H
           exact absurd H (by simp)
         ·
          rw [if_neg c30] at H
          exact absurd H (by simp)
        ·
         replace c29 := Bool.eq_false_iff.mpr c29
         subst c29
         have H1 : (none) = some r := by rw [if_neg (show ¬ (false = true) by decide)] at H; exact H
         clear H; have H := H1; clear H1
         exact absurd H (by simp)
       ·
        replace c28 := Bool.eq_false_iff.mpr c28
        subst c28
        have H1 : (none) = some r := by rw [if_neg (show ¬ (false = true) by decide)] at H; exact H
        clear H; have H := H1; clear H1
        exact absurd H (by simp)
      ·
       replace c27 := Bool.eq_false_iff.mpr c27
       subst c27
       have H1 : (none) = some r := by rw [if_neg (show ¬ (false = true) by decide)] at H; exact H
       clear H; have H := H1; clear H1
       exact absurd H (by simp)

end Go.Proofs.YtllehkjebikgpaaGreatDoor.PA
