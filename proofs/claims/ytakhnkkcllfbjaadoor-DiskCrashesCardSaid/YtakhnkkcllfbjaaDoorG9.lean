/- DiskCrashes: the walk. -/
import Derived.Test.YtakhnkkcllfbjaaDoorG8
import Derived.Test.YtakhnkkcllfbjaaDoorG3
namespace Go.Proofs.YtakhnkkcllfbjaaDoorX
open Go.RowKit Go.Proofs.YtakhnkkcllfbjaaDoorW.PrintWords Go.Proofs.YtakhnkkcllfbjaaDoorW.PrintLast Go.Proofs.YtakhnkkcllfbjaaDoorW.PrintMore
open Go.Proofs.YtakhnkkcllfbjaaDoor.PA (S37 k37 S51 k51 z51 eqA37 unisonlaw04_weighs.calls unisonlaw04_weighs.f unisonlaw04_begins.calls)
set_option linter.unusedVariables false
set_option linter.unusedSimpArgs false
theorem row37_shape {w : World} {v : Value} {l : List S37} (h : Row37 w v l) : ∃ A c, v = .slice A l.length c := by
  obtain ⟨A, c, h1, _⟩ := h.reads
  exact ⟨A, c, h1⟩
/-- What a law's script does, arming too. -/
def AD.goesArm (d : AD) (x : S51) : AD := if x.f0 = 6 then (d.arm x.f4).1 else (d.goes x).1
set_option maxRecDepth 100000 in
set_option maxHeartbeats 8000000 in
theorem Crashes_calls (A0 : Option Addr) (c0 : Nat) (l0 : List S37) (A1 : Option Addr) (c1 : Nat) (l1 : List S51) (A2 : Option Addr) (c2 : Nat) (l2 : List Int) (w : World)
    (hr0 : Kd.C k37 w A0 l0.length l0) (hc0 : l0.length ≤ c0) (hf0 : ∀ y ∈ l0, Fine37 y) (hy0 : l0.length * 40 ≤ 140737488351232)
    (hr1 : Kd.C k51 w A1 l1.length l1) (hc1 : l1.length ≤ c1) (hf1 : ∀ y ∈ l1, Fine51 y) (hy1 : l1.length * 88 ≤ 140737488351232)
    (hr2 : (Kd.int .i64).C w A2 l2.length l2) (hc2 : l2.length ≤ c2) (hf2 : ∀ n ∈ l2, (Lit.int .i64 n).wf = true) (hm2 : l2.length ≤ maxLen) :
    Calls Tryd.prog 5 #[.slice A0 l0.length c0, .slice A1 l1.length c1, .slice A2 l2.length c2] w fun e w' => e = .returned (.bool true) ∧ Below w.heap.size w w' := by
  obtain ⟨k, r, hk, hr⟩ := weighs_some l0 l1 (by omega) (by omega)
  have cW : Calls Tryd.prog 18 #[.slice A0 l0.length c0, .slice A1 l1.length c1] w fun e w' => e = .returned (.int .i64 r) ∧ Below w.heap.size w w' := unisonlaw04_weighs.calls k A0 c0 l0 A1 c1 l1 r w hr0 hc0 hr1 hc1 hk
  have R0 := Aside0.mk hr0
  have R1 := Aside0.mk hr1
  have R2 := Aside0.mk hr2
  have F0 := Aside0.mk hf0
  have F1 := Aside0.mk hf1
  have HC2 := Aside0.mk hc2
  have HL : Aside0 (l0.length ≤ 140737488351232 ∧ l1.length ≤ 140737488351232) := ⟨by omega, by omega⟩
  have hu := Tryd.underlying51
  have hu37 := Tryd.underlying37
  clear hr0 hc0 hf0 hy0 hr1 hc1 hf1 hy1 hr2 hc2 hf2 hm2 hk
  by_cases hbig : r > 2147483647
  · have e0 : decide ((2147483647 : Int) < r) = true := decide_eq_true hbig
    clear hbig hr
    go_enter Tryd.func5, Tryd.ntmps5
    go_wp2_with (go_at_call 18; refine cW.mono ?_; rintro e w1 ⟨rfl, hb1⟩; have B1 := Aside0.mk hb1; clear hb1)
    go_ret
    exact ⟨rfl, B1.out⟩
  have e0 : decide ((2147483647 : Int) < r) = false := decide_eq_false hbig
  by_cases hbig2 : 2147483647 < l2.length
  · have e1 : decide ((2147483647 : Int) < (l2.length : Int)) = true := decide_eq_true (by omega)
    have e1' : decide (2147483647 < l2.length) = true := decide_eq_true hbig2
    clear hbig hbig2 hr
    go_enter Tryd.func5, Tryd.ntmps5
    go_wp2_with (go_at_call 18; refine cW.mono ?_; rintro e w1 ⟨rfl, hb1⟩; have B1 := Aside0.mk hb1; clear hb1)
    go_ret
    exact ⟨rfl, B1.out⟩
  have e1 : decide ((2147483647 : Int) < (l2.length : Int)) = false := decide_eq_false (by omega)
  have e1' : decide (2147483647 < l2.length) = false := decide_eq_false hbig2
  have HK : Aside0 (l2.length ≤ 2147483647) := ⟨by omega⟩
  have hsz : ∀ x ∈ l0, x.f0.size ≤ maxLen ∧ x.f1.size ≤ maxLen := fun x hx => ⟨(F0.out x hx).2.1, (F0.out x hx).2.2⟩
  have cN : Aside0 (∀ w2, Below w.heap.size w w2 → Calls Tryd.prog 9 #[.int .i64 1048576, .slice A0 l0.length c0] w2 fun e w' => (newE 1048576 l0 ≠ 0 ∧ e = .returned (.tuple #[.pointer none, .int .i64 (newE 1048576 l0)]) ∧ Below w2.heap.size w2 w') ∨
      (newE 1048576 l0 = 0 ∧ ∃ a S, e = .returned (.tuple #[.pointer (some ⟨a, 0, none⟩), .int .i64 0]) ∧ Mine w.heap.size w w' a S (newD 1048576 l0) ∧ Below w2.heap.size w2 w')) :=
    ⟨fun w2 h2 => M_newL 1048576 A0 c0 l0 h2 h2.size (Kd.C_below R0.out h2) hsz HL.out.1⟩
  have cR : Aside0 (∀ w3, Below w.heap.size w w3 → Calls Tryd.prog 19 #[.int .i64 1048576, .slice A0 l0.length c0] w3 (RNewP 1048576 l0 w3)) :=
    ⟨fun w3 h3 => RNew_calls 1048576 A0 c0 l0 w3 (Kd.C_below R0.out h3) hsz HL.out.1⟩
  clear hbig hbig2 hr hsz
  by_cases hne : newE 1048576 l0 = 0
  · have cN' : Aside0 (∀ w2, Below w.heap.size w w2 → Calls Tryd.prog 9 #[.int .i64 1048576, .slice A0 l0.length c0] w2 fun e w' => ∃ a S, e = .returned (.tuple #[.pointer (some ⟨a, 0, none⟩), .int .i64 0]) ∧ Mine w.heap.size w w' a S (newD 1048576 l0)) :=
      ⟨fun w2 h2 => (cN.out w2 h2).mono (by
        rintro e w' (⟨h9, _⟩ | ⟨_, a, S, h8, h7, _⟩)
        · exact absurd hne h9
        · exact ⟨a, S, h8, h7⟩)⟩
    have cR' : Aside0 (∀ w3, Below w.heap.size w w3 → Calls Tryd.prog 19 #[.int .i64 1048576, .slice A0 l0.length c0] w3 fun e w' => ∃ r, e = .returned (.tuple #[.pointer (some ⟨r, 0, none⟩), .int .i64 0]) ∧ Below w3.heap.size w3 w') :=
      ⟨fun w3 h3 => (cR.out w3 h3).mono (by
        rintro e w' (⟨h9, _⟩ | ⟨_, r, v, h8, h7⟩)
        · exact absurd hne h9
        · exact ⟨r, h8, h7.2.1⟩)⟩
    clear cN cR
    go_enter Tryd.func5, Tryd.ntmps5
    go_upto_region 11 with (first
      | (go_at_call 18; refine cW.mono ?_; rintro e w1 ⟨rfl, hb1⟩; have B1 := Aside0.mk hb1; clear hb1 cW)
      | (go_at_call 8; refine (awake_calls _).mono ?_; rintro e w2 ⟨rfl, hb2⟩; have B2 := Aside0.mk (B1.out.trans (hb2.mono B1.out.size)); clear hb2 B1)
      | (go_at_call 9; refine (cN'.out _ B2.out).mono ?_; rintro e w3 ⟨a, S, rfl, hm⟩; have M3 := Aside0.mk hm; clear hm cN')
      | (go_at_call 19; refine (cR'.out _ M3.out.below).mono ?_; rintro e w4 ⟨r9, rfl, hb4⟩; have M4 := Aside0.mk (M3.out.on hb4); clear hb4 cR' M3))
    go_wp2
    go_loopg [13] l1.length (fun kq v13 wr => ∃ (i : Nat) (D : AD) (S : List Nat), v13 = .int .i64 i ∧ Aside0 (i + kq = l1.length) ∧ Aside0 (Mine w.heap.size w wr a S D))
    case atStart => exact ⟨0, _, S, rfl, ⟨by omega⟩, M4⟩
    case round =>
      clear M4
      obtain ⟨j, D, S5, rfl, h1, h3⟩ := hrel
      by_cases hj : j < l1.length
      · have e3 : decide ((j : Int) < (l1.length : Int)) = true := decide_eq_true (by omega)
        have e3' : decide (j < l1.length) = true := decide_eq_true hj
        have e5 : IntKind.i64.wrap ((j : Int) + 1) = ((j + 1 : Nat) : Int) := by have := HL.out; rw [i64_w]; unfold wrap64; omega
        obtain ⟨x, hx0⟩ : ∃ x, l1[j]? = some x := ⟨_, List.getElem?_eq_getElem hj⟩
        have hfx := F1.out x (List.mem_of_getElem? hx0)
        obtain ⟨ad, A5, c5, rfl, q0, q1, q2, q3, q4, q5, -, -⟩ := op_at R1.out hx0
        have hW := h3.out.below
        replace q0 := (hW.cell (World.block_lt_of_cell? w _ q0)).trans q0
        replace q1 := (hW.cell (World.block_lt_of_cell? w _ q1)).trans q1
        replace q2 := (hW.cell (World.block_lt_of_cell? w _ q2)).trans q2
        replace q3 := (hW.cell (World.block_lt_of_cell? w _ q3)).trans q3
        replace q4 := (hW.cell (World.block_lt_of_cell? w _ q4)).trans q4
        replace q5 := (hW.cell (World.block_lt_of_cell? w _ q5)).trans q5
        have HJ := Aside0.mk hj
        by_cases h6 : x.f0 = 6
        · have e6 : (x.f0 == 6) = true := by rw [beq_iff_eq]; exact h6
          have cR := M_arm h3.out x.f4 (by have h9 := hfx.2.1; simp [Lit.wf] at h9; omega)
          clear hx0 hfx hW h6
          go_wp2_with (go_at_call 15; refine cR.mono ?_; rintro e w6 ⟨rfl, S6, hm, -⟩; have M6 := Aside0.mk hm; clear hm cR)
          go_roundg (l1.length - (j + 1))
          case measure => have := HJ.out; have := h1.out; omega
          case rel => exact ⟨j + 1, _, S6, by simp, ⟨by have := HJ.out; have := h1.out; omega⟩, M6⟩
        · have e6 : (x.f0 == 6) = false := by rw [beq_eq_false_iff_ne]; exact h6
          have cG := goes_calls h3.out x (.slice A5 x.f5.length c5) hfx.2.2.1 hfx.2.2.2.1
          clear hx0 hfx hW h6
          go_wp2_with (go_at_call 20; refine cG.mono ?_; rintro e w6 ⟨rfl, S6, hm⟩; have M6 := Aside0.mk hm; clear hm cG)
          go_roundg (l1.length - (j + 1))
          case measure => have := HJ.out; have := h1.out; omega
          case rel => exact ⟨j + 1, _, S6, by simp, ⟨by have := HJ.out; have := h1.out; omega⟩, M6⟩
      · have e3 : decide ((j : Int) < (l1.length : Int)) = false := decide_eq_false (by omega)
        have e3' : decide (j < l1.length) = false := decide_eq_false hj
        have cF := M_files2 h3.out
        have hok := Aside0.mk h3.out.ok
        clear hj
        go_upto_region 24 with (first
          | (go_at_call 13; refine cF.mono ?_; rintro e w6 ⟨va, rfl, ha, hba, hm, hb⟩; have RA := Aside0.mk ha; have BA := Aside0.mk hba; have M6 := Aside0.mk hm; have LA := Aside0.mk h3.out.lt; have cC := M_crash2 hm A2 c2 l2 (keeps_in hm R2.out) HC2.out (by have := HK.out; omega); clear ha hba hm hb cF)
          | (go_at_call 17; refine cC.mono ?_; rintro e w7 ⟨rfl, S7, hm, hf, hs⟩; have M7 := Aside0.mk hm; have hnA : (∀ k ∈ va.ownBlock.toList, k ∉ S5) := (fun k hk hx => by have h9 := LA.out k hx; have h8 := BA.out k hk; omega); have RA7 := Aside0.mk (RA.out.fr hf hnA); have NA7 : Aside0 (∀ k ∈ va.ownBlock.toList, k ∉ S7) := ⟨fun k hk hx => (hs k hx).elim (hnA k hk) (fun h9 => by have h8 := RA.out.lt k hk; omega)⟩; have cF2 := M_files2 hm; clear hm hf hs cC hnA RA)
          | (go_at_call 13; refine cF2.mono ?_; rintro e w8 ⟨vb, rfl, hb8, hbb, hm, hb⟩; have RB := Aside0.mk hb8; have NB : Aside0 (∀ k ∈ vb.ownBlock.toList, k ∉ S7) := ⟨fun k hk hx => by have h9 := M7.out.lt k hx; have h8 := hbb k hk; omega⟩; have RA8 := Aside0.mk (RA7.out.below hb); have M8 := Aside0.mk hm; have cD := M_down hm; rw [show (D.crash l2).down = false from rfl] at cD; clear hb8 hbb hm hb cF2 RA7)
          | (go_at_call 21; refine cD.mono ?_; rintro e w9 ⟨rfl, hm, hb⟩; have RA9 := Aside0.mk (RA8.out.below hb); have RB9 := Aside0.mk (RB.out.below hb); have cC2 := M_crash2 hm A2 c2 l2 (keeps_in hm R2.out) HC2.out (by have := HK.out; omega); clear hm hb cD RA8 RB)
          | (go_at_call 17; refine cC2.mono ?_; rintro e w10 ⟨rfl, S10, hm, hf, -⟩; have RA10 := Aside0.mk (RA9.out.fr hf NA7.out); have RB10 := Aside0.mk (RB9.out.fr hf NB.out); have cF3 := M_files2 hm; clear hm hf cC2 RA9 RB9)
          | (go_at_call 13; refine cF3.mono ?_; rintro e w11 ⟨vc, rfl, hc11, -, hm, hb⟩; have RA11 := Aside0.mk (RA10.out.below hb); have RB11 := Aside0.mk (RB10.out.below hb); have M11 := Aside0.mk hm; rw [crash_twice hok.out] at hc11; have cS := same37 RB11.out hc11 (by rw [filesT, List.length_map, show (D.crash l2).L = crashL D.L l2 from rfl, crashL_length]; have := hok.out.many; omega); rw [decide_eq_true rfl] at cS; clear hc11 hm hb cF3 RA10 RB10)
          | (go_at_call 22; refine cS.mono ?_; rintro e w12 ⟨rfl, hb⟩; have RA12 := Aside0.mk (RA11.out.below hb); have RB12 := Aside0.mk (RB11.out.below hb); have M12 := Aside0.mk (M11.out.on hb); clear hb cS RA11 RB11 M11))
        have hla : (filesT D.L).length = D.L.length := by rw [filesT, List.length_map]
        have hlb : (filesT (D.crash l2).L).length = D.L.length := by rw [filesT, List.length_map]; exact crashL_length _ _
        obtain ⟨Aa, ca, rfl⟩ := row37_shape RA12.out
        obtain ⟨Ab, cb, rfl⟩ := row37_shape RB12.out
        rw [hla] at RA12
        rw [hlb] at RB12
        rw [hla, hlb]
        have hmany := Aside0.mk hok.out.many
        have HLA := Aside0.mk hla
        have HLB := Aside0.mk hlb
        clear hla hlb
        go_wp2
        go_loopg [19] D.L.length (fun kq v19 wr => ∃ i : Nat, v19 = .int .i64 i ∧ Aside0 (i + kq = D.L.length) ∧ Aside0 (Below w12.heap.size w12 wr))
        case atStart => exact ⟨0, rfl, ⟨by omega⟩, ⟨Below.refl _ _⟩⟩
        case round =>
          obtain ⟨i, rfl, g1, g2⟩ := hrel
          by_cases hi : i < D.L.length
          · have e6 : decide ((i : Int) < (D.L.length : Int)) = true := decide_eq_true (by omega)
            have e6' : decide (i < D.L.length) = true := decide_eq_true hi
            have e7 : (i : Int) < (D.L.length : Int) := by omega
            have e8 : IntKind.i64.wrap ((i : Int) + 1) = ((i + 1 : Nat) : Int) := by have := hmany.out; rw [i64_w]; unfold wrap64; omega
            obtain ⟨f, hf⟩ : ∃ f, D.L[i]? = some f := ⟨_, List.getElem?_eq_getElem hi⟩
            obtain ⟨s, m, hs, hsm, hmd, hf'⟩ := crash_each D.L l2 hok.out.safe i f hf
            obtain ⟨ga, ca', hva, p0, p1, p2⟩ := (RA12.out.below g2.out).at (i := i) (x := fileT f) (by rw [filesT, List.getElem?_map, hf]; rfl)
            rw [HLA.out] at hva
            cases hva
            obtain ⟨gb, cb', hvb, q0, q1, q2⟩ := (RB12.out.below g2.out).at (i := i) (x := fileT ⟨f.name, f.data.extract 0 m, m⟩) (by rw [filesT, List.getElem?_map, show (D.crash l2).L = crashL D.L l2 from rfl, hf']; rfl)
            rw [HLB.out] at hvb
            cases hvb
            simp only [fileT] at p0 p1 p2 q0 q1 q2
            rw [hs] at p2
            have hm1 : (f.data.extract 0 m).size = m := extract_size hmd
            have hs1 : (f.data.extract 0 s).size = s := extract_size (Nat.le_trans hsm hmd)
            have b1a : (f.data.extract 0 s).size ≤ (f.data.extract 0 m).size := by rw [hs1, hm1]; exact hsm
            have b1b : (f.data.extract 0 m).extract 0 (f.data.extract 0 s).size = f.data.extract 0 s := by rw [hs1]; exact extract_take _ hsm
            have b2a : (f.data.extract 0 m).size ≤ f.data.size := by rw [hm1]; exact hmd
            have b2b : f.data.extract 0 (f.data.extract 0 m).size = f.data.extract 0 m := by rw [hm1]
            have cB1 := Aside0.mk (begins23 _ _ b1a b1b)
            have cB2 := Aside0.mk (begins23 _ _ b2a b2b)
            clear b1a b1b b2a b2b
            have e9 : decide ((s : Int) < 0) = false := decide_eq_false (by omega)
            have e10 : decide ((f.data.size : Int) < (s : Int)) = false := decide_eq_false (by omega)
            have e10' : decide (f.data.size < s) = false := decide_eq_false (by omega)
            have e11 : s ≤ f.data.size := Nat.le_trans hsm hmd
            have e12 : (s : Int) ≤ (f.data.size : Int) := by omega
            generalize f.data.extract 0 m = d at q1 hm1 cB1 cB2
            have e13 : ((m : Int) == (d.size : Int)) = true := by rw [hm1, beq_iff_eq]
            have e13' : (m == d.size) = true := by rw [hm1, beq_iff_eq]
            have HI := Aside0.mk hi
            clear hf hf' hs hsm hmd hm1 hs1
            obtain ⟨W, hW⟩ : ∃ W, W = wr := ⟨_, rfl⟩
            go_upto_region 29 with fail
            go_quiet (fail)
            go_upto_region 31 with fail
            go_quiet ((go_at_call 23; exact quiet2 cB1.out _ _ _))
            go_upto_region 32 with fail
            go_quiet ((go_at_call 23; exact quiet2 cB2.out _ _ _))
            go_upto_region 33 with fail
            go_region
            go_wp2
            go_roundg (D.L.length - (i + 1))
            case measure => have := HI.out; have := g1.out; omega
            case rel => exact ⟨i + 1, by simp, ⟨by have := HI.out; have := g1.out; omega⟩, ⟨pw_below_drewN g2.out _⟩⟩
          · have e6 : decide ((i : Int) < (D.L.length : Int)) = false := decide_eq_false (by omega)
            have e6' : decide (i < D.L.length) = false := decide_eq_false hi
            clear hi
            go_wp2
            go_ret
            exact ⟨rfl, M12.out.below.trans (g2.out.mono M12.out.below.size)⟩
  · have cN' : Aside0 (∀ w2, Below w.heap.size w w2 → Calls Tryd.prog 9 #[.int .i64 1048576, .slice A0 l0.length c0] w2 fun e w' => e = .returned (.tuple #[.pointer none, .int .i64 (newE 1048576 l0)]) ∧ Below w2.heap.size w2 w') :=
      ⟨fun w2 h2 => (cN.out w2 h2).mono (by
        rintro e w' (⟨_, h8, h7⟩ | ⟨h9, _⟩)
        · exact ⟨h8, h7⟩
        · exact absurd h9 hne)⟩
    have cR' : Aside0 (∀ w3, Below w.heap.size w w3 → Calls Tryd.prog 19 #[.int .i64 1048576, .slice A0 l0.length c0] w3 fun e w' => e = .returned (.tuple #[.pointer none, .int .i64 (newE 1048576 l0)]) ∧ Below w3.heap.size w3 w') :=
      ⟨fun w3 h3 => (cR.out w3 h3).mono (by
        rintro e w' (⟨_, h8, h7⟩ | ⟨h9, _⟩)
        · exact ⟨h8, h7⟩
        · exact absurd h9 hne)⟩
    have e2 : (newE 1048576 l0 == 0) = false := by rw [beq_eq_false_iff_ne]; exact hne
    have e3 : (newE 1048576 l0 == newE 1048576 l0) = true := by simp
    have e4 : (newE 1048576 l0 != 0) = true := by rw [bne, e2]; rfl
    have e5 : (!(newE 1048576 l0 != 0)) = false := by rw [e4]; rfl
    generalize newE 1048576 l0 = g at cN' cR' e2 e3 e4 e5 ⊢
    clear cN cR hne
    go_enter Tryd.func5, Tryd.ntmps5
    go_wp2_with (first
      | (go_at_call 18; refine cW.mono ?_; rintro e w1 ⟨rfl, hb1⟩; have B1 := Aside0.mk hb1; clear hb1 cW)
      | (go_at_call 8; refine (awake_calls _).mono ?_; rintro e w2 ⟨rfl, hb2⟩; have B2 := Aside0.mk (B1.out.trans (hb2.mono B1.out.size)); clear hb2 B1)
      | (go_at_call 9; refine (cN'.out _ B2.out).mono ?_; rintro e w3 ⟨rfl, hb3⟩; have B3 := Aside0.mk (B2.out.trans (hb3.mono B2.out.size)); clear hb3 cN' B2)
      | (go_at_call 19; refine (cR'.out _ B3.out).mono ?_; rintro e w4 ⟨rfl, hb4⟩; have B4 := Aside0.mk (B3.out.trans (hb4.mono B3.out.size)); clear hb4 cR' B3))
    go_ret
    exact ⟨rfl, B4.out⟩
end Go.Proofs.YtakhnkkcllfbjaaDoorX
