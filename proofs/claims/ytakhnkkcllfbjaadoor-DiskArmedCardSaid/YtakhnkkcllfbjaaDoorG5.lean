/- DiskArmed: the walk. -/
import Derived.Test.YtakhnkkcllfbjaaDoorG3
import Derived.Test.YtakhnkkcllfbjaaDoorG1
namespace Go.Proofs.YtakhnkkcllfbjaaDoorX
open Go.RowKit Go.Proofs.YtakhnkkcllfbjaaDoorW.PrintWords Go.Proofs.YtakhnkkcllfbjaaDoorW.PrintLast Go.Proofs.YtakhnkkcllfbjaaDoorW.PrintMore
open Go.Proofs.YtakhnkkcllfbjaaDoor.PA (S37 k37 S51 k51 z51 rd_T51 at_T51 eqA37 k37_open unisonlaw04_weighs.calls unisonlaw04_weighs.f)
attribute [local go_sem high] eqA37
set_option linter.unusedVariables false
set_option linter.unusedSimpArgs false
theorem keeps_nil {S : List Nat} {w : World} : Keeps S w none [] := fun w' _ => ⟨rfl, by decide, fun h => absurd h (by decide)⟩
theorem R_len {w : World} {base : Nat} {ok : Nat → Prop} {v : Value} {xs : List S37} (h : Kd.R k37 37 w base ok v xs) : ∃ A c, v = .slice A xs.length c := by
  obtain ⟨h0, inner, hown, hr⟩ := h
  exact row_shape hown
set_option maxRecDepth 100000 in
set_option maxHeartbeats 4000000 in
theorem Armed_calls (A0 : Option Addr) (c0 : Nat) (l0 : List S51) (armed : Int) (w : World) (hr0 : Kd.C k51 w A0 l0.length l0) (hc0 : l0.length ≤ c0) (hfine : ∀ y ∈ l0, Fine51 y) (hlen : l0.length * 88 ≤ 140737488351232) (hwf : (Lit.int .i64 armed).wf = true) :
    Calls Tryd.prog 6 #[.slice A0 l0.length c0, .int .i64 armed] w fun e w' => e = .returned (.bool true) ∧ Below w.heap.size w w' := by
  obtain ⟨k, r, hk, hr⟩ := weighs_some [] l0 (by decide) (by omega)
  have cW : Calls Tryd.prog 18 #[.slice none 0 0, .slice A0 l0.length c0] w fun e w' => e = .returned (.int .i64 r) ∧ Below w.heap.size w w' := unisonlaw04_weighs.calls k none 0 [] A0 c0 l0 r w ⟨rfl, by decide, fun h => absurd h (by decide)⟩ (Nat.le_refl _) hr0 hc0 hk
  have hmax : armed ≤ 9223372036854775807 := by
    have := hwf
    simp [Lit.wf] at this
    omega
  have R0 := Aside0.mk hr0
  have FI := Aside0.mk hfine
  have HL : Aside0 (l0.length ≤ 2000000000000) := ⟨by omega⟩
  have HM := Aside0.mk hmax
  have hu := Tryd.underlying51
  clear hr0 hfine hlen hwf hmax hc0 hk
  go_enter Tryd.func6, Tryd.ntmps6
  by_cases hbig : r > 2147483647
  · have e0 : decide ((2147483647 : Int) < r) = true := decide_eq_true hbig
    clear hbig hr
    go_wp2_with (go_at_call 18; refine cW.mono ?_; rintro e w1 ⟨rfl, hb1⟩; have B1 := Aside0.mk hb1; clear hb1)
    go_ret
    exact ⟨rfl, B1.out⟩
  · have e0 : decide ((2147483647 : Int) < r) = false := decide_eq_false hbig
    clear hbig hr
    go_upto_region 9 with (first
      | (go_at_call 18; refine cW.mono ?_; rintro e w1 ⟨rfl, hb1⟩; have B1 := Aside0.mk hb1; have cA := awake_calls w1; clear hb1 cW)
      | (go_at_call 8; refine cA.mono ?_; rintro e w2 ⟨rfl, hb2⟩; have hb3 := B1.out.trans (hb2.mono B1.out.size); have B2 := Aside0.mk hb3; have cN := M_new (B := w.heap.size) (w0 := w) (w := w2) 1048576 (by decide) (by decide) hb3 hb3.size; clear hb2 hb3 cA B1)
      | (go_at_call 9; refine cN.mono ?_; rintro e w3 ⟨a, S, rfl, hm, -⟩; have cR := M_arm hm armed HM.out; clear hm cN)
      | (go_at_call 15; refine cR.mono ?_; rintro e w4 ⟨rfl, S4, hm4, -⟩; have M4 := Aside0.mk hm4; clear hm4 cR))
    by_cases ha : armed < -1
    · have e1 : decide (armed < -1) = true := decide_eq_true ha
      have e2 := arm_bad ha
      clear ha
      go_wp2
      go_ret
      exact ⟨rfl, M4.out.below⟩
    · have e1 : decide (armed < -1) = false := decide_eq_false ha
      have HA : Aside0 (-1 ≤ armed) := ⟨by omega⟩
      obtain ⟨e2, h2⟩ := arm_start HA.out
      have AT := Aside0.mk h2
      clear ha h2
      rw [e2]
      go_wp2
      go_loopg [10, 11] l0.length (fun kq v10 v11 w5 => ∃ (i : Nat) (done : Int) (D : AD) (S : List Nat), v10 = .int .i64 done ∧ v11 = .int .i64 i ∧ Aside0 (i + kq = l0.length) ∧ Aside0 (ArmAt armed D done i) ∧ Aside0 (Mine w.heap.size w w5 a S D))
      case atStart => exact ⟨0, 0, _, S4, rfl, rfl, ⟨by omega⟩, AT, M4⟩
      case round =>
        clear AT M4
        obtain ⟨j, done, D, S5, rfl, rfl, h1, h2, h3⟩ := hrel
        by_cases hj : j < l0.length
        · have e3 : decide ((j : Int) < (l0.length : Int)) = true := decide_eq_true (by omega)
          have e3' : decide (j < l0.length) = true := decide_eq_true hj
          have e5 : IntKind.i64.wrap ((j : Int) + 1) = ((j + 1 : Nat) : Int) := by have := HL.out; rw [i64_w]; unfold wrap64; omega
          obtain ⟨x, hx0⟩ : ∃ x, l0[j]? = some x := ⟨_, List.getElem?_eq_getElem hj⟩
          have hfx := FI.out x (List.mem_of_getElem? hx0)
          obtain ⟨ad, A5, c5, rfl, q0, q1, q2, q3, q4, q5, -, -⟩ := op_at R0.out hx0
          have HCW : Aside0 (∀ W, Below w.heap.size w W → W.cell? (ad.add (j * 6)) = some (.int .i64 x.f0) ∧ W.cell? ⟨(ad.add (j * 6)).block, (ad.add (j * 6)).off + 1, none⟩ = some (.string x.f1) ∧ W.cell? ⟨(ad.add (j * 6)).block, (ad.add (j * 6)).off + 2, none⟩ = some (.string x.f2) ∧ W.cell? ⟨(ad.add (j * 6)).block, (ad.add (j * 6)).off + 3, none⟩ = some (.string x.f3) ∧ W.cell? ⟨(ad.add (j * 6)).block, (ad.add (j * 6)).off + 4, none⟩ = some (.int .i64 x.f4) ∧ W.cell? ⟨(ad.add (j * 6)).block, (ad.add (j * 6)).off + 5, none⟩ = some (.slice A5 x.f5.length c5)) :=
            ⟨fun W hW => ⟨(hW.cell (World.block_lt_of_cell? w _ q0)).trans q0, (hW.cell (World.block_lt_of_cell? w _ q1)).trans q1, (hW.cell (World.block_lt_of_cell? w _ q2)).trans q2, (hW.cell (World.block_lt_of_cell? w _ q3)).trans q3, (hW.cell (World.block_lt_of_cell? w _ q4)).trans q4, (hW.cell (World.block_lt_of_cell? w _ q5)).trans q5⟩⟩
          clear q0 q1 q2 q3 q4 q5
          have cGo : ∀ w6, Mine w.heap.size w w6 a S5 D → Calls Tryd.prog 20 #[.pointer (some ⟨a, 0, none⟩), .agg #[.int .i64 x.f0, .string x.f1, .string x.f2, .string x.f3, .int .i64 x.f4, .slice A5 x.f5.length c5]] w6 fun e w' => e = .returned (.int .i64 (D.goes x).2) ∧ ∃ S', Mine w.heap.size w w' a S' (D.goes x).1 := fun w6 h6 => goes_calls h6 x _ hfx.2.2.1 hfx.2.2.2.1
          have hA := arm_goes h2.out (i := j) (by have := HL.out; omega) x
          have cD := M_down h3.out
          have HJ := Aside0.mk hj
          generalize (D.goes x).1 = D' at cGo hA
          generalize (D.goes x).2 = g at cGo hA
          have CG := Aside0.mk cGo
          have HDN : Aside0 (0 ≤ done) := ⟨h2.out.2.1⟩
          clear cGo hx0 hfx h2 h3
          rcases hA with ⟨hd, rfl, hd', hle, at'⟩ | ⟨hd, rfl, hd', hda, at'⟩ | ⟨hd, g0, g3, hd', hle, at'⟩ | ⟨hd, rfl, hd', hda, at'⟩ | ⟨hd, rfl, hd', hda, hno, at'⟩
          · rw [hd] at cD
            have HD' := Aside0.mk hd'
            have AT := Aside0.mk at'
            clear at' hd' hd
            have HS : Aside0 (0 ≤ done ∧ done ≤ 2000000000000) := ⟨by have h9 := AT.out.2.1; have h8 := AT.out.2.2.1; have h7 := HL.out; have h6 := HJ.out; exact ⟨by have h5 := HDN.out; omega, by omega⟩⟩
            have e6 : IntKind.i64.wrap (done + 1) = done + 1 := by have := HS.out; rw [i64_w]; unfold wrap64; omega
            by_cases h0 : 0 ≤ armed
            · have e7 : decide (0 ≤ armed) = true := decide_eq_true h0
              have e8 : decide (armed < done + 1) = false := decide_eq_false (by omega)
              have e8' : decide (armed ≤ done) = false := decide_eq_false (by omega)
              clear h0 hle
              go_wp2_with (first
                | (go_at_call 21; refine cD.mono ?_; rintro e w6 ⟨rfl, hm6, -⟩; obtain ⟨q0, q1, q2, q3, q4, q5⟩ := HCW.out w6 hm6.below; have cG := CG.out w6 hm6; clear cD hm6)
                | (go_at_call 20; refine cG.mono ?_; rintro e w7 ⟨rfl, S7, hm7⟩; have cD2 := M_down hm7; rw [HD'.out] at cD2; clear cG hm7)
                | (go_at_call 21; refine cD2.mono ?_; rintro e w8 ⟨rfl, hm8, -⟩; have M8 := Aside0.mk hm8; clear q0 q1 q2 q3 q4 q5; obtain ⟨q0, q1, q2, q3, q4, q5⟩ := HCW.out w8 hm8.below; clear hm8 cD2))
              go_roundg (l0.length - (j + 1))
              case measure => have := HJ.out; have := h1.out; omega
              case rel => exact ⟨j + 1, done + 1, _, S7, rfl, by simp, ⟨by have := HJ.out; have := h1.out; omega⟩, AT, M8⟩
            · have e7 : decide (0 ≤ armed) = false := decide_eq_false h0
              clear h0 hle
              go_wp2_with (first
                | (go_at_call 21; refine cD.mono ?_; rintro e w6 ⟨rfl, hm6, -⟩; obtain ⟨q0, q1, q2, q3, q4, q5⟩ := HCW.out w6 hm6.below; have cG := CG.out w6 hm6; clear cD hm6)
                | (go_at_call 20; refine cG.mono ?_; rintro e w7 ⟨rfl, S7, hm7⟩; have cD2 := M_down hm7; rw [HD'.out] at cD2; clear cG hm7)
                | (go_at_call 21; refine cD2.mono ?_; rintro e w8 ⟨rfl, hm8, -⟩; have M8 := Aside0.mk hm8; clear q0 q1 q2 q3 q4 q5; obtain ⟨q0, q1, q2, q3, q4, q5⟩ := HCW.out w8 hm8.below; clear hm8 cD2))
              go_roundg (l0.length - (j + 1))
              case measure => have := HJ.out; have := h1.out; omega
              case rel => exact ⟨j + 1, done + 1, _, S7, rfl, by simp, ⟨by have := HJ.out; have := h1.out; omega⟩, AT, M8⟩
          · rw [hd] at cD
            have HD' := Aside0.mk hd'
            have AT := Aside0.mk at'
            clear at' hd' hd
            subst hda
            have e7 : decide (0 ≤ done) = true := decide_eq_true AT.out.2.1
            have e8 : decide (done < done) = false := decide_eq_false (by omega)
            go_wp2_with (first
              | (go_at_call 21; refine cD.mono ?_; rintro e w6 ⟨rfl, hm6, -⟩; obtain ⟨q0, q1, q2, q3, q4, q5⟩ := HCW.out w6 hm6.below; have cG := CG.out w6 hm6; clear cD hm6)
              | (go_at_call 20; refine cG.mono ?_; rintro e w7 ⟨rfl, S7, hm7⟩; have cD2 := M_down hm7; rw [HD'.out] at cD2; clear cG hm7)
              | (go_at_call 21; refine cD2.mono ?_; rintro e w8 ⟨rfl, hm8, -⟩; have M8 := Aside0.mk hm8; clear q0 q1 q2 q3 q4 q5; obtain ⟨q0, q1, q2, q3, q4, q5⟩ := HCW.out w8 hm8.below; clear hm8 cD2))
            go_roundg (l0.length - (j + 1))
            case measure => have := HJ.out; have := h1.out; omega
            case rel => exact ⟨j + 1, done, _, S7, rfl, by simp, ⟨by have := HJ.out; have := h1.out; omega⟩, AT, M8⟩
          · rw [hd] at cD
            have HD' := Aside0.mk hd'
            have AT := Aside0.mk at'
            clear at' hd' hd
            have e9 : (g == 0) = false := by rw [beq_eq_false_iff_ne]; exact g0
            have e10 : (g == 3) = false := by rw [beq_eq_false_iff_ne]; exact g3
            clear g0 g3
            by_cases h0 : 0 ≤ armed
            · have e7 : decide (0 ≤ armed) = true := decide_eq_true h0
              have e8 : decide (armed < done) = false := decide_eq_false (by omega)
              clear h0 hle
              go_wp2_with (first
                | (go_at_call 21; refine cD.mono ?_; rintro e w6 ⟨rfl, hm6, -⟩; obtain ⟨q0, q1, q2, q3, q4, q5⟩ := HCW.out w6 hm6.below; have cG := CG.out w6 hm6; clear cD hm6)
                | (go_at_call 20; refine cG.mono ?_; rintro e w7 ⟨rfl, S7, hm7⟩; have cD2 := M_down hm7; rw [HD'.out] at cD2; clear cG hm7)
                | (go_at_call 21; refine cD2.mono ?_; rintro e w8 ⟨rfl, hm8, -⟩; have M8 := Aside0.mk hm8; clear q0 q1 q2 q3 q4 q5; obtain ⟨q0, q1, q2, q3, q4, q5⟩ := HCW.out w8 hm8.below; clear hm8 cD2))
              go_roundg (l0.length - (j + 1))
              case measure => have := HJ.out; have := h1.out; omega
              case rel => exact ⟨j + 1, done, _, S7, rfl, by simp, ⟨by have := HJ.out; have := h1.out; omega⟩, AT, M8⟩
            · have e7 : decide (0 ≤ armed) = false := decide_eq_false h0
              clear h0 hle
              go_wp2_with (first
                | (go_at_call 21; refine cD.mono ?_; rintro e w6 ⟨rfl, hm6, -⟩; obtain ⟨q0, q1, q2, q3, q4, q5⟩ := HCW.out w6 hm6.below; have cG := CG.out w6 hm6; clear cD hm6)
                | (go_at_call 20; refine cG.mono ?_; rintro e w7 ⟨rfl, S7, hm7⟩; have cD2 := M_down hm7; rw [HD'.out] at cD2; clear cG hm7)
                | (go_at_call 21; refine cD2.mono ?_; rintro e w8 ⟨rfl, hm8, -⟩; have M8 := Aside0.mk hm8; clear q0 q1 q2 q3 q4 q5; obtain ⟨q0, q1, q2, q3, q4, q5⟩ := HCW.out w8 hm8.below; clear hm8 cD2))
              go_roundg (l0.length - (j + 1))
              case measure => have := HJ.out; have := h1.out; omega
              case rel => exact ⟨j + 1, done, _, S7, rfl, by simp, ⟨by have := HJ.out; have := h1.out; omega⟩, AT, M8⟩
          · rw [hd] at cD
            have HD' := Aside0.mk hd'
            have AT := Aside0.mk at'
            clear at' hd' hd
            subst hda
            have e7 : decide (0 ≤ done) = true := decide_eq_true AT.out.2.1
            have e8 : decide (done < done) = false := decide_eq_false (by omega)
            by_cases hf1 : 1 ≤ x.f0
            · have e11 : decide (1 ≤ x.f0) = true := decide_eq_true hf1
              by_cases hf4 : x.f0 ≤ 4
              · have e12 : decide (x.f0 ≤ 4) = true := decide_eq_true hf4
                clear hf1 hf4
                go_wp2_with (first
                  | (go_at_call 21; refine cD.mono ?_; rintro e w6 ⟨rfl, hm6, -⟩; obtain ⟨q0, q1, q2, q3, q4, q5⟩ := HCW.out w6 hm6.below; have cG := CG.out w6 hm6; clear cD hm6)
                  | (go_at_call 20; refine cG.mono ?_; rintro e w7 ⟨rfl, S7, hm7⟩; have cD2 := M_down hm7; rw [HD'.out] at cD2; clear cG hm7)
                  | (go_at_call 21; refine cD2.mono ?_; rintro e w8 ⟨rfl, hm8, -⟩; have M8 := Aside0.mk hm8; clear q0 q1 q2 q3 q4 q5; obtain ⟨q0, q1, q2, q3, q4, q5⟩ := HCW.out w8 hm8.below; clear hm8 cD2))
                go_roundg (l0.length - (j + 1))
                case measure => have := HJ.out; have := h1.out; omega
                case rel => exact ⟨j + 1, done, _, S7, rfl, by simp, ⟨by have := HJ.out; have := h1.out; omega⟩, AT, M8⟩
              · have e12 : decide (x.f0 ≤ 4) = false := decide_eq_false hf4
                clear hf1 hf4
                go_wp2_with (first
                  | (go_at_call 21; refine cD.mono ?_; rintro e w6 ⟨rfl, hm6, -⟩; obtain ⟨q0, q1, q2, q3, q4, q5⟩ := HCW.out w6 hm6.below; have cG := CG.out w6 hm6; clear cD hm6)
                  | (go_at_call 20; refine cG.mono ?_; rintro e w7 ⟨rfl, S7, hm7⟩; have cD2 := M_down hm7; rw [HD'.out] at cD2; clear cG hm7)
                  | (go_at_call 21; refine cD2.mono ?_; rintro e w8 ⟨rfl, hm8, -⟩; have M8 := Aside0.mk hm8; clear q0 q1 q2 q3 q4 q5; obtain ⟨q0, q1, q2, q3, q4, q5⟩ := HCW.out w8 hm8.below; clear hm8 cD2))
                go_roundg (l0.length - (j + 1))
                case measure => have := HJ.out; have := h1.out; omega
                case rel => exact ⟨j + 1, done, _, S7, rfl, by simp, ⟨by have := HJ.out; have := h1.out; omega⟩, AT, M8⟩
            · have e11 : decide (1 ≤ x.f0) = false := decide_eq_false hf1
              clear hf1
              go_wp2_with (first
                | (go_at_call 21; refine cD.mono ?_; rintro e w6 ⟨rfl, hm6, -⟩; obtain ⟨q0, q1, q2, q3, q4, q5⟩ := HCW.out w6 hm6.below; have cG := CG.out w6 hm6; clear cD hm6)
                | (go_at_call 20; refine cG.mono ?_; rintro e w7 ⟨rfl, S7, hm7⟩; have cD2 := M_down hm7; rw [HD'.out] at cD2; clear cG hm7)
                | (go_at_call 21; refine cD2.mono ?_; rintro e w8 ⟨rfl, hm8, -⟩; have M8 := Aside0.mk hm8; clear q0 q1 q2 q3 q4 q5; obtain ⟨q0, q1, q2, q3, q4, q5⟩ := HCW.out w8 hm8.below; clear hm8 cD2))
              go_roundg (l0.length - (j + 1))
              case measure => have := HJ.out; have := h1.out; omega
              case rel => exact ⟨j + 1, done, _, S7, rfl, by simp, ⟨by have := HJ.out; have := h1.out; omega⟩, AT, M8⟩
          · rw [hd] at cD
            have HD' := Aside0.mk hd'
            have AT := Aside0.mk at'
            clear at' hd' hd
            subst hda
            have e7 : decide (0 ≤ done) = true := decide_eq_true AT.out.2.1
            have e8 : decide (done < done) = false := decide_eq_false (by omega)
            by_cases hf1 : 1 ≤ x.f0
            · have e11 : decide (1 ≤ x.f0) = true := decide_eq_true hf1
              have e12 : decide (x.f0 ≤ 4) = false := decide_eq_false (fun h => hno ⟨hf1, h⟩)
              clear hf1 hno
              go_wp2_with (first
                | (go_at_call 21; refine cD.mono ?_; rintro e w6 ⟨rfl, hm6, -⟩; obtain ⟨q0, q1, q2, q3, q4, q5⟩ := HCW.out w6 hm6.below; have cG := CG.out w6 hm6; clear cD hm6)
                | (go_at_call 20; refine cG.mono ?_; rintro e w7 ⟨rfl, S7, hm7⟩; have cD2 := M_down hm7; rw [HD'.out] at cD2; clear cG hm7)
                | (go_at_call 21; refine cD2.mono ?_; rintro e w8 ⟨rfl, hm8, -⟩; have M8 := Aside0.mk hm8; clear q0 q1 q2 q3 q4 q5; obtain ⟨q0, q1, q2, q3, q4, q5⟩ := HCW.out w8 hm8.below; clear hm8 cD2))
              go_roundg (l0.length - (j + 1))
              case measure => have := HJ.out; have := h1.out; omega
              case rel => exact ⟨j + 1, done, _, S7, rfl, by simp, ⟨by have := HJ.out; have := h1.out; omega⟩, AT, M8⟩
            · have e11 : decide (1 ≤ x.f0) = false := decide_eq_false hf1
              clear hf1
              clear hno
              go_wp2_with (first
                | (go_at_call 21; refine cD.mono ?_; rintro e w6 ⟨rfl, hm6, -⟩; obtain ⟨q0, q1, q2, q3, q4, q5⟩ := HCW.out w6 hm6.below; have cG := CG.out w6 hm6; clear cD hm6)
                | (go_at_call 20; refine cG.mono ?_; rintro e w7 ⟨rfl, S7, hm7⟩; have cD2 := M_down hm7; rw [HD'.out] at cD2; clear cG hm7)
                | (go_at_call 21; refine cD2.mono ?_; rintro e w8 ⟨rfl, hm8, -⟩; have M8 := Aside0.mk hm8; clear q0 q1 q2 q3 q4 q5; obtain ⟨q0, q1, q2, q3, q4, q5⟩ := HCW.out w8 hm8.below; clear hm8 cD2))
              go_roundg (l0.length - (j + 1))
              case measure => have := HJ.out; have := h1.out; omega
              case rel => exact ⟨j + 1, done, _, S7, rfl, by simp, ⟨by have := HJ.out; have := h1.out; omega⟩, AT, M8⟩
        · have e3 : decide ((j : Int) < (l0.length : Int)) = false := decide_eq_false (by omega)
          have e3' : decide (j < l0.length) = false := decide_eq_false hj
          have hok := h3.out.ok
          have hmany := hok.many
          have hst : D.steps = done := h2.out.1
          have cS := M_steps h3.out
          rw [hst] at cS
          clear hj
          by_cases hl : D.L.length < 64
          · obtain ⟨k1, k2⟩ := crash_append hok hl
            rw [hst] at k2
            have K1 := Aside0.mk k1
            have K2 := Aside0.mk k2
            have e4 : decide ((64 : Int) ≤ (D.L.length : Int)) = false := decide_eq_false (by omega)
            have e4' : decide (64 ≤ D.L.length) = false := decide_eq_false (by omega)
            clear h1 h2 h3 hok hmany hst hl k1 k2
            go_wp2_with (first
              | (go_at_call 24; refine cS.mono ?_; rintro e w6 ⟨rfl, hm6, -⟩; have cF := M_files hm6; clear cS hm6)
              | (go_at_call 13; refine cF.mono ?_; rintro e w7 ⟨v, rfl, hr7, hm7, -⟩; obtain ⟨Av, cv, rfl⟩ := R_len hr7; rw [filesT, List.length_map]; have cC := M_crash hm7 none 0 [] keeps_nil (by decide) (by decide); clear cF hm7 hr7)
              | (go_at_call 17; refine cC.mono ?_; rintro e w8 ⟨rfl, S8, hm8, -⟩; have cD := M_down hm8; rw [show (D.crash []).down = false from rfl] at cD; clear cC hm8)
              | (go_at_call 21; refine cD.mono ?_; rintro e w9 ⟨rfl, hm9, -⟩; have cP := M_append hm9 ⟨#[122]⟩ ⟨#[]⟩ (by decide); rw [show ((D.crash []).append (⟨#[122]⟩ : ByteArray).data.toList ⟨#[]⟩).2 = 0 from K1.out] at cP; clear cD hm9)
              | (go_at_call 10; refine cP.mono ?_; rintro e w10 ⟨rfl, S10, hm10, -⟩; have cS2 := M_steps hm10; rw [show ((D.crash []).append (⟨#[122]⟩ : ByteArray).data.toList ⟨#[]⟩).1.steps = wrap64 (done + 1) from K2.out] at cS2; clear cP hm10)
              | (go_at_call 24; refine cS2.mono ?_; rintro e w11 ⟨rfl, hm11, -⟩; have M11 := Aside0.mk hm11; clear cS2 hm11))
            go_ret
            exact ⟨rfl, M11.out.below⟩
          · have e4 : decide ((64 : Int) ≤ (D.L.length : Int)) = true := decide_eq_true (by omega)
            have e4' : decide (64 ≤ D.L.length) = true := decide_eq_true (by omega)
            clear h1 h2 h3 hok hmany hst hl
            go_wp2_with (first
              | (go_at_call 24; refine cS.mono ?_; rintro e w6 ⟨rfl, hm6, -⟩; have cF := M_files hm6; clear cS hm6)
              | (go_at_call 13; refine cF.mono ?_; rintro e w7 ⟨v, rfl, hr7, hm7, -⟩; obtain ⟨Av, cv, rfl⟩ := R_len hr7; rw [filesT, List.length_map]; have cC := M_crash hm7 none 0 [] keeps_nil (by decide) (by decide); clear cF hm7 hr7)
              | (go_at_call 17; refine cC.mono ?_; rintro e w8 ⟨rfl, S8, hm8, -⟩; have cD := M_down hm8; rw [show (D.crash []).down = false from rfl] at cD; clear cC hm8)
              | (go_at_call 21; refine cD.mono ?_; rintro e w9 ⟨rfl, hm9, -⟩; have M9 := Aside0.mk hm9; clear cD hm9))
            go_ret
            exact ⟨rfl, M9.out.below⟩
end Go.Proofs.YtakhnkkcllfbjaaDoorX
