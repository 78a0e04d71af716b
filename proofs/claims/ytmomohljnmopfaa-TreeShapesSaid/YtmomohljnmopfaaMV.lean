/- Several texts in one: XG; no conditions beyond those in each theorem's head. -/
import Derived.Test.YtmomohljnmopfaaML
import Derived.Test.YtmomohljnmopfaaMU
section
namespace Go.Proofs.YtmomohljnmopfaaX
open Go.RowKit Go.Lib Go.Proofs.YtmomohljnmopfaaW.PrintWords Go.Proofs.YtmomohljnmopfaaW.PrintLast Go.Proofs.YtmomohljnmopfaaW.PrintMore
set_option linter.unusedVariables false
set_option linter.unusedSimpArgs false
set_option maxRecDepth 100000 in
set_option maxHeartbeats 8000000 in
theorem Shapes_calls (m : Int) (A : Option Addr) (c : Nat) (ks : List Int) (w : World) (hwf : (Lit.int .i64 m).wf = true) (hr : Kd.C (Kd.int .i64) w A ks.length ks) (hc : ks.length ≤ c) (hw : ∀ x ∈ ks, (Lit.int .i64 x).wf = true) :
    Calls Try.prog 4 #[.int .i64 m, .slice A ks.length c] w fun e w' => e = .returned (.bool true) ∧ Below w.heap.size w w' := by
  have HR := Aside0.mk (And.intro hr (And.intro hc hw))
  obtain ⟨n, hn⟩ : ∃ n, ks.length = n := ⟨_, rfl⟩
  rw [hn]
  have HN := Aside0.mk hn
  clear hr hc hw hn
  by_cases hbig : 268435455 < n
  · have e1 : decide (268435455 < (n : Int)) = true := decide_eq_true (by omega)
    have e1' : decide (268435455 < n) = true := decide_eq_true hbig
    go_enter Try.func4, Try.ntmps4
    go_wp2
    go_ret
    exact ⟨rfl, Below.refl _ _⟩
  · have e1 : decide (268435455 < (n : Int)) = false := decide_eq_false (by omega)
    have e1' : decide (268435455 < n) = false := decide_eq_false hbig
    have cA : Aside0 (∀ w1, Calls Try.prog 10 #[] w1 fun e w' => e = .returned (.bool true) ∧ Below w1.heap.size w1 w') := ⟨awake_calls⟩
    by_cases hb : m < 4 ∨ 64 < m
    · have cW := fun w1 => new_wrong (w := w1) (A := none) (n := 0) (c := 0) hb
      go_enter Try.func4, Try.ntmps4
      rcases hb with hb | hb
      · have d1 : decide (m < 4) = true := decide_eq_true hb
        clear hbig hb
        go_wp2_with (first
          | (go_at_call 10; refine (cA.out _).mono ?_; rintro e w1 ⟨rfl, hb1⟩; have B1 := Aside0.mk hb1; clear hb1)
          | (go_at_call 11; refine (cW _).mono ?_; rintro e w2 ⟨rfl, hb2⟩; have B2 := Aside0.mk (B1.out.trans (hb2.mono B1.out.size)); clear hb2))
        go_ret
        exact ⟨rfl, B2.out⟩
      · have d1 : decide (m < 4) = false := decide_eq_false (by omega)
        have d2 : decide (64 < m) = true := decide_eq_true hb
        clear hbig hb
        go_wp2_with (first
          | (go_at_call 10; refine (cA.out _).mono ?_; rintro e w1 ⟨rfl, hb1⟩; have B1 := Aside0.mk hb1; clear hb1)
          | (go_at_call 11; refine (cW _).mono ?_; rintro e w2 ⟨rfl, hb2⟩; have B2 := Aside0.mk (B1.out.trans (hb2.mono B1.out.size)); clear hb2))
        go_ret
        exact ⟨rfl, B2.out⟩
    · have h4 : 4 ≤ m := by omega
      have hm : m ≤ 64 := by omega
      have d1 : decide (m < 4) = false := decide_eq_false (by omega)
      have d2 : decide (64 < m) = false := decide_eq_false (by omega)
      obtain ⟨M, rfl⟩ : ∃ M : Nat, m = M := ⟨m.toNat, by omega⟩
      have h4' : 4 ≤ M := by omega
      have hm' : M ≤ 64 := by omega
      have cN : Aside0 (∀ w1, _) := ⟨fun w1 => new_none (w := w1) h4' hm'⟩
      have HM := Aside0.mk (And.intro h4' hm')
      have HBG := Aside0.mk hbig
      clear hbig hb h4 hm h4' hm'
      go_enter Try.func4, Try.ntmps4
      go_upto_region 11 with (first
        | (go_at_call 10; refine (cA.out _).mono ?_; rintro e w1 ⟨rfl, hb1⟩; have B1 := Aside0.mk hb1; clear hb1)
        | (go_at_call 11; refine (cN.out _).mono ?_; rintro e w2 ⟨tb, S, rfl, hm2, hb2⟩; have M2 := Aside0.mk (hm2.base_on B1.out B1.out.size); clear hb2 hm2 B1))
      go_loopg [8, 9] n (fun kq v8 v9 wr => ∃ (i : Nat) (S : List Nat) (l : List KV), v8 = .int .i64 l.length ∧ v9 = .int .i64 i ∧ Aside0 (i + kq = n) ∧ Aside0 (Mi w.heap.size w M wr tb S l ∧ l.length ≤ i))
      case atStart => exact ⟨0, S, [], rfl, rfl, ⟨by omega⟩, ⟨M2.out, Nat.le_refl _⟩⟩
      case round =>
        obtain ⟨i, S', l, rfl, rfl, h1, h2⟩ := hrel
        by_cases hi : i < n
        · have g1 : decide ((i : Int) < (n : Int)) = true := decide_eq_true (by omega)
          have g2 : decide (i < n) = true := decide_eq_true hi
          obtain ⟨k, hk⟩ : ∃ k, ks[i]? = some k := ⟨_, List.getElem?_eq_getElem (by have := HN.out; omega)⟩
          have hCw := Kd.C_below HR.out.1 h2.out.1.below
          obtain ⟨ad, rfl, z0⟩ := C_int hCw hk
          have g3 : (i : Int) < (n : Int) := by omega
          have HI := Aside0.mk (And.intro hi hk)
          have hcv := conv_two wr (k / 256 % 256) (k % 256)
          clear hi hk hCw
          have f3 : wrap64 ((i : Int) + 1) = ((i + 1 : Nat) : Int) := w64j (by have := HI.out; have := HBG.out; omega)
          have f3' : IntKind.i64.wrap ((i : Int) + 1) = ((i + 1 : Nat) : Int) := by rw [i64w]; exact f3
          have FW := Aside0.mk (And.intro f3 f3')
          clear f3 f3'
          by_cases hneg : k < 0
          · have g5 : decide (k < 0) = true := decide_eq_true hneg
            clear hneg
            go_upto_region 15 with fail
            obtain ⟨x, hx⟩ : ∃ x, twoB (k / 256 % 256) (k % 256) = x := ⟨_, rfl⟩
            obtain ⟨W, hW⟩ : ∃ W, wr.alloc (Obj.cells #[Value.int IntKind.u8 (k / 256 % 256), Value.int IntKind.u8 (k % 256)] 5) = W := ⟨_, rfl⟩
            have HMW : Aside0 (Mi w.heap.size w M W tb S' l) := ⟨by rw [← hW]; exact h2.out.1.on (below_alloc (Below.refl _ _) _)⟩
            rw [hx, hW]
            have hll : l.length ≤ 268435456 := by have := h2.out.2; have := HI.out; have := HBG.out; omega
            have cD := HMW.out.del x HM.out.1 HM.out.2 (by omega)
            unfold ansG at cD
            obtain ⟨l', hl'⟩ : ∃ l', delF x l = l' := ⟨_, rfl⟩
            obtain ⟨b, hb⟩ : ∃ b, (getF x l).isSome = b := ⟨_, rfl⟩
            have hlen := delF_length (x := x) (l := l)
            rw [hl'] at cD hlen
            rw [hb] at cD hlen
            have HLL := Aside0.mk hll
            clear hx hW hcv
            cases b
            · have hsame : l.length = l'.length := by simpa using hlen.symm
              have HSM := Aside0.mk hsame
              have hl2 : l'.length ≤ i + 1 := by have h9 := h2.out.2; clear hsame; revert hlen; simp; omega
              have HL2 := Aside0.mk hl2
              clear hsame hl2 hlen hll
              go_upto_region 22 with (go_at_call 17; refine cD.mono ?_; rintro e w3 ⟨rfl, S3, hm3, -⟩; have M3 := Aside0.mk hm3; clear hm3)
              rw [HSM.out]
              have hl3 : l'.length ≤ 268435457 := by have := HL2.out; have := HI.out; have := HBG.out; omega
              have cL := levels_tr HM.out.1 (by omega) M3.out.tr
              have cZ : Aside0 (∀ W, Below w3.heap.size w3 W → Calls Try.prog 20 #[.pointer (some ⟨tb, 0, none⟩)] W fun e w' => e = .returned (.int .i64 l'.length) ∧ w' = W) := ⟨fun W hW => lenTree_calls (tr_below M3.out.tr hW)⟩
              have HL3 := Aside0.mk hl3
              clear hl3 cD
              go_upto_region 24 with (first
                | (go_at_call 19; refine cL.mono ?_; rintro e w4 ⟨v, L, rfl, hv, hS, hb4⟩; have HV := Aside0.mk (And.intro hv (And.intro hS hb4)); clear hv hS hb4)
                | (go_at_call 20; refine (cZ.out _ HV.out.2.2).mono ?_; rintro e w5 ⟨rfl, rfl⟩))
              have cS := shaped_calls HM.out.1 HM.out.2 (by have := HL3.out; omega) HV.out.2.1 HV.out.1
              obtain ⟨f3, f3'⟩ := FW.out
              go_wp2_with (go_at_call 21; refine cS.mono ?_; rintro e w6 ⟨rfl, jn, rfl⟩)
              go_roundg (gk - 1)
              case measure => clear f3 f3'; have h9 := h1.out; have h8 := HI.out; omega
              case rel => exact ⟨i + 1, S3, l', by first | rw [HSM.out] | simp, by first | rw [w64j (by clear f3 f3'; have h9 := HI.out; have h8 := HBG.out; omega)] | simp, ⟨by clear f3 f3'; have h9 := h1.out; have h8 := HI.out; omega⟩, ⟨(M3.out.on HV.out.2.2).on (drewN_below _ _), HL2.out⟩⟩
            · have hsame : wrap64 ((l.length : Int) - 1) = (l'.length : Int) := (by have h9 : l'.length + 1 = l.length := (by simpa using hlen); rw [← h9, show (((l'.length + 1 : Nat) : Int) - 1) = (l'.length : Int) by omega]; exact wnl (by omega))
              have HSM := Aside0.mk hsame
              have hl2 : l'.length ≤ i + 1 := by have h9 := h2.out.2; clear hsame; revert hlen; simp; omega
              have HL2 := Aside0.mk hl2
              clear hsame hl2 hlen hll
              go_upto_region 22 with (go_at_call 17; refine cD.mono ?_; rintro e w3 ⟨rfl, S3, hm3, -⟩; have M3 := Aside0.mk hm3; clear hm3)
              rw [HSM.out]
              have hl3 : l'.length ≤ 268435457 := by have := HL2.out; have := HI.out; have := HBG.out; omega
              have cL := levels_tr HM.out.1 (by omega) M3.out.tr
              have cZ : Aside0 (∀ W, Below w3.heap.size w3 W → Calls Try.prog 20 #[.pointer (some ⟨tb, 0, none⟩)] W fun e w' => e = .returned (.int .i64 l'.length) ∧ w' = W) := ⟨fun W hW => lenTree_calls (tr_below M3.out.tr hW)⟩
              have HL3 := Aside0.mk hl3
              clear hl3 cD
              go_upto_region 24 with (first
                | (go_at_call 19; refine cL.mono ?_; rintro e w4 ⟨v, L, rfl, hv, hS, hb4⟩; have HV := Aside0.mk (And.intro hv (And.intro hS hb4)); clear hv hS hb4)
                | (go_at_call 20; refine (cZ.out _ HV.out.2.2).mono ?_; rintro e w5 ⟨rfl, rfl⟩))
              have cS := shaped_calls HM.out.1 HM.out.2 (by have := HL3.out; omega) HV.out.2.1 HV.out.1
              obtain ⟨f3, f3'⟩ := FW.out
              go_wp2_with (go_at_call 21; refine cS.mono ?_; rintro e w6 ⟨rfl, jn, rfl⟩)
              go_roundg (gk - 1)
              case measure => clear f3 f3'; have h9 := h1.out; have h8 := HI.out; omega
              case rel => exact ⟨i + 1, S3, l', by first | rw [HSM.out] | simp, by first | rw [w64j (by clear f3 f3'; have h9 := HI.out; have h8 := HBG.out; omega)] | simp, ⟨by clear f3 f3'; have h9 := h1.out; have h8 := HI.out; omega⟩, ⟨(M3.out.on HV.out.2.2).on (drewN_below _ _), HL2.out⟩⟩
          · have g5 : decide (k < 0) = false := decide_eq_false hneg
            clear hneg
            go_upto_region 15 with fail
            obtain ⟨x, hx⟩ : ∃ x, twoB (k / 256 % 256) (k % 256) = x := ⟨_, rfl⟩
            obtain ⟨W, hW⟩ : ∃ W, wr.alloc (Obj.cells #[Value.int IntKind.u8 (k / 256 % 256), Value.int IntKind.u8 (k % 256)] 5) = W := ⟨_, rfl⟩
            have HMW : Aside0 (Mi w.heap.size w M W tb S' l) := ⟨by rw [← hW]; exact h2.out.1.on (below_alloc (Below.refl _ _) _)⟩
            rw [hx, hW]
            have hll : l.length ≤ 268435456 := by have := h2.out.2; have := HI.out; have := HBG.out; omega
            have cD := HMW.out.put x ⟨#[]⟩ HM.out.1 HM.out.2 (by omega)
            unfold ansG at cD
            obtain ⟨l', hl'⟩ : ∃ l', putF x ⟨#[]⟩ l = l' := ⟨_, rfl⟩
            obtain ⟨b, hb⟩ : ∃ b, (getF x l).isSome = b := ⟨_, rfl⟩
            have hlen := putF_length (x := x) (v := ⟨#[]⟩) (tr_rises HMW.out.tr)
            rw [hl'] at cD hlen
            rw [hb] at cD hlen
            have HLL := Aside0.mk hll
            clear hx hW hcv
            cases b
            · have hsame : wrap64 ((l.length : Int) + 1) = (l'.length : Int) := (by have h9 : l'.length = l.length + 1 := (by simpa using hlen); rw [h9]; exact w64j (by omega))
              have HSM := Aside0.mk hsame
              have hl2 : l'.length ≤ i + 1 := by have h9 := h2.out.2; clear hsame; revert hlen; simp; omega
              have HL2 := Aside0.mk hl2
              clear hsame hl2 hlen hll
              go_upto_region 22 with (go_at_call 18; refine cD.mono ?_; rintro e w3 ⟨rfl, S3, hm3, -⟩; have M3 := Aside0.mk hm3; clear hm3)
              rw [HSM.out]
              have hl3 : l'.length ≤ 268435457 := by have := HL2.out; have := HI.out; have := HBG.out; omega
              have cL := levels_tr HM.out.1 (by omega) M3.out.tr
              have cZ : Aside0 (∀ W, Below w3.heap.size w3 W → Calls Try.prog 20 #[.pointer (some ⟨tb, 0, none⟩)] W fun e w' => e = .returned (.int .i64 l'.length) ∧ w' = W) := ⟨fun W hW => lenTree_calls (tr_below M3.out.tr hW)⟩
              have HL3 := Aside0.mk hl3
              clear hl3 cD
              go_upto_region 24 with (first
                | (go_at_call 19; refine cL.mono ?_; rintro e w4 ⟨v, L, rfl, hv, hS, hb4⟩; have HV := Aside0.mk (And.intro hv (And.intro hS hb4)); clear hv hS hb4)
                | (go_at_call 20; refine (cZ.out _ HV.out.2.2).mono ?_; rintro e w5 ⟨rfl, rfl⟩))
              have cS := shaped_calls HM.out.1 HM.out.2 (by have := HL3.out; omega) HV.out.2.1 HV.out.1
              obtain ⟨f3, f3'⟩ := FW.out
              go_wp2_with (go_at_call 21; refine cS.mono ?_; rintro e w6 ⟨rfl, jn, rfl⟩)
              go_roundg (gk - 1)
              case measure => clear f3 f3'; have h9 := h1.out; have h8 := HI.out; omega
              case rel => exact ⟨i + 1, S3, l', by first | rw [HSM.out] | simp, by first | rw [w64j (by clear f3 f3'; have h9 := HI.out; have h8 := HBG.out; omega)] | simp, ⟨by clear f3 f3'; have h9 := h1.out; have h8 := HI.out; omega⟩, ⟨(M3.out.on HV.out.2.2).on (drewN_below _ _), HL2.out⟩⟩
            · have hsame : l.length = l'.length := by simpa using hlen.symm
              have HSM := Aside0.mk hsame
              have hl2 : l'.length ≤ i + 1 := by have h9 := h2.out.2; clear hsame; revert hlen; simp; omega
              have HL2 := Aside0.mk hl2
              clear hsame hl2 hlen hll
              go_upto_region 22 with (go_at_call 18; refine cD.mono ?_; rintro e w3 ⟨rfl, S3, hm3, -⟩; have M3 := Aside0.mk hm3; clear hm3)
              rw [HSM.out]
              have hl3 : l'.length ≤ 268435457 := by have := HL2.out; have := HI.out; have := HBG.out; omega
              have cL := levels_tr HM.out.1 (by omega) M3.out.tr
              have cZ : Aside0 (∀ W, Below w3.heap.size w3 W → Calls Try.prog 20 #[.pointer (some ⟨tb, 0, none⟩)] W fun e w' => e = .returned (.int .i64 l'.length) ∧ w' = W) := ⟨fun W hW => lenTree_calls (tr_below M3.out.tr hW)⟩
              have HL3 := Aside0.mk hl3
              clear hl3 cD
              go_upto_region 24 with (first
                | (go_at_call 19; refine cL.mono ?_; rintro e w4 ⟨v, L, rfl, hv, hS, hb4⟩; have HV := Aside0.mk (And.intro hv (And.intro hS hb4)); clear hv hS hb4)
                | (go_at_call 20; refine (cZ.out _ HV.out.2.2).mono ?_; rintro e w5 ⟨rfl, rfl⟩))
              have cS := shaped_calls HM.out.1 HM.out.2 (by have := HL3.out; omega) HV.out.2.1 HV.out.1
              obtain ⟨f3, f3'⟩ := FW.out
              go_wp2_with (go_at_call 21; refine cS.mono ?_; rintro e w6 ⟨rfl, jn, rfl⟩)
              go_roundg (gk - 1)
              case measure => clear f3 f3'; have h9 := h1.out; have h8 := HI.out; omega
              case rel => exact ⟨i + 1, S3, l', by first | rw [HSM.out] | simp, by first | rw [w64j (by clear f3 f3'; have h9 := HI.out; have h8 := HBG.out; omega)] | simp, ⟨by clear f3 f3'; have h9 := h1.out; have h8 := HI.out; omega⟩, ⟨(M3.out.on HV.out.2.2).on (drewN_below _ _), HL2.out⟩⟩
        · have g1 : decide ((i : Int) < (n : Int)) = false := decide_eq_false (by omega)
          have g2 : decide (i < n) = false := decide_eq_false hi
          clear hi
          go_wp2
          go_ret
          exact ⟨rfl, h2.out.1.below⟩
end Go.Proofs.YtmomohljnmopfaaX
end
