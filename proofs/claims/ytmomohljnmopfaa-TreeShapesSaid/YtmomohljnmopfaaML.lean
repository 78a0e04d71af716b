/- Several texts in one: XE; no conditions beyond those in each theorem's head. -/
import Derived.Test.YtmomohljnmopfaaMF
import Derived.Test.YtmomohljnmopfaaME
import Derived.Laws.BytesString
section
namespace Go.Proofs.YtmomohljnmopfaaX
open Go.RowKit Go.Lib Go.Proofs.YtmomohljnmopfaaW.PrintWords Go.Proofs.YtmomohljnmopfaaW.PrintLast Go.Proofs.YtmomohljnmopfaaW.PrintMore
set_option linter.unusedVariables false
set_option linter.unusedSimpArgs false
theorem C_int {w : World} {A : Option Addr} {n : Nat} {xs : List Int} (h : Kd.C (Kd.int .i64) w A n xs) {i : Nat} {x : Int} (hi : xs[i]? = some x) : ∃ ad, A = some ad ∧ w.cell? (ad.add i) = some (.int .i64 x) := by
  have hl := (List.getElem?_eq_some_iff.1 hi).1
  obtain ⟨ad, h1, h2⟩ := h.2.2 (by have := h.1; omega)
  obtain ⟨c, h3, h4, h5⟩ := h2 i x hi
  have h6 : c = [.int .i64 x] := h4
  refine ⟨ad, h1, ?_⟩
  have := h5 0 (.int .i64 x) (by rw [h6]; rfl)
  rw [show (Kd.int .i64).sz = 1 from rfl, Nat.mul_one, Nat.add_zero] at this
  exact this
theorem wnl {a : Nat} (ha : a ≤ 4294967296) : wrap64 (a : Int) = (a : Int) := by unfold wrap64; omega
/-- A key of two bytes. -/
def twoB (a b : Int) : Nm := [UInt8.ofNat a.toNat, UInt8.ofNat b.toNat]
theorem conv_two (w : World) (a b : Int) : (convert 45 9 (.slice (some ⟨w.heap.size, 0, none⟩) 2 2)).run Try.prog (w.alloc (.cells #[.int .u8 a, .int .u8 b] 5)) = .ok (.string ⟨(twoB a b).toArray⟩) (w.alloc (.cells #[.int .u8 a, .int .u8 b] 5)) := by
  rw [run_convert_bytes_string _ 45 9 5 _ _ _ Try.underlying45 Try.underlying5 Try.underlying9, run_bytesToString _ _ _ _ [a, b]]
  · rfl
  · have h := run_loadCells_list (P := Try.prog) (w.alloc (.cells #[.int .u8 a, .int .u8 b] 5)) ⟨w.heap.size, 0, none⟩ [.int .u8 a, .int .u8 b] (fun j v hj => by
      have hb := blk_new w (.cells #[.int .u8 a, .int .u8 b] 5)
      rw [add_lit0]
      rcases j with _ | _ | j
      · cases hj; exact (blk_cell hb 0).trans rfl
      · cases hj; exact (blk_cell hb 1).trans rfl
      · simp at hj)
    exact h
theorem putF_le {x : Nm} {v : ByteArray} {l : List KV} (hr : Rises l) : (putF x v l).length ≤ l.length + 1 := by
  have h9 := putF_length (x := x) (v := v) hr
  split at h9 <;> omega
theorem delF_le {x : Nm} {l : List KV} : (delF x l).length ≤ l.length := by
  have h9 := delF_length (x := x) (l := l)
  omega
set_option maxRecDepth 100000 in
set_option maxHeartbeats 8000000 in
theorem Low_calls (m : Int) (A : Option Addr) (c : Nat) (ks : List Int) (w : World) (hwf : (Lit.int .i64 m).wf = true) (hr : Kd.C (Kd.int .i64) w A ks.length ks) (hc : ks.length ≤ c) (hw : ∀ x ∈ ks, (Lit.int .i64 x).wf = true) :
    Calls Try.prog 5 #[.int .i64 m, .slice A ks.length c] w fun e w' => e = .returned (.bool true) ∧ Below w.heap.size w w' := by
  have HR := Aside0.mk (And.intro hr (And.intro hc hw))
  obtain ⟨n, hn⟩ : ∃ n, ks.length = n := ⟨_, rfl⟩
  rw [hn]
  have HN := Aside0.mk hn
  clear hr hc hw hn
  by_cases hbig : 268435455 < n
  · have e1 : decide (268435455 < (n : Int)) = true := decide_eq_true (by omega)
    have e1' : decide (268435455 < n) = true := decide_eq_true hbig
    go_enter Try.func5, Try.ntmps5
    go_wp2
    go_ret
    exact ⟨rfl, Below.refl _ _⟩
  · have e1 : decide (268435455 < (n : Int)) = false := decide_eq_false (by omega)
    have e1' : decide (268435455 < n) = false := decide_eq_false hbig
    have cA : Aside0 (∀ w1, Calls Try.prog 10 #[] w1 fun e w' => e = .returned (.bool true) ∧ Below w1.heap.size w1 w') := ⟨awake_calls⟩
    by_cases hb : m < 4 ∨ 64 < m
    · have cW := fun w1 => new_wrong (w := w1) (A := none) (n := 0) (c := 0) hb
      go_enter Try.func5, Try.ntmps5
      rcases hb with hb | hb
      · have d1 : decide (m < 4) = true := decide_eq_true hb
        clear hbig hb
        go_wp2_with (first
          | (go_at_call 10; refine (cA.out _).mono ?_; rintro e w1 ⟨rfl, hb1⟩; have B1 := Aside0.mk hb1; clear hb1)
          | (go_at_call 11; refine (cW _).mono ?_; rintro e w2 ⟨rfl, hb2⟩; have B2 := Aside0.mk (B1.out.trans (hb2.mono B1.out.size)); clear hb2))
        go_ret
        exact ⟨rfl, B2.out⟩
      · have d1 : decide (m < 4) = false := decide_eq_false (by omega)
        have d2 : decide (64 < m) = true := decide_eq_true hb
        clear hbig hb
        go_wp2_with (first
          | (go_at_call 10; refine (cA.out _).mono ?_; rintro e w1 ⟨rfl, hb1⟩; have B1 := Aside0.mk hb1; clear hb1)
          | (go_at_call 11; refine (cW _).mono ?_; rintro e w2 ⟨rfl, hb2⟩; have B2 := Aside0.mk (B1.out.trans (hb2.mono B1.out.size)); clear hb2))
        go_ret
        exact ⟨rfl, B2.out⟩
    · have h4 : 4 ≤ m := by omega
      have hm : m ≤ 64 := by omega
      have d1 : decide (m < 4) = false := decide_eq_false (by omega)
      have d2 : decide (64 < m) = false := decide_eq_false (by omega)
      obtain ⟨M, rfl⟩ : ∃ M : Nat, m = M := ⟨m.toNat, by omega⟩
      have h4' : 4 ≤ M := by omega
      have hm' : M ≤ 64 := by omega
      have cN : Aside0 (∀ w1, _) := ⟨fun w1 => new_none (w := w1) h4' hm'⟩
      have HM := Aside0.mk (And.intro h4' hm')
      have HBG := Aside0.mk hbig
      clear hbig hb h4 hm h4' hm'
      go_enter Try.func5, Try.ntmps5
      go_upto_region 10 with (first
        | (go_at_call 10; refine (cA.out _).mono ?_; rintro e w1 ⟨rfl, hb1⟩; have B1 := Aside0.mk hb1; clear hb1)
        | (go_at_call 11; refine (cN.out _).mono ?_; rintro e w2 ⟨tb, S, rfl, hm2, hb2⟩; have M2 := Aside0.mk (hm2.base_on B1.out B1.out.size); clear hb2 hm2 B1))
      go_loopg [8] n (fun kq v8 wr => ∃ (i : Nat) (S : List Nat) (l : List KV), v8 = .int .i64 i ∧ Aside0 (i + kq = n) ∧ Aside0 (Mi w.heap.size w M wr tb S l ∧ l.length ≤ i))
      case atStart => exact ⟨0, S, [], rfl, ⟨by omega⟩, ⟨M2.out, Nat.le_refl _⟩⟩
      case round =>
        obtain ⟨i, S', l, rfl, h1, h2⟩ := hrel
        by_cases hi : i < n
        · have g1 : decide ((i : Int) < (n : Int)) = true := decide_eq_true (by omega)
          have g2 : decide (i < n) = true := decide_eq_true hi
          obtain ⟨k, hk⟩ : ∃ k, ks[i]? = some k := ⟨_, List.getElem?_eq_getElem (by have := HN.out; omega)⟩
          have hCw := Kd.C_below HR.out.1 h2.out.1.below
          obtain ⟨ad, rfl, z0⟩ := C_int hCw hk
          have g3 : (i : Int) < (n : Int) := by omega
          have HI := Aside0.mk (And.intro hi hk)
          have hcv := conv_two wr (k / 256 % 256) (k % 256)
          clear hi hk hCw
          have f3 : wrap64 ((i : Int) + 1) = ((i + 1 : Nat) : Int) := w64j (by have := HI.out; have := HBG.out; omega)
          have f3' : IntKind.i64.wrap ((i : Int) + 1) = ((i + 1 : Nat) : Int) := by rw [i64w]; exact f3
          by_cases hneg : k < 0
          · have g5 : decide (k < 0) = true := decide_eq_true hneg
            clear hneg
            go_upto_region 14 with fail
            obtain ⟨x, hx⟩ : ∃ x, twoB (k / 256 % 256) (k % 256) = x := ⟨_, rfl⟩
            obtain ⟨W, hW⟩ : ∃ W, wr.alloc (Obj.cells #[Value.int IntKind.u8 (k / 256 % 256), Value.int IntKind.u8 (k % 256)] 5) = W := ⟨_, rfl⟩
            have HMW : Aside0 (Mi w.heap.size w M W tb S' l) := ⟨by rw [← hW]; exact h2.out.1.on (below_alloc (Below.refl _ _) _)⟩
            rw [hx, hW]
            have cD := HMW.out.del x HM.out.1 HM.out.2 (by have := h2.out.2; have := HI.out; have := HBG.out; omega)
            unfold ansG at cD
            clear hx hW hcv
            go_wp2_with (go_at_call 17; refine cD.mono ?_; rintro e w3 ⟨rfl, S3, hm3, -⟩; have M3 := Aside0.mk hm3; clear hm3)
            go_roundg (gk - 1)
            case measure => have := h1.out; have := HI.out; omega
            case rel => exact ⟨i + 1, S3, delF x l, by simp, ⟨by have := h1.out; have := HI.out; omega⟩, ⟨M3.out, by have := h2.out.2; have := delF_le (x := x) (l := l); omega⟩⟩
          · have g5 : decide (k < 0) = false := decide_eq_false hneg
            clear hneg
            go_upto_region 14 with fail
            obtain ⟨x, hx⟩ : ∃ x, twoB (k / 256 % 256) (k % 256) = x := ⟨_, rfl⟩
            obtain ⟨W, hW⟩ : ∃ W, wr.alloc (Obj.cells #[Value.int IntKind.u8 (k / 256 % 256), Value.int IntKind.u8 (k % 256)] 5) = W := ⟨_, rfl⟩
            have HMW : Aside0 (Mi w.heap.size w M W tb S' l) := ⟨by rw [← hW]; exact h2.out.1.on (below_alloc (Below.refl _ _) _)⟩
            rw [hx, hW]
            have cD := HMW.out.put x ⟨#[]⟩ HM.out.1 HM.out.2 (by have := h2.out.2; have := HI.out; have := HBG.out; omega)
            unfold ansG at cD
            clear hx hW hcv
            go_wp2_with (go_at_call 18; refine cD.mono ?_; rintro e w3 ⟨rfl, S3, hm3, -⟩; have M3 := Aside0.mk hm3; clear hm3)
            go_roundg (gk - 1)
            case measure => have := h1.out; have := HI.out; omega
            case rel => exact ⟨i + 1, S3, putF x ⟨#[]⟩ l, by simp, ⟨by have := h1.out; have := HI.out; omega⟩, ⟨M3.out, by have := h2.out.2; have := putF_le (x := x) (v := ⟨#[]⟩) (tr_rises HMW.out.tr); omega⟩⟩
        · have g1 : decide ((i : Int) < (n : Int)) = false := decide_eq_false (by omega)
          have g2 : decide (i < n) = false := decide_eq_false hi
          have hln : l.length ≤ 268435456 := by have := h2.out.2; have := h1.out; have := HBG.out; omega
          have HLN := Aside0.mk hln
          have cL := levels_tr HM.out.1 (by omega) h2.out.1.tr
          have cZ : Aside0 (∀ W, Below wr.heap.size wr W → Calls Try.prog 20 #[.pointer (some ⟨tb, 0, none⟩)] W fun e w' => e = .returned (.int .i64 l.length) ∧ w' = W) := ⟨fun W hW => lenTree_calls (tr_below h2.out.1.tr hW)⟩
          clear hi hln
          go_upto_region 21 with (first
            | (go_at_call 19; refine cL.mono ?_; rintro e w3 ⟨v, L, rfl, hv, hS, hb⟩; have HV := Aside0.mk (And.intro hv (And.intro hS hb)); clear hv hS hb)
            | (go_at_call 20; refine (cZ.out _ HV.out.2.2).mono ?_; rintro e w4 ⟨rfl, rfl⟩))
          obtain ⟨q, hq⟩ : ∃ q, L.length = q := ⟨_, rfl⟩
          obtain ⟨s0, hs0⟩ : ∃ s, L[0]? = some s := ⟨_, List.getElem?_eq_getElem (shape_pos HV.out.2.1)⟩
          obtain ⟨gL, cL, A0, c0, rfl, -, -⟩ := rows_at HV.out.1 hs0
          obtain ⟨Q, hQ⟩ : ∃ Q, M / 2 = Q := ⟨_, rfl⟩
          have t1 : Int.tdiv (M : Int) 2 = (Q : Int) := by rw [← hQ]; exact (Int.ofNat_tdiv _ _).symm
          have HQ := Aside0.mk (And.intro hq hQ)
          rw [hq]
          have hqp : 1 ≤ q := by rw [← hq]; exact shape_pos HV.out.2.1
          have ql : q ≤ 268435457 := by have := shape_len HM.out.1 HV.out.2.1; have := HLN.out; omega
          have HQ1 := Aside0.mk (And.intro hqp ql)
          clear hs0 hQ hq ql
          go_loopg [13, 14] q (fun kq v13 v14 wr2 => ∃ (j P : Nat), v13 = .int .i64 P ∧ v14 = .int .i64 j ∧ wr2 = w4 ∧ Aside0 (j + kq = q + 1 ∧ 1 ≤ j ∧ j ≤ q ∧ P = 2 * Q ^ (j - 1)))
          case atStart => exact ⟨1, 2, rfl, rfl, rfl, ⟨⟨by omega, Nat.le_refl 1, HQ1.out.1, by simp⟩⟩⟩
          case round =>
            obtain ⟨j, P, rfl, rfl, rfl, k1⟩ := hrel
            have kk := k1.out
            by_cases hj : j < q
            · have a1 : decide ((j : Int) < (q : Int)) = true := decide_eq_true (by omega)
              have a2 : decide (j < q) = true := decide_eq_true hj
              have a3 : (j : Int) < (q : Int) := by omega
              obtain ⟨s, hs⟩ : ∃ s, L[j]? = some s := ⟨_, List.getElem?_eq_getElem (by have := HQ.out.1; omega)⟩
              obtain ⟨g', c', A', c9, hv, y0, -⟩ := rows_at HV.out.1 hs
              rw [HQ.out.1] at hv
              simp only [Value.slice.injEq, Option.some.injEq, Addr.mk.injEq] at hv
              obtain ⟨⟨rfl, -⟩, -, rfl⟩ := hv
              obtain ⟨p1, p2⟩ := (shape_at HM.out.1 HV.out.2.1 hs).2.2.2.2.2 (by omega)
              rw [HQ.out.2, ← kk.2.2.2] at p1
              rw [HQ.out.2] at p2
              obtain ⟨R, hR⟩ : ∃ R, P * Q = R := ⟨_, rfl⟩
              have hRP : R = 2 * Q ^ (j + 1 - 1) := by
                rw [← hR, kk.2.2.2, Nat.add_sub_cancel, Nat.mul_assoc, ← Nat.pow_succ, show (j - 1).succ = j by omega]
              have hRl : R ≤ 268435456 := by rw [hRP, Nat.add_sub_cancel]; exact Nat.le_trans p2 HLN.out
              have a4 : decide ((s.length : Int) < (P : Int)) = false := decide_eq_false (by omega)
              have a4' : decide (s.length < P) = false := decide_eq_false (by omega)
              have a5 : (P : Int) * (Q : Int) = (R : Int) := by rw [← hR]; exact (Int.natCast_mul _ _).symm
              have a6 : decide (2147483647 < (R : Int)) = false := decide_eq_false (by omega)
              have a6' : decide (2147483647 < R) = false := decide_eq_false (by omega)
              have a7 : wrap64 (R : Int) = (R : Int) := wnl (by omega)
              have a8 : wrap64 ((j : Int) + 1) = ((j + 1 : Nat) : Int) := w64j (by have := HQ1.out; omega)
              have a9 : wrap64 (Q : Int) = (Q : Int) := wnl (by rw [← HQ.out.2]; have := HM.out; omega)
              have HRR := Aside0.mk (And.intro hRP (And.intro hj (show R ≤ 4294967296 by omega)))
              clear hj hs p1 p2 hR hRP hRl kk
              go_wp2
              go_roundg (gk - 1)
              case measure => have := k1.out; have := HRR.out; omega
              case rel => exact ⟨j + 1, R, by rw [wnl HRR.out.2.2], by rw [w64j (by have := HQ1.out; have := k1.out; omega)], rfl, ⟨⟨by have := k1.out; have := HRR.out; omega, by omega, HRR.out.2.1, HRR.out.1⟩⟩⟩
            · have a1 : decide ((j : Int) < (q : Int)) = false := decide_eq_false (by omega)
              have a2 : decide (j < q) = false := decide_eq_false hj
              have b1 : decide (0 < (q : Int)) = true := decide_eq_true (by omega)
              have b2 : decide (0 < q) = true := decide_eq_true (by omega)
              have hlast := shape_last HM.out.1 HV.out.2.1
              rw [HQ.out.1, HQ.out.2] at hlast
              have hjq : j = q := by omega
              rw [hjq] at kk
              have HE : Aside0 (Below w.heap.size w wr) := ⟨h2.out.1.below.trans (HV.out.2.2.mono h2.out.1.base)⟩
              by_cases hq1 : q = 1
              · clear a1 a2 b1 b2
                subst hq1
                subst hjq
                clear hlast hj kk
                go_wp2
                go_ret
                exact ⟨rfl, HE.out⟩
              · have b3 : decide ((q : Int) = 1) = false := decide_eq_false (by omega)
                have b3' : ¬ (q : Int) = 1 := by omega
                have b4 : P ≤ l.length := by rw [kk.2.2.2]; exact hlast.resolve_left hq1
                have b5 : decide ((P : Int) ≤ (l.length : Int)) = true := decide_eq_true (by omega)
                have b5' : decide (P ≤ l.length) = true := decide_eq_true b4
                clear hlast hjq hj kk b4
                go_wp2
                go_ret
                exact ⟨rfl, HE.out⟩
end Go.Proofs.YtmomohljnmopfaaX
end
