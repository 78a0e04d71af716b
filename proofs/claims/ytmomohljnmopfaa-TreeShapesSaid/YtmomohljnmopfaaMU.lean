/- Several texts in one: XF; no conditions beyond those in each theorem's head. -/
import Derived.Test.YtmomohljnmopfaaMF
import Derived.Test.YtmomohljnmopfaaME
section
namespace Go.Proofs.YtmomohljnmopfaaX
open Go.RowKit Go.Lib Go.Proofs.YtmomohljnmopfaaW.PrintWords Go.Proofs.YtmomohljnmopfaaW.PrintLast Go.Proofs.YtmomohljnmopfaaW.PrintMore
set_option linter.unusedVariables false
set_option linter.unusedSimpArgs false
theorem waf {a b : Nat} (ha : a ≤ 4294967296) (hb : b ≤ 4294967296) : wrap64 ((a : Int) + (b : Int)) = (a : Int) + (b : Int) := by unfold wrap64; omega
theorem wnf {a : Nat} (ha : a ≤ 4294967296) : wrap64 (a : Int) = (a : Int) := by unfold wrap64; omega
set_option maxRecDepth 100000 in
set_option maxHeartbeats 8000000 in
theorem shaped_calls {m keys base : Nat} {w : World} {v : Value} {L : List (List Nat)} (h4 : 4 ≤ m) (hm : m ≤ 64) (hk : keys ≤ 2147483648) (hS : ShapeL m keys L) (hv : RowsI base w v L) :
    Calls Try.prog 21 #[v, .int .i64 m, .int .i64 keys] w fun e w' => e = .returned (.bool true) ∧ ∃ n, w' = w.drewN n := by
  obtain ⟨s0, hs0⟩ : ∃ s, L[0]? = some s := ⟨_, List.getElem?_eq_getElem (shape_pos hS)⟩
  obtain ⟨g, c, A0, c0, rfl, z0, -⟩ := rows_at hv hs0
  have hl0 : s0.length = 1 := (shape_at h4 hS hs0).2.2.2.2.1 rfl
  rw [hl0] at z0
  obtain ⟨n, hn⟩ : ∃ n, L.length = n := ⟨_, rfl⟩
  rw [hn] at hv ⊢
  have hpos := shape_pos hS
  have hlen := shape_len h4 hS
  rw [hn] at hpos hlen
  have HS := Aside0.mk (And.intro hS (And.intro hv (And.intro hn (And.intro hlen hk))))
  have HM := Aside0.mk (And.intro h4 hm)
  have p1 : ¬ (n : Int) = 0 := by omega
  have p2 : ¬ n = 0 := by omega
  have p3 : (0 : Int) < (n : Int) := by omega
  have p4 : ((n : Int) == 0) = false := beq_eq_false_iff_ne.2 p1
  clear hS hv hn hs0 hl0 hlen
  go_enter Try.func21, Try.ntmps21
  go_upto_region 4 with fail
  go_loopg [7] n (fun kq v7 wr => ∃ (i j K : Nat), K = kq ∧ v7 = .int .i64 i ∧ wr = w.drewN j ∧ Aside0 (i + K = n))
  case atStart => exact ⟨0, 0, n, rfl, rfl, rfl, ⟨by omega⟩⟩
  case round =>
    obtain ⟨i, j, K, hK, rfl, rfl, h1⟩ := hrel
    obtain ⟨W, hW⟩ : ∃ W, w.drewN j = W := ⟨_, rfl⟩
    have HW : Aside0 (w.drewN j = W ∧ RowsI base W (.slice (some ⟨g, 0, none⟩) n c) L) := ⟨hW, by rw [← hW]; exact rows_below HS.out.2.1 (pw_below_drewN (Below.refl _ _) _)⟩
    rw [hW]
    clear hW
    by_cases hi : i < n
    · have d1 : decide ((i : Int) < (n : Int)) = true := decide_eq_true (by omega)
      have d2 : decide (i < n) = true := decide_eq_true hi
      have d3 : (i : Int) < (n : Int) := by omega
      obtain ⟨s, hs⟩ : ∃ s, L[i]? = some s := ⟨_, List.getElem?_eq_getElem (by have := HS.out.2.2.1; omega)⟩
      have hsh := shape_at HM.out.1 HS.out.1 hs
      have hsw := shape_wide HM.out.1 HS.out.1 hs
      obtain ⟨g', c', A', c9, hv, y0, hrow⟩ := rows_at HW.out.2 hs
      simp only [Value.slice.injEq, Option.some.injEq, Addr.mk.injEq] at hv
      obtain ⟨⟨rfl, -⟩, -, rfl⟩ := hv
      obtain ⟨q, hq⟩ : ∃ q, s.length = q := ⟨_, rfl⟩
      rw [hq] at y0 hrow hsw
      have HH := Aside0.mk (And.intro hsh (And.intro hsw (And.intro hrow (And.intro hs (And.intro hq hi)))))
      have y0' : ∀ jj, (W.drewN jj).cell? ⟨g, i, none⟩ = some (.slice A' q c9) := fun jj => y0
      clear hsh hsw hrow hs hq hi
      go_upto_region 8 with fail
      go_loopg [8, 9] q (fun kq v8 v9 wr2 => ∃ (k P jj : Nat), v8 = .int .i64 P ∧ v9 = .int .i64 k ∧ wr2 = W.drewN jj ∧ Aside0 (k + kq = q ∧ P = (s.take k).sum))
      case atStart => exact ⟨0, 0, 0, rfl, rfl, rfl, ⟨by omega, rfl⟩⟩
      case round =>
        obtain ⟨k, P, jj, rfl, rfl, rfl, k1⟩ := hrel
        have y1 := y0' jj
        by_cases hk : k < q
        · have a1 : decide ((k : Int) < (q : Int)) = true := decide_eq_true (by omega)
          have a2 : decide (k < q) = true := decide_eq_true hk
          have a3 : (k : Int) < (q : Int) := by omega
          obtain ⟨x, hx⟩ : ∃ x, s[k]? = some x := ⟨_, List.getElem?_eq_getElem (by have := HH.out.2.2.2.2.1; omega)⟩
          obtain ⟨g3, c3, hv3, x0, -, -⟩ := (HH.out.2.2.1.below (pw_below_drewN (Below.refl W.heap.size W) jj)).at (i := k) (u := encI x) (by rw [List.getElem?_map, hx]; rfl)
          simp only [Value.slice.injEq] at hv3
          obtain ⟨rfl, -, rfl⟩ := hv3
          have hm9 := HH.out.1.1 x (List.mem_iff_getElem?.2 ⟨k, hx⟩)
          have hsum := sum_take hx
          have hle := sum_take_le (s := s) (k + 1)
          have hkeys := HH.out.1.2.1
          have hkk := HS.out.2.2.2.2
          have hP := k1.out.2
          have KX := Aside0.mk (And.intro hk (And.intro hsum (show P + x ≤ 4294967296 by have := k1.out.2; omega)))
          have b1 : decide ((m : Int) < (x : Int)) = false := decide_eq_false (by omega)
          have b1' : decide (m < x) = false := decide_eq_false (by omega)
          have b2 : decide ((keys : Int) < (x : Int)) = false := decide_eq_false (by omega)
          have b2' : decide (keys < x) = false := decide_eq_false (by omega)
          have b3 : decide ((x : Int) < 0) = false := decide_eq_false (by omega)
          obtain ⟨Q, hQ⟩ : ∃ Q, m / 2 = Q := ⟨_, rfl⟩
          rw [hQ] at hm9
          replace x0 : (W.drewN jj).cell? ⟨g3, k, none⟩ = some (.int .i64 x) := x0
          have WR : Aside0 (wrap64 ((P : Int) + (x : Int)) = ((P + x : Nat) : Int) ∧ wrap64 ((k : Int) + 1) = ((k + 1 : Nat) : Int) ∧ Int.tdiv (m : Int) 2 = (Q : Int) ∧ wrap64 (Q : Int) = (Q : Int)) := ⟨(waf (by omega) (by omega)).trans (Int.natCast_add P x).symm, w64j (by have := HH.out.2.1; omega), by rw [← hQ]; exact (Int.ofNat_tdiv _ _).symm, wnf (by rw [← hQ]; have := HM.out; omega)⟩
          by_cases h0 : i = 0
          · subst h0
            have hm8 := hm9.2.2.2 rfl
            rw [HS.out.2.2.1] at hm8
            by_cases hn1 : n = 1
            · have c2 : decide (1 < (n : Int)) = false := decide_eq_false (by omega)
              have c2' : decide (1 < n) = false := decide_eq_false (by omega)
              clear hk hx hm9 hm8 hsum hle hkeys hkk hP hQ hn1
              obtain ⟨b4, b5, t1, t2⟩ := WR.out
              go_upto_region 11 with fail
              go_wp2
              go_roundg (gk - 1)
              case measure => have h9 := k1.out; have h8 := KX.out; clear b4 b5 t1 t2; omega
              case rel => exact ⟨k + 1, P + x, jj, by first | rw [WR.out.1] | simp, by first | rw [WR.out.2.1] | simp, rfl, ⟨by have h9 := k1.out; have h8 := KX.out; clear b4 b5 t1 t2; omega, by rw [KX.out.2.1, k1.out.2]⟩⟩
            · have c2 : decide (1 < (n : Int)) = true := decide_eq_true (by omega)
              have c2' : decide (1 < n) = true := decide_eq_true (by omega)
              have c3 : decide ((x : Int) < 2) = false := decide_eq_false (by have := hm8 (by omega); omega)
              have c3' : decide (x < 2) = false := decide_eq_false (by have := hm8 (by omega); omega)
              clear hk hx hm9 hm8 hsum hle hkeys hkk hP hQ hn1
              obtain ⟨b4, b5, t1, t2⟩ := WR.out
              go_upto_region 11 with fail
              go_wp2
              go_roundg (gk - 1)
              case measure => have h9 := k1.out; have h8 := KX.out; clear b4 b5 t1 t2; omega
              case rel => exact ⟨k + 1, P + x, jj, by first | rw [WR.out.1] | simp, by first | rw [WR.out.2.1] | simp, rfl, ⟨by have h9 := k1.out; have h8 := KX.out; clear b4 b5 t1 t2; omega, by rw [KX.out.2.1, k1.out.2]⟩⟩
          · have c1 : decide (0 < (i : Int)) = true := decide_eq_true (by omega)
            have c1' : decide (0 < i) = true := decide_eq_true (by omega)
            have c2 : ¬ (i : Int) = 0 := by omega
            have c2' : ((i : Int) == 0) = false := beq_eq_false_iff_ne.2 c2
            have c3 : decide ((x : Int) < (Q : Int)) = false := decide_eq_false (by have := hm9.2.2.1 (by omega); omega)
            have c3' : decide (x < Q) = false := decide_eq_false (by have := hm9.2.2.1 (by omega); omega)
            clear hk hx hm9 hsum hle hkeys hkk hP hQ h0
            obtain ⟨b4, b5, t1, t2⟩ := WR.out
            go_upto_region 11 with fail
            go_wp2
            go_roundg (gk - 1)
            case measure => have h9 := k1.out; have h8 := KX.out; clear b4 b5 t1 t2; omega
            case rel => exact ⟨k + 1, P + x, jj, by first | rw [WR.out.1] | simp, by first | rw [WR.out.2.1] | simp, rfl, ⟨by have h9 := k1.out; have h8 := KX.out; clear b4 b5 t1 t2; omega, by rw [KX.out.2.1, k1.out.2]⟩⟩
        · have a1 : decide ((k : Int) < (q : Int)) = false := decide_eq_false (by omega)
          have a2 : decide (k < q) = false := decide_eq_false hk
          have hks : P = s.sum := by
            rw [k1.out.2, List.take_of_length_le (by have := HH.out.2.2.2.2.1; have := k1.out; omega)]
          have hi := HH.out.2.2.2.2.2
          have hn9 := HS.out.2.2
          have WR : Aside0 (wrap64 ((i : Int) + 1) = ((i + 1 : Nat) : Int)) := ⟨w64j (by omega)⟩
          have WR2 : Aside0 (wrap64 ((i : Int) + 1) = (i : Int) + 1) := ⟨WR.out.trans (Int.natCast_succ i)⟩
          by_cases hl : i + 1 < n
          · obtain ⟨s', hs'⟩ : ∃ s', L[i + 1]? = some s' := ⟨_, List.getElem?_eq_getElem (by omega)⟩
            have heq := HH.out.1.2.2.2.1 s' hs'
            obtain ⟨g4, c4, A4, c5, hv4, v0, -⟩ := rows_at HW.out.2 hs'
            simp only [Value.slice.injEq, Option.some.injEq, Addr.mk.injEq] at hv4
            obtain ⟨⟨rfl, -⟩, -, rfl⟩ := hv4
            rw [← heq, ← hks] at v0
            have v1 : (W.drewN jj).cell? ⟨g, i + 1, none⟩ = some (.slice A4 P c5) := v0
            have b1 : decide ((i : Int) + 1 < (n : Int)) = true := decide_eq_true (by omega)
            have b1' : decide (i + 1 < n) = true := decide_eq_true hl
            have b2 : (i : Int) + 1 < (n : Int) := by omega
            have b3 : ¬ ((i : Int) + 1 = (n : Int)) := by omega
            have b3' : (((i : Int) + 1) == (n : Int)) = false := beq_eq_false_iff_ne.2 b3
            have b4 : ((i : Int) + 1).toNat = i + 1 := by omega
            have b5 : (0 : Int) ≤ (i : Int) + 1 := by omega
            have HK := Aside0.mk hl
            clear hk hks hi hn9 hl hs' heq v0
            have w1 := WR2.out
            go_wp2
            go_roundg (K - 1)
            case measure => have h9 := h1.out; have h8 := HK.out; clear w1; omega
            case rel => exact ⟨i + 1, j + jj, K - 1, rfl, by first | rw [WR.out] | simp, by rw [← HW.out.1, World.drewN_drewN], ⟨by have h9 := h1.out; have h8 := HK.out; clear w1; omega⟩⟩
          · have b1 : decide ((i : Int) + 1 < (n : Int)) = false := decide_eq_false (by omega)
            have b1' : decide (i + 1 < n) = false := decide_eq_false hl
            have hkk : P = keys := by rw [hks]; exact HH.out.1.2.2.1 (by omega)
            subst hkk
            have hin : n = i + 1 := by omega
            have HK := Aside0.mk hin
            have b3 : ((i : Int) + 1 == (n : Int)) = true := beq_iff_eq.2 (by omega)
            clear hk hks hi hn9 hl hin
            have w1 := WR2.out
            go_wp2
            go_roundg (K - 1)
            case measure => have h9 := h1.out; have h8 := HK.out; clear w1; omega
            case rel => exact ⟨i + 1, j + jj, K - 1, rfl, by first | rw [WR.out] | simp, by rw [← HW.out.1, World.drewN_drewN], ⟨by have h9 := h1.out; have h8 := HK.out; clear w1; omega⟩⟩
    · have d1 : decide ((i : Int) < (n : Int)) = false := decide_eq_false (by omega)
      have d2 : decide (i < n) = false := decide_eq_false hi
      clear hi
      go_wp2
      go_ret
      exact ⟨rfl, j, HW.out.1.symm⟩
end Go.Proofs.YtmomohljnmopfaaX
end
