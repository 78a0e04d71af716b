/- What the program's reader of rows comes to: the one row whose text it is given, or the sign that there is none; no program's steps in sight; no conditions beyond those in each theorem's head. -/
import Derived.Test.YtlgobbofiingnaaPS2
import Derived.Test.YtlgobbofiingnaaPAx4
import Derived.Test.YtlgobbofiingnaaPAx5
import Derived.Test.YtlgobbofiingnaaPAx6
namespace Go.Proofs.Ytlgobbofiingnaa.PS
open Go.RowKit Go.Proofs.YtlgobbofiingnaaW.PrintWords Go.Proofs.YtlgobbofiingnaaW.PrintLast Go.Proofs.YtlgobbofiingnaaW.PrintMore Go.Proofs.YtlgobbofiingnaaX Go.Proofs.YtlgobbofiingnaaL Go.Proofs.Ytlgobbofiingnaa.PA
set_option linter.unusedVariables false
set_option linter.unusedSimpArgs false

theorem cut_short {s : ByteArray} {b : Bool} {n : Int} (h : n > (s.size : Int)) : row_reader_cut.f s b n = some ((⟨#[]⟩ : ByteArray), s, true) := by
  unfold row_reader_cut.f; rw [if_pos h]
theorem cut_ok {s : ByteArray} {b : Bool} {n : Nat} (h : n ≤ s.size) : row_reader_cut.f s b (n : Int) = some (s.extract 0 n, s.extract n s.size, b) := by
  unfold row_reader_cut.f; rw [if_neg (by omega), if_pos (by omega), if_pos (by omega), Int.toNat_natCast]
theorem byte_none {s : ByteArray} {b : Bool} (h : s.size = 0) : row_reader_byte.f s b = some (0, s, true) := by
  unfold row_reader_byte.f; rw [cut_short (by omega), some_bind]; rfl
theorem size_of {s : ByteArray} {x : Int} {t : List Int} (h : bytesOf s = x :: t) : s.size = t.length + 1 := by
  rw [size_eq_length, h, List.length_cons]
theorem tail_of {s : ByteArray} {x : Int} {t : List Int} (h : bytesOf s = x :: t) : bytesOf (s.extract 1 s.size) = t := by
  rw [bytesOf_extract_to_end, h]; rfl
theorem head_range {s : ByteArray} {x : Int} {t : List Int} (h : bytesOf s = x :: t) : 0 ≤ x ∧ x < 256 := bytesOf_bytes s x (by rw [h]; exact List.mem_cons_self ..)
theorem byte_some {s : ByteArray} {x : Int} {t : List Int} (h : bytesOf s = x :: t) : row_reader_byte.f s false = some (x, s.extract 1 s.size, false) := by
  have hs := size_of h
  have hx := head_range h
  unfold row_reader_byte.f
  rw [show (1 : Int) = ((1 : Nat) : Int) from rfl, cut_ok (by omega), some_bind, if_neg (by simp)]
  have e : bytesOf (s.extract 0 1) = [x] := by rw [bytesOf_extract_front, h]; rfl
  rw [if_pos (by rw [size_eq_length, e]; simp), bt_eq, e, show rd [x] 0 = x from rfl, wrap64_of (by omega) (by omega)]

/-! ### numbers -/
theorem val_unzig {x : Nat} (h : x < 18446744073709551616) : Go.bits .xor .i64 (wrap64 ((x : Int) / 2)) (wrap64 (-(wrap64 (Go.bits .and .u64 (x : Int) 1)))) = unzig x := by
  rw [and1_u64 (by omega) (by omega), wrap64_of (by omega) (by omega), wrap64_of (n := (x : Int) % 2) (by omega) (by omega), wrap64_of (by omega) (by omega)]
  unfold unzig
  by_cases o : x % 2 = 1
  · rw [if_pos o, show -((x : Int) % 2) = -1 from by omega, xor_ones_i64 (by omega) (by omega)]; omega
  · rw [if_neg o, show -((x : Int) % 2) = 0 from by omega, xor_zero_i64 (by omega) (by omega)]; omega
theorem p_pos (j : Nat) : 0 < 2 ^ (7 * j) := Nat.pos_pow_of_pos' (7 * j)
  where Nat.pos_pow_of_pos' (n : Nat) : 0 < 2 ^ n := Nat.pow_pos (by decide)
theorem p_small {j : Nat} (h : j ≤ 8) : 2 ^ (7 * j) ≤ 72057594037927936 := by
  have : 2 ^ (7 * j) ≤ 2 ^ 56 := Nat.pow_le_pow_right (by decide) (by omega)
  exact this
theorem p_next (j : Nat) : 2 ^ (7 * (j + 1)) = 128 * 2 ^ (7 * j) := by
  rw [show 7 * (j + 1) = 7 * j + 7 from by omega, Nat.pow_add, Nat.mul_comm]
theorem acc_or {acc c j : Nat} (hj : j ≤ 9) (ha : acc < 2 ^ (7 * j)) (hc : c < 128) (h9 : j = 9 → c ≤ 1) : Go.bits .or .u64 (acc : Int) (shl .u64 (IntKind.u64.wrap (c : Int)) ((7 * j : Nat) : Int)) = ((acc + c * 2 ^ (7 * j) : Nat) : Int) ∧ acc + c * 2 ^ (7 * j) < 18446744073709551616 := by
  have hb : c * 2 ^ (7 * j) + 2 ^ (7 * j) ≤ 18446744073709551616 := by
    by_cases h : j ≤ 8
    · have := p_small h
      have h2 : c * 2 ^ (7 * j) ≤ 127 * 2 ^ (7 * j) := Nat.mul_le_mul_right _ (by omega)
      omega
    · have e : j = 9 := by omega
      subst e
      have := h9 rfl
      have : c = 0 ∨ c = 1 := by omega
      rcases this with rfl | rfl <;> decide
  have e : shl .u64 (IntKind.u64.wrap (c : Int)) ((7 * j : Nat) : Int) = ((c * 2 ^ (7 * j) : Nat) : Int) := by
    unfold shl
    rw [wraps_u64 (c : Int) (by omega) (by omega), Int.toNat_natCast, show IntKind.u64.bits = 64 from rfl, Nat.min_eq_left (by omega), Int.natCast_mul, Int.natCast_pow]
    have h3 := p_pos j
    have e3 : (c : Int) * 2 ^ (7 * j) = ((c * 2 ^ (7 * j) : Nat) : Int) := by rw [Int.natCast_mul, Int.natCast_pow]; rfl
    show IntKind.u64.wrap ((c : Int) * 2 ^ (7 * j)) = (c : Int) * 2 ^ (7 * j)
    rw [e3]
    exact wraps_u64 _ (by omega) (by omega)
  refine ⟨?_, by omega⟩
  rw [e]
  have hp := p_pos j
  rw [or_join_u64 (7 * j) (by omega) (by have : ((2 : Int) ^ (7 * j)) = ((2 ^ (7 * j) : Nat) : Int) := by rw [Int.natCast_pow]; rfl
                                         rw [this]; omega) (by omega) (by
      have : ((2 : Int) ^ (7 * j)) = ((2 ^ (7 * j) : Nat) : Int) := by rw [Int.natCast_pow]; rfl
      rw [this, Int.natCast_mul]; exact Int.mul_emod_left _ _) (by omega) (by omega)]
  omega
theorem vi_head_small {m : Nat} {t u : List Int} {x : Int} (h : x :: t = vi m ++ u) (hx : x < 128) : (m : Int) = x ∧ m < 128 ∧ t = u := by
  by_cases hm : m < 128
  · rw [vi_small hm, List.singleton_append, List.cons.injEq] at h
    exact ⟨h.1.symm, hm, h.2⟩
  · rw [vi_big hm, List.cons_append, List.cons.injEq] at h
    omega
theorem vi_head_big {m : Nat} {t u : List Int} {x : Int} (h : x :: t = vi m ++ u) (hx : ¬ x < 128) : ¬ m < 128 ∧ ((m % 128 + 128 : Nat) : Int) = x ∧ t = vi (m / 128) ++ u := by
  by_cases hm : m < 128
  · rw [vi_small hm, List.singleton_append, List.cons.injEq] at h
    omega
  · rw [vi_big hm, List.cons_append, List.cons.injEq] at h
    exact ⟨hm, h.1.symm, h.2⟩
theorem nil_vi {m : Nat} {u : List Int} (h : [] = vi m ++ u) : False := by
  have := congrArg List.length h
  rw [List.length_append] at this
  have := vi_pos m
  simp at *
  omega
theorem number_end (k : Nat) (hk : 2 ≤ k) (a : Int) (s : ByteArray) : row_reader_number.l0 k a 70 s false = some (0, s, true) := by
  obtain ⟨k, rfl⟩ : ∃ j, k = j + 1 + 1 := ⟨k - 2, by omega⟩
  rw [row_reader_number.l0, if_neg (by omega), row_reader_number.j1, if_neg (by simp)]
theorem number_loop : ∀ (d j : Nat), j + d = 9 → ∀ k, 2 * d + 4 ≤ k → ∀ (acc : Nat) (s : ByteArray), acc < 2 ^ (7 * j) →
    ∃ v r b, row_reader_number.l0 k (acc : Int) ((7 * j : Nat) : Int) s false = some (v, r, b) ∧
      (b = false → ∃ m : Nat, bytesOf s = vi m ++ bytesOf r ∧ acc + m * 2 ^ (7 * j) < 18446744073709551616 ∧ v = unzig (acc + m * 2 ^ (7 * j)) ∧ (0 < j → 0 < m)) ∧
      (b = true → ∀ (m : Nat) t, bytesOf s = vi m ++ t → acc + m * 2 ^ (7 * j) < 18446744073709551616 → (0 < j → 0 < m) → False) := by
  intro d
  induction d with
  | zero => 
    intro j hj k hk acc s ha
    obtain ⟨k, rfl⟩ : ∃ q, k = q + 1 + 1 := ⟨k - 2, by omega⟩
    obtain rfl : j = 9 := by omega
    rw [row_reader_number.l0, if_pos (by omega), row_reader_number.j1, if_pos (by simp)]
    cases hs : bytesOf s with
    | nil =>
      rw [byte_none (bytesOf_eq_nil.1 hs), some_bind, if_pos (by omega), if_pos (by omega), if_pos rfl]
      exact ⟨_, _, _, rfl, fun h => by simp at h, fun _ m t h _ _ => nil_vi h⟩
    | cons x t =>
      have hx := head_range hs
      rw [byte_some hs, some_bind, if_pos (by omega)]
      simp only
      by_cases h : x < 128
      · rw [if_pos h, if_neg (by simp), and127_i64 hx.1 hx.2]
        by_cases h0 : x = 0
        · rw [if_pos h0, if_pos (by omega)]
          exact ⟨_, _, _, rfl, fun h => by simp at h, fun _ m t' hm _ h0' => by have := vi_head_small hm h; omega⟩
        · rw [if_neg h0, if_pos (by omega)]
          by_cases h1 : x > 1
          · refine ⟨_, _, _, rfl, fun h => by simp at h; omega, fun _ m t' hm hl _ => ?_⟩
            have := vi_head_small hm h
            omega
          · obtain rfl : x = 1 := by omega
            obtain ⟨e1, e2⟩ := acc_or (acc := acc) (c := 1) (j := 9) (by omega) ha (by omega) (by omega)
            refine ⟨_, _, _, rfl, fun _ => ⟨1, ?_, e2, ?_, fun _ => by omega⟩, fun h => by simp at h⟩
            · rw [tail_of hs, vi_small (by omega)]; rfl
            · rw [show ((1 : Int) % 128) = ((1 : Nat) : Int) from rfl, e1]
              exact val_unzig e2
      · rw [if_neg h, show wrap64 (((7 * 9 : Nat) : Int) + 7) = 70 from by decide +kernel, number_end k (by omega)]
        refine ⟨_, _, _, rfl, fun h => by simp at h, fun _ m t' hm hl _ => ?_⟩
        have := vi_head_big hm h
        omega
  | succ d ih =>
    intro j hj k hk acc s ha
    obtain ⟨k, rfl⟩ : ∃ q, k = q + 1 + 1 := ⟨k - 2, by omega⟩
    rw [row_reader_number.l0, if_pos (by omega), row_reader_number.j1, if_pos (by simp)]
    cases hs : bytesOf s with
    | nil =>
      rw [byte_none (bytesOf_eq_nil.1 hs), some_bind, if_pos (by omega), if_pos (by omega), if_pos rfl]
      exact ⟨_, _, _, rfl, fun h => by simp at h, fun _ m t h _ _ => nil_vi h⟩
    | cons x t =>
      have hx := head_range hs
      rw [byte_some hs, some_bind, if_pos (by omega)]
      simp only
      have hc : x % 128 = ((x.toNat % 128 : Nat) : Int) := by omega
      obtain ⟨e1, e2⟩ := acc_or (acc := acc) (c := x.toNat % 128) (j := j) (by omega) ha (by omega) (by omega)
      by_cases h : x < 128
      · rw [if_pos h, if_neg (by simp), and127_i64 hx.1 hx.2, hc]
        have ex : x.toNat % 128 = x.toNat := by omega
        have good : ∃ m : Nat, x :: t = vi m ++ bytesOf (s.extract 1 s.size) ∧ acc + m * 2 ^ (7 * j) < 18446744073709551616 ∧
            Go.bits .xor .i64 (wrap64 ((Go.bits .or .u64 (acc : Int) (shl .u64 (IntKind.u64.wrap ((x.toNat % 128 : Nat) : Int)) ((7 * j : Nat) : Int))) / 2)) (wrap64 (-(wrap64 (Go.bits .and .u64 (Go.bits .or .u64 (acc : Int) (shl .u64 (IntKind.u64.wrap ((x.toNat % 128 : Nat) : Int)) ((7 * j : Nat) : Int))) 1))))
              = unzig (acc + m * 2 ^ (7 * j)) ∧ m = x.toNat := by
          refine ⟨x.toNat % 128, ?_, e2, ?_, ex⟩
          · rw [tail_of hs, vi_small (by omega), ex, Int.toNat_of_nonneg hx.1]; rfl
          · rw [e1]; exact val_unzig e2
        by_cases h0 : x = 0
        · rw [if_pos h0]
          by_cases hj0 : ((7 * j : Nat) : Int) > 0
          · rw [if_pos hj0]
            exact ⟨_, _, _, rfl, fun h => by simp at h, fun _ m t' hm _ h0' => by have := vi_head_small hm h; omega⟩
          · rw [if_neg hj0, if_neg (by omega)]
            obtain ⟨m, g1, g2, g3, g4⟩ := good
            exact ⟨_, _, _, rfl, fun _ => ⟨m, g1, g2, g3, fun _ => by omega⟩, fun h => by simp at h⟩
        · rw [if_neg h0, if_neg (by omega)]
          obtain ⟨m, g1, g2, g3, g4⟩ := good
          exact ⟨_, _, _, rfl, fun _ => ⟨m, g1, g2, g3, fun _ => by omega⟩, fun h => by simp at h⟩
      · rw [if_neg h, and127_i64 hx.1 hx.2, hc, e1, show wrap64 (((7 * j : Nat) : Int) + 7) = ((7 * (j + 1) : Nat) : Int) from by rw [wrap64_of (by omega) (by omega)]; omega]
        have hp := p_pos j
        have hlt : acc + x.toNat % 128 * 2 ^ (7 * j) < 2 ^ (7 * (j + 1)) := by
          rw [p_next]
          have h2 : x.toNat % 128 * 2 ^ (7 * j) ≤ 127 * 2 ^ (7 * j) := Nat.mul_le_mul_right _ (by omega)
          omega
        obtain ⟨v, r, b, g1, g2, g3⟩ := ih (j + 1) (by omega) k (by omega) (acc + x.toNat % 128 * 2 ^ (7 * j)) (s.extract 1 s.size) hlt
        have key : ∀ m : Nat, acc + x.toNat % 128 * 2 ^ (7 * j) + m * 2 ^ (7 * (j + 1)) = acc + (x.toNat % 128 + 128 * m) * 2 ^ (7 * j) := fun m => by
          rw [p_next, Nat.add_mul, Nat.mul_left_comm, Nat.mul_assoc, Nat.add_assoc]
        refine ⟨v, r, b, g1, fun hb => ?_, fun hb m t' hm hl hj' => ?_⟩
        · obtain ⟨m, k1, k2, k3, k4⟩ := g2 hb
          rw [key] at k2 k3
          have := k4 (by omega)
          refine ⟨x.toNat % 128 + 128 * m, ?_, k2, k3, fun _ => by omega⟩
          rw [vi_big (by omega), List.cons_append, show (x.toNat % 128 + 128 * m) / 128 = m from by omega, ← k1, tail_of hs]
          congr 1; omega
        · obtain ⟨h1, h2, h3⟩ := vi_head_big hm h
          refine g3 hb (m / 128) t' (by rw [tail_of hs]; exact h3) ?_ (fun _ => by omega)
          rw [key, show x.toNat % 128 + 128 * (m / 128) = m from by omega]
          exact hl
theorem read_number (s : ByteArray) {k : Nat} (hk : 22 ≤ k) : ∃ v r b, row_reader_number.f k s false = some (v, r, b) ∧
      (b = false → bytesOf s = vi (zig v) ++ bytesOf r) ∧
      (b = true → ∀ (u : Int) t, zig u < 18446744073709551616 → bytesOf s = vi (zig u) ++ t → False) := by
  unfold row_reader_number.f
  obtain ⟨v, r, b, h1, h2, h3⟩ := number_loop 9 0 (by omega) k (by omega) 0 s (by decide)
  refine ⟨v, r, b, h1, fun hb => ?_, fun hb u t hu hs => h3 hb (zig u) t hs (by simp; exact hu) (by omega)⟩
  obtain ⟨m, g1, g2, g3, _⟩ := h2 hb
  simp only [Nat.mul_zero, Nat.pow_zero, Nat.mul_one, Nat.zero_add] at g3
  rw [g3, zig_unzig]; exact g1

/-! ### one value -/
theorem right_pair {κ n : Int} {t : ByteArray} : value_Right.f κ n t = some (right ⟨κ, n, t⟩) := right_row ⟨κ, n, t⟩
theorem of_not {b : Bool} (h : (!b) = false) : b = true := by
  cases b with
  | true => rfl
  | false => cases h
theorem read_value (s : ByteArray) (κ : Int) (h0 : 0 ≤ κ) (h3 : κ ≤ 3) {k : Nat} (hk : 22 ≤ k) : ∃ (v : S25) (r : ByteArray) (b : Bool), row_reader_value.f k s false κ = some (v.f0, v.f1, v.f2, r, b) ∧
      (b = false → right v = true ∧ v.f0 = κ ∧ bytesOf s = pay v ++ bytesOf r) ∧
      (b = true → ∀ (u : S25) t, right u = true → u.f0 = κ → bytesOf s = pay u ++ t → False) := by
  unfold row_reader_value.f
  by_cases k1 : κ = 1
  · subst k1
    rw [if_pos rfl]
    obtain ⟨n, r, b, g1, g2, g3⟩ := read_number s hk
    rw [g1, some_bind]
    simp only
    cases b with
    | true =>
      rw [if_pos rfl]
      refine ⟨⟨1, n, ⟨#[]⟩⟩, r, true, rfl, fun h => by simp at h, fun _ u t hu hk' hs => ?_⟩
      have q := (right_iff u).1 hu
      rw [pay1 hk'] at hs
      have := zig_small (n := u.f1) (by omega) (by omega)
      exact g3 rfl _ _ (by omega) hs
    | false =>
      rw [if_neg (by simp), right_pair, some_bind]
      refine ⟨⟨1, n, ⟨#[]⟩⟩, r, _, rfl, fun h => ⟨by simpa using h, rfl, by rw [pay1 rfl]; exact g2 rfl⟩, fun h u t hu hk' hs => ?_⟩
      rw [pay1 hk', g2 rfl] at hs
      have e := zig_inj (vi_inj _ _ _ _ hs).1
      have : u = ⟨1, n, ⟨#[]⟩⟩ := eta _ _ hk' e.symm (empty_of (by have q := (right_iff u).1 hu; omega))
      rw [← this, hu] at h
      simp at h
  · rw [if_neg k1]
    by_cases k2 : κ = 2
    · subst k2
      rw [if_pos rfl]
      cases hs : bytesOf s with
      | nil =>
        rw [byte_none (bytesOf_eq_nil.1 hs), some_bind, if_pos rfl]
        exact ⟨⟨2, 0, ⟨#[]⟩⟩, s, true, rfl, fun h => by simp at h, fun _ u t hu hk' h => by rw [pay2 hk'] at h; simp at h⟩
      | cons x t =>
        have hx := head_range hs
        rw [byte_some hs, some_bind]
        simp only
        rw [if_neg (by simp), right_pair, some_bind]
        refine ⟨⟨2, x, ⟨#[]⟩⟩, _, _, rfl, fun h => ⟨by simpa using h, rfl, ?_⟩, fun h u t' hu hk' hs' => ?_⟩
        · rw [pay2 rfl, tail_of hs]
          show x :: t = [x % 256] ++ t
          rw [Int.emod_eq_of_lt hx.1 hx.2]; rfl
        · rw [pay2 hk', List.singleton_append, List.cons.injEq] at hs'
          have q := (right_iff u).1 hu
          have : u = ⟨2, x, ⟨#[]⟩⟩ := eta _ _ hk' (show u.f1 = x by omega) (empty_of (by omega))
          rw [← this, hu] at h
          simp at h
    · rw [if_neg k2]
      by_cases k3 : κ = 3
      · subst k3
        rw [if_pos rfl]
        cases hs : bytesOf s with
        | nil =>
          have hz := bytesOf_eq_nil.1 hs
          rw [byte_none hz, some_bind]
          simp only
          rw [show (0 : Int) = ((0 : Nat) : Int) from rfl, cut_ok (by omega), some_bind, if_pos rfl]
          exact ⟨⟨3, 0, _⟩, _, true, rfl, fun h => by simp at h, fun _ u t hu hk' h => by rw [pay3 hk'] at h; simp at h⟩
        | cons x t =>
          have hx := head_range hs
          have ht := tail_of hs
          rw [byte_some hs, some_bind]
          simp only
          by_cases hc : x > ((s.extract 1 s.size).size : Int)
          · rw [cut_short hc, some_bind, if_pos rfl]
            refine ⟨⟨3, 0, _⟩, _, true, rfl, fun h => by simp at h, fun _ u t' hu hk' hs' => ?_⟩
            rw [pay3 hk', List.cons_append, List.cons.injEq] at hs'
            have q := (right_iff u).1 hu
            have hl := congrArg List.length hs'.2
            rw [List.length_append, bytesOf_length, ← ht, bytesOf_length] at hl
            omega
          · rw [show x = ((x.toNat : Nat) : Int) from by omega, cut_ok (by omega), some_bind]
            simp only
            rw [if_neg (by simp), right_pair, some_bind]
            have hsz : (s.extract 1 s.size).size = t.length := by rw [size_eq_length, ht]
            have hsz2 : ((s.extract 1 s.size).extract 0 x.toNat).size = x.toNat := by
              rw [size_eq_length, bytesOf_extract_front, List.length_take, bytesOf_length]; omega
            refine ⟨⟨3, 0, _⟩, _, _, rfl, fun h => ⟨of_not h, rfl, ?_⟩, fun h u t' hu hk' hs' => ?_⟩
            · rw [pay3 rfl, bytesOf_extract_to_end]
              show _ = (((s.extract 1 s.size).extract 0 x.toNat).size : Int) % 256 :: bytesOf ((s.extract 1 s.size).extract 0 x.toNat) ++ _
              rw [hsz2, bytesOf_extract_front, ht, List.cons_append, List.take_append_drop]
              congr 1; omega
            · rw [pay3 hk', List.cons_append, List.cons.injEq] at hs'
              have q := (right_iff u).1 hu
              have : right (⟨3, 0, (s.extract 1 s.size).extract 0 x.toNat⟩ : S25) = true := (right_iff _).2 (.inr (.inr (.inr ⟨rfl, rfl, by show ((s.extract 1 s.size).extract 0 x.toNat).size ≤ 64; rw [hsz2]; omega⟩)))
              rw [this] at h
              simp at h
      · rw [if_neg k3, if_neg (by simp), right_pair, some_bind]
        obtain rfl : κ = 0 := by omega
        refine ⟨⟨0, 0, ⟨#[]⟩⟩, s, _, rfl, fun h => ⟨by simpa using h, rfl, by rw [pay0 rfl]; rfl⟩, fun h => ?_⟩
        have : right (⟨0, 0, ⟨#[]⟩⟩ : S25) = true := by decide +kernel
        rw [this] at h
        simp at h

/-! ### the row -/
/-- What reading a text comes to: the row that it is the text of, or the sign that there is none. -/
def RowRd (s : List Int) (R : List S25) (e : Int) : Prop := (e = 0 ∧ OK R ∧ s = enc R) ∨ (R = [] ∧ e = 30 ∧ ∀ M, OK M → s = enc M → False)
theorem RowRd.one {s : List Int} {R R' : List S25} {e e' : Int} (h : RowRd s R e) (h' : RowRd s R' e') : R = R' ∧ e = e' := by
  rcases h with ⟨rfl, h2, h3⟩ | ⟨rfl, rfl, h3⟩ <;> rcases h' with ⟨rfl, g2, g3⟩ | ⟨rfl, rfl, g3⟩
  · exact ⟨(enc_inj h2 g2 (a := []) (b := []) (by rw [← h3, ← g3])).1, rfl⟩
  · exact (g3 _ h2 h3).elim
  · exact (h3 _ g2 g3).elim
  · exact ⟨rfl, rfl⟩
/-- The kinds that a head tells. -/
def kds (H : List Int) (q : Nat) : Int := dig (rd H ((q / 4 : Nat) : Int)) (q % 4)
theorem shr_dig {x : Int} (h0 : 0 ≤ x) (h1 : x < 256) (r : Nat) (hr : r < 4) : shr .u8 x ((r * 2 : Nat) : Int) = x / 4 ^ r := by
  unfold shr
  rw [Int.toNat_natCast, show IntKind.u8.bits = 8 from rfl, Nat.min_eq_left (by omega), Nat.mul_comm, Int.pow_mul]; rfl
theorem div_range {x : Int} (h0 : 0 ≤ x) (h1 : x < 256) (r : Nat) (hr : r < 4) : 0 ≤ x / 4 ^ r ∧ x / 4 ^ r < 256 := by
  rcases pow4 r hr with ⟨e, _⟩ | ⟨e, _⟩ | ⟨e, _⟩ | ⟨e, _⟩ <;> rw [e] <;> omega
theorem and3_u8 {x : Int} (h0 : 0 ≤ x) (h1 : x < 256) : Go.bits .and .u8 x 3 = x % 4 := bits_mask .u8 8 (by decide) wraps_u8 2 (by decide) x h0 h1
theorem dec_bad (k : Nat) (hk : 1 ≤ k) (n : Int) (hd : ByteArray) (L : List S25) (i : Int) (s : ByteArray) : row_Decode.l0 k n hd L i s true = some ([], 30) := by
  obtain ⟨k, rfl⟩ : ∃ j, k = j + 1 := ⟨k - 1, by omega⟩
  rw [row_Decode.l0]
  by_cases h : i < n
  · rw [if_pos h, if_pos rfl]
  · rw [if_neg h, if_pos rfl]
theorem dec_loop (hd : ByteArray) (n : Nat) (hn : n ≤ 16) (hl : hd.size = hm n) : ∀ (d i : Nat), i + d = n → ∀ k, d + 30 ≤ k → ∀ (L : List S25) (s : ByteArray), L.length = n →
    ∃ R e, row_Decode.l0 k (n : Int) hd L (i : Int) s false = some (R, e) ∧
      ((e = 0 ∧ ∃ M, M.length = d ∧ Fits (kds (bytesOf hd)) i M ∧ bytesOf s = M.flatMap pay ∧ Trail (bytesOf hd) n ∧ R = L.take i ++ M) ∨
       (R = [] ∧ e = 30 ∧ ∀ M, M.length = d → Fits (kds (bytesOf hd)) i M → bytesOf s = M.flatMap pay → Trail (bytesOf hd) n → False)) := by
  intro d
  induction d with
  | zero =>
    intro i hi k hk L s hL
    obtain ⟨k, rfl⟩ : ∃ j, k = j + 1 := ⟨k - 1, by omega⟩
    obtain rfl : i = n := by omega
    rw [row_Decode.l0, if_neg (by omega), if_neg (by simp)]
    by_cases hs : s.size = 0
    · rw [if_pos (toList_nil.2 hs)]
      have hs' := bytesOf_eq_nil.2 hs
      rw [Int.tmod_eq_emod_of_nonneg (by omega), Int.tdiv_eq_ediv_of_nonneg (by omega)]
      by_cases hr : (i : Int) % 4 > 0
      · rw [if_pos hr, show wrap64 ((i : Int) / 4) = ((i / 4 : Nat) : Int) from by rw [wrap64_of (by omega) (by omega)]; omega, show wrap64 ((i : Int) % 4 * 2) = ((i % 4 * 2 : Nat) : Int) from by rw [wrap64_of (by omega) (by omega)]; omega,
          if_pos (by omega), if_pos (by unfold hm at hl; omega), if_pos (by omega), bt_eq]
        have hx := rd_range (bytesOf_bytes hd) ((i / 4 : Nat) : Int)
        rw [shr_dig hx.1 hx.2 _ (by omega)]
        by_cases ht : rd (bytesOf hd) ((i / 4 : Nat) : Int) / 4 ^ (i % 4) = 0
        · rw [if_pos ht]
          exact ⟨_, _, rfl, .inl ⟨rfl, [], rfl, trivial, hs', fun _ => ht, by rw [← hL, List.take_length, List.append_nil]⟩⟩
        · rw [if_neg ht]
          exact ⟨_, _, rfl, .inr ⟨rfl, rfl, fun M _ _ _ t => ht (t (by omega))⟩⟩
      · rw [if_neg hr]
        exact ⟨_, _, rfl, .inl ⟨rfl, [], rfl, trivial, hs', fun h => by omega, by rw [← hL, List.take_length, List.append_nil]⟩⟩
    · rw [if_neg (fun h => hs (toList_nil.1 h))]
      refine ⟨_, _, rfl, .inr ⟨rfl, rfl, fun M hM _ h _ => hs (bytesOf_eq_nil.1 ?_)⟩⟩
      rw [h, List.eq_nil_of_length_eq_zero hM]; rfl
  | succ d ih =>
    intro i hi k hk L s hL
    obtain ⟨k, rfl⟩ : ∃ j, k = j + 1 := ⟨k - 1, by omega⟩
    rw [row_Decode.l0, if_pos (by omega), if_neg (by simp)]
    rw [Int.tmod_eq_emod_of_nonneg (by omega), Int.tdiv_eq_ediv_of_nonneg (by omega)]
    have hx := rd_range (bytesOf_bytes hd) ((i / 4 : Nat) : Int)
    have hy := div_range hx.1 hx.2 (i % 4) (by omega)
    rw [show wrap64 ((i : Int) / 4) = ((i / 4 : Nat) : Int) from by rw [wrap64_of (by omega) (by omega)]; omega, show wrap64 ((i : Int) % 4 * 2) = ((i % 4 * 2 : Nat) : Int) from by rw [wrap64_of (by omega) (by omega)]; omega,
      if_pos (by omega), if_pos (by unfold hm at hl; omega), if_pos (by omega), bt_eq, shr_dig hx.1 hx.2 _ (by omega), and3_u8 hy.1 hy.2]
    have hκ : wrap64 (rd (bytesOf hd) ((i / 4 : Nat) : Int) / 4 ^ (i % 4) % 4) = kds (bytesOf hd) i := by
      rw [wrap64_of (by omega) (by omega)]; rfl
    have hr := dig_range (rd (bytesOf hd) ((i / 4 : Nat) : Int)) (i % 4)
    rw [hκ]
    obtain ⟨v, r, b, g1, g2, g3⟩ := read_value s (kds (bytesOf hd) i) hr.1 hr.2 (k := k) (by omega)
    rw [g1, some_bind, if_pos (by omega), if_pos (by omega), Int.toNat_natCast, show wrap64 ((i : Int) + 1) = ((i + 1 : Nat) : Int) from by rw [wrap64_of (by omega) (by omega)]; omega]
    simp only
    cases b with
    | true =>
      rw [dec_bad k (by omega)]
      refine ⟨_, _, rfl, .inr ⟨rfl, rfl, fun M hM hF hs ht => ?_⟩⟩
      cases M with
      | nil => simp at hM
      | cons u M => exact g3 rfl u (M.flatMap pay) hF.1 hF.2.1 hs
    | false =>
      obtain ⟨q1, q2, q3⟩ := g2 rfl
      obtain ⟨R, e, t1, t2⟩ := ih (i + 1) (by omega) k (by omega) (L.set i ⟨v.f0, v.f1, v.f2⟩) r (by rw [List.length_set]; exact hL)
      refine ⟨R, e, t1, ?_⟩
      rcases t2 with ⟨rfl, M, m1, m2, m3, m4, m5⟩ | ⟨rfl, rfl, m⟩
      · refine .inl ⟨rfl, v :: M, by simp [m1], ⟨q1, q2, m2⟩, by rw [q3, m3]; rfl, m4, ?_⟩
        rw [m5, take_snoc z25 (by rw [List.length_set]; omega), List.take_set_of_le (Nat.le_refl _), List.append_assoc]
        congr 2
        rw [List.getD_eq_getElem?_getD, List.getElem?_set_self (by omega)]; rfl
      · refine .inr ⟨rfl, rfl, fun M hM hF hs ht => ?_⟩
        cases M with
        | nil => simp at hM
        | cons u M =>
          rw [q3, List.flatMap_cons] at hs
          obtain ⟨_, h2⟩ := pay_inj q1 hF.1 (q2.trans hF.2.1.symm) hs
          exact m M (by simpa using hM) hF.2.2 h2 ht
/-- A row's text, taken apart. -/
theorem enc_parts {M : List S25} (h : OK M) {x : Int} {H r : List Int} (hH : H.length = hm x.toNat) (e : x :: (H ++ r) = enc M) : M.length = x.toNat ∧ Fits (kds H) 0 M ∧ r = M.flatMap pay ∧ Trail H x.toNat := by
  unfold enc at e
  rw [List.cons.injEq] at e
  have hn : M.length = x.toNat := by omega
  obtain ⟨e1, e2⟩ := append_inj_len e.2 (by rw [hdr_length, hH, hn])
  refine ⟨hn, Fits.of h.2 fun q hq => ?_, e2, ?_⟩
  · rw [Nat.zero_add]; unfold kds
    rw [e1, rd_hdr (by unfold hm; omega), dig_hb (kd_range h.2) hq]
  · rw [e1, ← hn]; exact hdr_trail (kd_range h.2) rfl
theorem decode_row (s : ByteArray) {k : Nat} (hk : 50 ≤ k) : ∃ R e, row_Decode.f k s = some (R, e) ∧ RowRd (bytesOf s) R e := by
  unfold row_Decode.f
  cases hs : bytesOf s with
  | nil =>
    have hz := bytesOf_eq_nil.1 hs
    rw [byte_none hz, some_bind, if_neg (by omega)]
    simp only
    rw [show wrap64 (Int.tdiv (wrap64 (0 + 3)) 4) = ((0 : Nat) : Int) from by decide +kernel, cut_ok (by omega), some_bind, if_pos (by omega), if_pos (by omega), dec_bad k (by omega)]
    exact ⟨_, _, rfl, .inr ⟨rfl, rfl, fun M _ h => by unfold enc at h; cases h⟩⟩
  | cons x t =>
    have hx := head_range hs
    have ht := tail_of hs
    rw [byte_some hs, some_bind]
    simp only
    by_cases h16 : x > 16
    · rw [if_pos h16]
      refine ⟨_, _, rfl, .inr ⟨rfl, rfl, fun M hM h => ?_⟩⟩
      unfold enc at h
      rw [List.cons.injEq] at h
      have := hM.1
      omega
    · rw [if_neg h16, show wrap64 (Int.tdiv (wrap64 (x + 3)) 4) = ((hm x.toNat : Nat) : Int) from by
        rw [wrap64_of (n := x + 3) (by omega) (by omega), Int.tdiv_eq_ediv_of_nonneg (by omega), wrap64_of (by omega) (by omega)]; unfold hm; omega]
      by_cases hc : ((hm x.toNat : Nat) : Int) > ((s.extract 1 s.size).size : Int)
      · rw [cut_short hc, some_bind, if_pos (by omega), if_pos (by omega), dec_bad k (by omega)]
        refine ⟨_, _, rfl, .inr ⟨rfl, rfl, fun M hM h => ?_⟩⟩
        unfold enc at h
        rw [List.cons.injEq] at h
        have hl := congrArg List.length h.2
        rw [List.length_append, hdr_length, ← ht, bytesOf_length, show M.length = x.toNat from by omega] at hl
        omega
      · rw [cut_ok (by omega), some_bind, if_pos (by omega), if_pos (by omega)]
        simp only
        generalize hS : s.extract 1 s.size = S at ht hc ⊢
        have hH : (bytesOf (S.extract 0 (hm x.toNat))).length = hm x.toNat := by rw [bytesOf_extract_front, List.length_take, bytesOf_length]; omega
        have hsplit : t = bytesOf (S.extract 0 (hm x.toNat)) ++ bytesOf (S.extract (hm x.toNat) S.size) := by
          rw [bytesOf_extract_front, bytesOf_extract_to_end, List.take_append_drop, ht]
        obtain ⟨R, e, g1, g2⟩ := dec_loop (S.extract 0 (hm x.toNat)) x.toNat (by omega) (by rw [size_eq_length]; exact hH) x.toNat 0 (by omega) k (by omega) (List.replicate x.toNat z25) (S.extract (hm x.toNat) S.size) (by rw [List.length_replicate])
        rw [Int.toNat_of_nonneg hx.1] at g1
        refine ⟨R, e, g1, ?_⟩
        rcases g2 with ⟨rfl, M, m1, m2, m3, m4, m5⟩ | ⟨rfl, rfl, m⟩
        · rw [List.take_zero, List.nil_append] at m5
          subst m5
          refine .inl ⟨rfl, ⟨by omega, m2.right⟩, ?_⟩
          unfold enc
          rw [hsplit, ← m3, m1, show x = ((x.toNat : Nat) : Int) from by omega]
          congr 2
          refine hdr_of (bytesOf_bytes _) rfl hH m4 fun q hq => ?_
          have := m2.kind q (by omega)
          rw [this, Nat.zero_add]; rfl
        · refine .inr ⟨rfl, rfl, fun M hM h => ?_⟩
          rw [hsplit] at h
          obtain ⟨p1, p2, p3, p4⟩ := enc_parts hM hH h
          exact m M p1 p2 p3 p4
end Go.Proofs.Ytlgobbofiingnaa.PS
