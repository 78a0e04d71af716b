/- What the two programs write for a row, in plain lists; no program's steps in sight; no conditions beyond those in each theorem's head. -/
import Derived.Test.YtlgobbofiingnaaPS1
import Derived.Test.YtlgobbofiingnaaPAx2
import Derived.Test.YtlgobbofiingnaaPAx3
import Derived.Test.YtlgobbofiingnaaPAx8
import Derived.Test.YtlgobbofiingnaaPAx9
namespace Go.Proofs.Ytlgobbofiingnaa.PS
open Go.RowKit Go.Proofs.YtlgobbofiingnaaW.PrintWords Go.Proofs.YtlgobbofiingnaaW.PrintLast Go.Proofs.YtlgobbofiingnaaW.PrintMore Go.Proofs.YtlgobbofiingnaaX Go.Proofs.YtlgobbofiingnaaL Go.Proofs.Ytlgobbofiingnaa.PA
set_option linter.unusedVariables false
set_option linter.unusedSimpArgs false

theorem beq_nil (s : ByteArray) : (s.toList == ([] : List UInt8)) = (s.size == 0) := by
  rw [Bool.eq_iff_iff]
  simp [toList_nil]
theorem right_row (v : S25) : value_Right.f v.f0 v.f1 v.f2 = some (right v) := by
  unfold value_Right.f right
  simp only [beq_nil]
  by_cases h0 : v.f0 = 0
  · rw [if_pos h0]; simp [h0]
  · rw [if_neg h0]
    by_cases h1 : v.f0 = 1
    · rw [if_pos h1]
      by_cases a : v.f1 ≥ (-4611686018427387904) <;> by_cases b : v.f1 ≤ 4611686018427387904 <;> simp [h1, a, b] <;> omega
    · rw [if_neg h1]
      by_cases h2 : v.f0 = 2
      · rw [if_pos h2]
        by_cases a : v.f1 = 0
        · simp [h2, a]
        · by_cases b : v.f1 = 1
          · simp [h2, b]
          · rw [if_neg (by omega)]; simp [h2, a, b]
      · rw [if_neg h2]
        by_cases h3 : v.f0 = 3
        · rw [if_pos h3]
          by_cases a : v.f1 = 0
          · rw [if_pos a]; simp [h3, a]; omega
          · rw [if_neg a]; simp [h3, a]
        · rw [if_neg h3]; simp [h0, h1, h2, h3]
theorem right_ref (v : S25) : unisonref01_Right.f v.f0 v.f1 v.f2 = some (right v) := by
  unfold unisonref01_Right.f right
  simp only [beq_nil]
  by_cases h0 : v.f0 = 0
  · rw [if_pos h0]
    by_cases a : v.f1 = 0
    · rw [if_pos a]; simp [h0, a]
    · rw [if_neg a]; simp [h0, a]
  · rw [if_neg h0]
    by_cases h1 : v.f0 = 1
    · rw [if_pos h1]
      by_cases a : v.f1 ≥ (-4611686018427387904) <;> by_cases b : v.f1 ≤ 4611686018427387904 <;> simp [h1, a, b] <;> omega
    · rw [if_neg h1]
      by_cases h2 : v.f0 = 2
      · rw [if_pos h2]
        by_cases a : v.f1 = 0
        · rw [if_pos a]; simp [h2, a]
        · rw [if_neg a]
          by_cases b : v.f1 = 1
          · rw [if_pos b]; simp [h2, b]
          · rw [if_neg b]; simp [h2, a, b]
      · rw [if_neg h2]
        by_cases h3 : v.f0 = 3
        · rw [if_pos h3]
          by_cases a : v.f1 = 0
          · rw [if_pos a]; simp [h3, a]; omega
          · rw [if_neg a]; simp [h3, a]
        · rw [if_neg h3]; simp [h0, h1, h2, h3]

/-! ### numbers -/
theorem number_l0 : ∀ (k : Nat) (m : Nat) (b : List Int), m < 128 ^ (k + 1) → b.length + k < 140737488355328 → ∀ j, k + 1 ≤ j → row_number.l0 j b (m : Int) = some (b ++ vi m)
  | k, m, b, hm, hb, 0, hj => by omega
  | k, m, b, hm, hb, j + 1, hj => by
    unfold row_number.l0
    by_cases h : m < 128
    · rw [if_neg (by omega), if_pos (by omega), vi_small h, show ((m : Int)) % 256 = m from by omega]
    · rw [if_pos (by omega), if_pos (by omega), vi_big h]
      cases k with
      | zero => simp at hm; omega
      | succ k =>
        rw [or128 (by omega) (by omega), show ((m : Int) / 128) = ((m / 128 : Nat) : Int) from by omega]
        rw [number_l0 k (m / 128) _ (by rw [Nat.pow_succ] at hm; omega) (by simp only [List.length_append, List.length_cons, List.length_nil]; omega) j (by omega)]
        rw [List.append_assoc, List.singleton_append, show ((m : Int)) % 256 % 128 + 128 = ((m % 128 + 128 : Nat) : Int) from by omega]
theorem number_row {n : Int} (h : -4611686018427387904 ≤ n) (h' : n ≤ 4611686018427387904) {b : List Int} (hb : b.length + 9 < 140737488355328) {k : Nat} (hk : 10 ≤ k) : row_number.f k b n = some (b ++ vi (zig n)) := by
  unfold row_number.f
  have e : Go.bits .xor .u64 (IntKind.u64.wrap (wrap64 (n * 2))) (IntKind.u64.wrap (n / 9223372036854775808)) = (zig n : Int) := by
    by_cases hn : n < 0
    · rw [show n / 9223372036854775808 = -1 from by omega, wrap_u64, wrap_u64, show ((-1 : Int) % 18446744073709551616) = 18446744073709551615 from rfl, xor_ones_u64 (by omega) (by omega)]
      unfold zig wrap64
      rw [if_pos hn]
      omega
    · rw [show n / 9223372036854775808 = 0 from by omega, wrap_u64, wrap_u64, show ((0 : Int) % 18446744073709551616) = 0 from rfl, xor_zero_u64 (by omega) (by omega)]
      unfold zig wrap64
      rw [if_neg hn]
      omega
  rw [e]
  have := zig_small h h'
  exact number_l0 9 _ _ (by show _ < 1180591620717411303424; omega) hb k hk
theorem ref_number_l0 : ∀ (k : Nat) (m : Nat) (b : List Int), m < 18446744073709551616 → m < 128 ^ (k + 1) → b.length + k < 140737488355328 → ∀ j, k + 1 ≤ j → unisonref03_Number.l0 j b (m : Int) = some (b ++ vi m)
  | k, m, b, h64, hm, hb, 0, hj => by omega
  | k, m, b, h64, hm, hb, j + 1, hj => by
    unfold unisonref03_Number.l0
    by_cases h : m < 128
    · rw [if_neg (by omega), if_pos (by omega), vi_small h, show ((m : Int)) % 256 = m from by omega]
    · rw [if_pos (by omega), if_pos (by omega), vi_big h]
      cases k with
      | zero => simp at hm; omega
      | succ k =>
        rw [wrap_u64, wrap_u64, Int.tdiv_eq_ediv_of_nonneg (by omega), Int.tmod_eq_emod_of_nonneg (by omega), show ((m : Int) / 128) % 18446744073709551616 = ((m / 128 : Nat) : Int) from by omega]
        rw [ref_number_l0 k (m / 128) _ (by omega) (by rw [Nat.pow_succ] at hm; omega) (by simp only [List.length_append, List.length_cons, List.length_nil]; omega) j (by omega)]
        rw [List.append_assoc, List.singleton_append, show (128 + (m : Int) % 128) % 18446744073709551616 % 256 = ((m % 128 + 128 : Nat) : Int) from by omega]
theorem number_ref {n : Int} (h : -4611686018427387904 ≤ n) (h' : n ≤ 4611686018427387904) {b : List Int} (hb : b.length + 9 < 140737488355328) {k : Nat} (hk : 11 ≤ k) : unisonref03_Number.f k b n = some (b ++ vi (zig n)) := by
  unfold unisonref03_Number.f
  obtain ⟨k, rfl⟩ : ∃ j, k = j + 1 := ⟨k - 1, by omega⟩
  have hz := zig_small h h'
  have go := ref_number_l0 9 (zig n) b (by omega) (by show _ < 1180591620717411303424; omega) hb k (by omega)
  by_cases hn : n < 0
  · rw [if_pos hn]
    unfold unisonref03_Number.j0
    rw [show IntKind.u64.wrap (wrap64 (wrap64 (-2 * n) - 1)) = (zig n : Int) from by rw [wrap_u64]; unfold zig wrap64; rw [if_pos hn]; omega]
    exact go
  · rw [if_neg hn]
    unfold unisonref03_Number.j0
    rw [show IntKind.u64.wrap (wrap64 (2 * n)) = (zig n : Int) from by rw [wrap_u64]; unfold zig wrap64; rw [if_neg hn]; omega]
    exact go

/-! ### the row -/
/-- What both programs write. -/
def encR (l : List S25) : ByteArray × Int := if l.length > 16 then (⟨#[]⟩, 2) else if ∀ v ∈ l, right v = true then (strOfNums (enc l), 0) else (⟨#[]⟩, 10)
/-- The text after i values. -/
def part (l : List S25) (i : Nat) : List Int := (l.length : Int) :: (hdr (kd l) i (hm l.length) ++ (l.take i).flatMap pay)
theorem part_all (l : List S25) : part l l.length = enc l := by unfold part enc; rw [List.take_length]
theorem rd_at (l : List S25) (i : Nat) : rd_T25 l (i : Int) = l.getD i z25 := by unfold rd_T25; rw [Int.toNat_natCast]
theorem take_snoc {α : Type} {l : List α} {i : Nat} (d : α) (h : i < l.length) : l.take (i + 1) = l.take i ++ [l.getD i d] := by
  rw [List.take_add_one, List.getElem?_eq_getElem h, List.getD_eq_getElem?_getD, List.getElem?_eq_getElem h]; rfl
theorem pays_length : ∀ (l : List S25), (∀ v ∈ l, right v = true) → (l.flatMap pay).length ≤ 65 * l.length
  | [], _ => by simp
  | v :: l, h => by
    rw [List.flatMap_cons, List.length_append, List.length_cons]
    have := pay_length (h v (List.mem_cons_self ..))
    have := pays_length l (fun u hu => h u (List.mem_cons_of_mem _ hu))
    omega
theorem part_length {l : List S25} {i : Nat} (hl : l.length ≤ 16) (hi : i ≤ l.length) (h : ∀ v ∈ l.take i, right v = true) : (part l i).length ≤ 1100 := by
  unfold part
  rw [List.length_cons, List.length_append, hdr_length]
  have := pays_length _ h
  rw [List.length_take] at this
  unfold hm
  omega
theorem rd_part {l : List S25} {i j : Nat} (h : j < hm l.length) : rd (part l i) ((1 + j : Nat) : Int) = hb (kd l) i j := by
  unfold part
  rw [← rd_hdr h]
  unfold rd
  rw [Int.toNat_natCast, Int.toNat_natCast, Nat.add_comm, List.getD_cons_succ, List.getD_eq_getElem?_getD, List.getD_eq_getElem?_getD, List.getElem?_append_left (by rw [hdr_length]; exact h)]
/-- The kind put in, and the value's bytes behind. -/
theorem part_step {l : List S25} {i : Nat} (hi : i < l.length) : (part l i).set (1 + i / 4) (hb (kd l) i (i / 4) + put (kd l) i) ++ pay (l.getD i z25) = part l (i + 1) := by
  unfold part
  rw [Nat.add_comm, List.set_cons_succ, List.set_append_left _ _ (by rw [hdr_length]; unfold hm; omega), hdr_set _ _ _ (by unfold hm; omega), take_snoc z25 hi, List.flatMap_append]
  simp
theorem shl_kind {κ : Nat → Int} (i : Nat) (h : 0 ≤ κ i ∧ κ i ≤ 3) : shl .u8 (κ i % 256) ((((i % 4) * 2 : Nat)) : Int) = put κ i := by
  unfold shl put
  rw [u8_w, Int.toNat_natCast, show IntKind.u8.bits = 8 from rfl, Nat.min_eq_left (by omega), show κ i % 256 = κ i from by omega]
  have : (2 : Int) ^ (i % 4 * 2) = 4 ^ (i % 4) := by rw [Nat.mul_comm, Int.pow_mul]; rfl
  rw [this]
  rcases pow4 (i % 4) (by omega) with ⟨e, r⟩ | ⟨e, r⟩ | ⟨e, r⟩ | ⟨e, r⟩ <;> rw [e] <;> omega
theorem put_mod {κ : Nat → Int} (i : Nat) (h : 0 ≤ κ i ∧ κ i ≤ 3) : 0 ≤ put κ i ∧ put κ i % 4 ^ (i % 4) = 0 ∧ put κ i < 256 := by
  unfold put
  refine ⟨?_, Int.mul_emod_left _ _, ?_⟩ <;> rcases pow4 (i % 4) (by omega) with ⟨e, r⟩ | ⟨e, r⟩ | ⟨e, r⟩ | ⟨e, r⟩ <;> rw [e] <;> omega
/-- A kind's low part and its place: they never meet. -/
theorem low_put {κ : Nat → Int} {i : Nat} (hκ : ∀ q, q ≤ i → 0 ≤ κ q ∧ κ q ≤ 3) : 0 ≤ hb κ i (i / 4) ∧ hb κ i (i / 4) < 4 ^ (i % 4) ∧ hb κ i (i / 4) + put κ i < 256 := by
  let κ' : Nat → Int := fun q => if q ≤ i then κ q else 0
  have hκ' : ∀ q, 0 ≤ κ' q ∧ κ' q ≤ 3 := fun q => by
    show 0 ≤ (if q ≤ i then κ q else 0) ∧ (if q ≤ i then κ q else 0) ≤ 3
    split
    · exact hκ q (by assumption)
    · omega
  have e : ∀ n, n ≤ i + 1 → hb κ n (i / 4) = hb κ' n (i / 4) := fun n hn => by
    have a : ∀ q, (if q < n then κ q else 0) = (if q < n then κ' q else 0) := fun q => by
      by_cases hq : q < n
      · rw [if_pos hq, if_pos hq]; show _ = (if q ≤ i then κ q else 0); rw [if_pos (by omega)]
      · rw [if_neg hq, if_neg hq]
    unfold hb
    rw [a, a, a, a]
  rw [← hb_step, e i (by omega), e (i + 1) (by omega)]
  exact ⟨(hb_range hκ' _ _).1, hb_low hκ' i, (hb_range hκ' _ _).2⟩
theorem or_put {κ : Nat → Int} {i : Nat} (hκ : ∀ q, q ≤ i → 0 ≤ κ q ∧ κ q ≤ 3) : Go.bits .or .u8 (hb κ i (i / 4)) (put κ i) = hb κ i (i / 4) + put κ i := by
  have h1 := low_put hκ
  have h2 := put_mod i (hκ i (Nat.le_refl _))
  have e : (4 : Int) ^ (i % 4) = 2 ^ (2 * (i % 4)) := by rw [Int.pow_mul]; rfl
  rw [e] at h1 h2
  exact or_join_u8 (2 * (i % 4)) h1.1 h1.2.1 h2.1 h2.2.1 h2.2.2 (by omega)
theorem mem_take_succ {l : List S25} {i : Nat} (hi : i < l.length) (h : ∀ v ∈ l.take i, right v = true) (hv : right (l.getD i z25) = true) : ∀ v ∈ l.take (i + 1), right v = true := by
  rw [take_snoc z25 hi]
  intro v hm
  rcases List.mem_append.1 hm with hm | hm
  · exact h v hm
  · rw [List.mem_singleton.1 hm]; exact hv
theorem getD_mem {l : List S25} {i : Nat} (hi : i < l.length) : l.getD i z25 ∈ l := by
  rw [List.getD_eq_getElem?_getD, List.getElem?_eq_getElem hi]; exact List.getElem_mem hi
theorem kd_take {l : List S25} {i : Nat} (hi : i < l.length) (h : ∀ v ∈ l.take i, right v = true) (hv : right (l.getD i z25) = true) : ∀ q, q ≤ i → 0 ≤ kd l q ∧ kd l q ≤ 3 := fun q hq => by
  refine right_kind (mem_take_succ hi h hv _ ?_)
  rw [List.getD_eq_getElem?_getD, List.getElem?_eq_getElem (by omega)]
  show l[q] ∈ _
  have : l[q] = (l.take (i + 1))[q]'(by rw [List.length_take]; omega) := by rw [List.getElem_take]
  rw [this]
  exact List.getElem_mem _

theorem row_loop {l : List S25} (hl : l.length ≤ 16) : ∀ (d i : Nat), i + d = l.length → (∀ v ∈ l.take i, right v = true) → ∀ k, d + 12 ≤ k →
    row_Encode.l0 k (part l i) l (l.length : Int) (i : Int) = some (if ∀ v ∈ l, right v = true then (strOfNums (enc l), 0) else (⟨#[]⟩, 10))
  | d, i, hd, hi, 0, hk => by omega
  | 0, i, hd, hi, k + 1, hk => by
    unfold row_Encode.l0
    rw [if_neg (by omega)]
    have e : i = l.length := by omega
    subst e
    rw [List.take_length] at hi
    rw [if_pos hi, part_all]
  | d + 1, i, hd, hi, k + 1, hk => by
    unfold row_Encode.l0
    rw [if_pos (by omega), if_pos (by omega), if_pos (by omega), rd_at, right_row, some_bind]
    have il : i < l.length := by omega
    by_cases hv : right (l.getD i z25) = true
    · have hκ := kd_take il hi hv
      have hlen := part_length hl (by omega) hi
      have h15 : i ≤ 15 := by omega
      have e1 : wrap64 (1 + wrap64 (Int.tdiv (i : Int) 4)) = ((1 + i / 4 : Nat) : Int) := by
        rw [Int.tdiv_eq_ediv_of_nonneg (by omega)]; unfold wrap64; omega
      have e2 : wrap64 (Int.tmod (i : Int) 4 * 2) = ((i % 4 * 2 : Nat) : Int) := by
        rw [Int.tmod_eq_emod_of_nonneg (by omega)]; unfold wrap64; omega
      have e3 : wrap64 ((i : Int) + 1) = ((i + 1 : Nat) : Int) := by unfold wrap64; omega
      have hp : i / 4 < hm l.length := by unfold hm; omega
      have hpl : hm l.length + 1 ≤ (part l i).length := by
        unfold part; rw [List.length_cons, List.length_append, hdr_length]; omega
      rw [if_pos hv, e1, e2, e3, if_pos (by omega), if_pos (by omega), if_pos (by omega), some_bind, rd_part hp]
      have hk0 : (l.getD i z25).f0 = kd l i := rfl
      rw [hk0, shl_kind i (hκ i (Nat.le_refl _)), or_put hκ, Int.toNat_natCast]
      have hset := part_step il
      have ih := row_loop hl d (i + 1) (by omega) (mem_take_succ il hi hv) k (by omega)
      generalize hP : (part l i).set (1 + i / 4) (hb (kd l) i (i / 4) + put (kd l) i) = P at hset ⊢
      have hPl : P.length ≤ 1100 := by rw [← hP, List.length_set]; exact hlen
      rcases (right_iff _).1 hv with q | q | q | q <;> rw [hk0] at q
      · rw [if_neg (by omega), if_neg (by omega), if_neg (by omega), ← ih, ← hset, pay0 q.1, List.append_nil]
      · rw [if_pos q.1, number_row q.2.1 q.2.2.1 (by omega) (by omega), some_bind, ← ih, ← hset, pay1 q.1]
      · rw [if_neg (by omega), if_pos q.1, if_pos (by omega), ← ih, ← hset, pay2 q.1]
      · rw [if_neg (by omega), if_neg (by omega), if_pos q.1, if_pos (by omega), some_bind, if_pos (by rw [List.length_append, List.length_singleton]; omega), ← ih, ← hset, pay3 q.1, List.append_assoc]; rfl
    · rw [if_neg hv, if_neg (fun h => hv (h _ (getD_mem il)))]
theorem ref_loop {l : List S25} (hl : l.length ≤ 16) : ∀ (d i : Nat), i + d = l.length → (∀ v ∈ l.take i, right v = true) → ∀ k, d + 12 ≤ k →
    unisonref03_Encode.l0 k l (part l i) (i : Int) = some (if ∀ v ∈ l, right v = true then (strOfNums (enc l), 0) else (⟨#[]⟩, 10))
  | d, i, hd, hi, 0, hk => by omega
  | 0, i, hd, hi, k + 1, hk => by
    unfold unisonref03_Encode.l0
    rw [if_neg (by omega)]
    have e : i = l.length := by omega
    subst e
    rw [List.take_length] at hi
    rw [if_pos hi, part_all]
  | d + 1, i, hd, hi, k + 1, hk => by
    unfold unisonref03_Encode.l0
    rw [if_pos (by omega), if_pos (by omega), rd_at, right_ref, some_bind]
    have il : i < l.length := by omega
    by_cases hv : right (l.getD i z25) = true
    · have hκ := kd_take il hi hv
      have hlen := part_length hl (by omega) hi
      have h15 : i ≤ 15 := by omega
      have e1 : wrap64 (1 + wrap64 (Int.tdiv (i : Int) 4)) = ((1 + i / 4 : Nat) : Int) := by
        rw [Int.tdiv_eq_ediv_of_nonneg (by omega)]; unfold wrap64; omega
      have e2 : wrap64 (2 * Int.tmod (i : Int) 4) = ((i % 4 * 2 : Nat) : Int) := by
        rw [Int.tmod_eq_emod_of_nonneg (by omega)]; unfold wrap64; omega
      have e3 : wrap64 ((i : Int) + 1) = ((i + 1 : Nat) : Int) := by unfold wrap64; omega
      have hp : i / 4 < hm l.length := by unfold hm; omega
      have hpl : hm l.length + 1 ≤ (part l i).length := by
        unfold part; rw [List.length_cons, List.length_append, hdr_length]; omega
      rw [if_pos hv, e1, e2, e3, if_pos (by omega), if_pos (by omega), if_pos (by omega), some_bind, rd_part hp]
      have hk0 : (l.getD i z25).f0 = kd l i := rfl
      have hlow := low_put hκ
      have hput := put_mod i (hκ i (Nat.le_refl _))
      rw [hk0, shl_kind i (hκ i (Nat.le_refl _)), Int.emod_eq_of_lt (by omega) hlow.2.2, Int.toNat_natCast]
      have hset := part_step il
      have ih := ref_loop hl d (i + 1) (by omega) (mem_take_succ il hi hv) k (by omega)
      generalize hP : (part l i).set (1 + i / 4) (hb (kd l) i (i / 4) + put (kd l) i) = P at hset ⊢
      have hPl : P.length ≤ 1100 := by rw [← hP, List.length_set]; exact hlen
      rcases (right_iff _).1 hv with q | q | q | q <;> rw [hk0] at q
      · rw [if_neg (by omega), if_neg (by omega), if_neg (by omega), ← ih, ← hset, pay0 q.1, List.append_nil]
      · rw [if_pos q.1, number_ref q.2.1 q.2.2.1 (by omega) (by omega), some_bind, ← ih, ← hset, pay1 q.1]
      · rw [if_neg (by omega), if_pos q.1, if_pos (by omega), ← ih, ← hset, pay2 q.1]
      · rw [if_neg (by omega), if_neg (by omega), if_pos q.1, if_pos (by omega), some_bind, if_pos (by rw [List.length_append, List.length_singleton]; omega), ← ih, ← hset, pay3 q.1, List.append_assoc]; rfl
    · rw [if_neg hv, if_neg (fun h => hv (h _ (getD_mem il)))]
theorem part_zero (l : List S25) (h : l.length ≤ 16) : (List.replicate (1 + hm l.length) 0 : List Int).set (0 : Int).toNat (((l.length : Int)) % 256) = part l 0 := by
  unfold part
  rw [hdr_zero, Nat.add_comm, List.replicate_succ]
  simp
  omega
theorem head_size (l : List S25) (h : l.length ≤ 16) : wrap64 (1 + wrap64 (Int.tdiv (wrap64 ((l.length : Int) + 3)) 4)) = ((1 + hm l.length : Nat) : Int) := by
  rw [show wrap64 ((l.length : Int) + 3) = (l.length : Int) + 3 from by unfold wrap64; omega, Int.tdiv_eq_ediv_of_nonneg (by omega)]
  unfold wrap64 hm; omega
theorem encode_row (l : List S25) {k : Nat} (hk : 30 ≤ k) : row_Encode.f k l = some (encR l) := by
  unfold row_Encode.f encR
  by_cases h : l.length > 16
  · rw [if_pos (by omega), if_pos h]
  · rw [if_neg (by omega), if_neg h, head_size l (by omega), Int.toNat_natCast, if_pos (by omega), if_pos (by unfold hm; omega), some_bind, if_pos (by rw [List.length_replicate]; omega), part_zero l (by omega)]
    exact row_loop (by omega) l.length 0 (by omega) (by simp) k (by omega)
theorem encode_ref (l : List S25) {k : Nat} (hk : 30 ≤ k) : unisonref03_Encode.f k l = some (encR l) := by
  unfold unisonref03_Encode.f encR
  by_cases h : l.length > 16
  · rw [if_pos (by omega), if_pos h]
  · rw [if_neg (by omega), if_neg h, head_size l (by omega), Int.toNat_natCast, if_pos (by omega), if_pos (by unfold hm; omega), some_bind, if_pos (by rw [List.length_replicate]; omega), part_zero l (by omega)]
    exact ref_loop (by omega) l.length 0 (by omega) (by simp) k (by omega)
end Go.Proofs.Ytlgobbofiingnaa.PS
