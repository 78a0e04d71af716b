/- What a row's text is, in plain lists: the numbers' form, the kinds' head, the bytes of a row; two rows never begin alike; no program in sight; no conditions beyond those in each theorem's head. -/
import Derived.Test.YtlgobbofiingnaaPL
import Derived.Test.YtlgobbofiingnaaPAx1
namespace Go.Proofs.Ytlgobbofiingnaa.PS
open Go.RowKit Go.Proofs.YtlgobbofiingnaaW.PrintWords Go.Proofs.YtlgobbofiingnaaW.PrintLast Go.Proofs.YtlgobbofiingnaaW.PrintMore Go.Proofs.YtlgobbofiingnaaX Go.Proofs.YtlgobbofiingnaaL Go.Proofs.Ytlgobbofiingnaa.PA
set_option linter.unusedVariables false
set_option linter.unusedSimpArgs false

/-- A value that a row may hold. -/
def right (v : S25) : Bool :=
  (v.f0 == 0 && v.f1 == 0 && v.f2.size == 0) || (v.f0 == 1 && decide (-4611686018427387904 ≤ v.f1) && decide (v.f1 ≤ 4611686018427387904) && v.f2.size == 0)
  || (v.f0 == 2 && (v.f1 == 0 || v.f1 == 1) && v.f2.size == 0) || (v.f0 == 3 && v.f1 == 0 && decide (v.f2.size ≤ 64))
theorem right_iff (v : S25) : right v = true ↔ (v.f0 = 0 ∧ v.f1 = 0 ∧ v.f2.size = 0) ∨ (v.f0 = 1 ∧ -4611686018427387904 ≤ v.f1 ∧ v.f1 ≤ 4611686018427387904 ∧ v.f2.size = 0)
    ∨ (v.f0 = 2 ∧ (v.f1 = 0 ∨ v.f1 = 1) ∧ v.f2.size = 0) ∨ (v.f0 = 3 ∧ v.f1 = 0 ∧ v.f2.size ≤ 64) := by
  simp [right, and_assoc, or_assoc]
theorem empty_of {s : ByteArray} (h : s.size = 0) : s = (⟨#[]⟩ : ByteArray) := by
  apply bytesOf_inj
  rw [bytesOf_eq_nil.2 h]; rfl
theorem right_kind {v : S25} (h : right v = true) : 0 ≤ v.f0 ∧ v.f0 ≤ 3 := by
  rcases (right_iff v).1 h with h | h | h | h <;> omega

/-- The number folded: small in both signs is small. -/
def zig (n : Int) : Nat := if n < 0 then (-2 * n - 1).toNat else (2 * n).toNat
def unzig (m : Nat) : Int := if m % 2 = 1 then -((m / 2 : Nat) : Int) - 1 else ((m / 2 : Nat) : Int)
theorem unzig_zig (n : Int) : unzig (zig n) = n := by
  unfold unzig zig
  split <;> split <;> omega
theorem zig_unzig (m : Nat) : zig (unzig m) = m := by
  unfold unzig zig
  split <;> split <;> omega
theorem zig_inj {a b : Int} (h : zig a = zig b) : a = b := by rw [← unzig_zig a, h, unzig_zig]

/-- Seven bits a byte, the lowest first; all but the last byte carry 128. -/
def vi (m : Nat) : List Int := if m < 128 then [(m : Int)] else ((m % 128 + 128 : Nat) : Int) :: vi (m / 128)
termination_by m
theorem vi_small {m : Nat} (h : m < 128) : vi m = [(m : Int)] := by rw [vi, if_pos h]
theorem vi_big {m : Nat} (h : ¬ m < 128) : vi m = ((m % 128 + 128 : Nat) : Int) :: vi (m / 128) := by rw [vi, if_neg h]
theorem vi_bytes (m : Nat) : Bytes (vi m) := by
  induction m using Nat.strongRecOn with
  | _ m ih =>
    by_cases h : m < 128
    · rw [vi_small h]; exact Bytes.cons (by omega) (by omega) Bytes.nil
    · rw [vi_big h]; exact Bytes.cons (by omega) (by omega) (ih _ (by omega))
theorem vi_pos (m : Nat) : 0 < (vi m).length := by
  by_cases h : m < 128
  · rw [vi_small h]; simp
  · rw [vi_big h]; simp
theorem vi_inj : ∀ (m n : Nat) (a b : List Int), vi m ++ a = vi n ++ b → m = n ∧ a = b := by
  intro m
  induction m using Nat.strongRecOn with
  | _ m ih =>
    intro n a b h
    by_cases hm : m < 128 <;> by_cases hn : n < 128
    · rw [vi_small hm, vi_small hn] at h
      simp only [List.cons_append, List.nil_append, List.cons.injEq] at h
      exact ⟨by omega, h.2⟩
    · rw [vi_small hm, vi_big hn] at h
      simp only [List.cons_append, List.nil_append, List.cons.injEq] at h
      omega
    · rw [vi_big hm, vi_small hn] at h
      simp only [List.cons_append, List.nil_append, List.cons.injEq] at h
      omega
    · rw [vi_big hm, vi_big hn] at h
      simp only [List.cons_append, List.cons.injEq] at h
      obtain ⟨h1, h2⟩ := h
      obtain ⟨h3, h4⟩ := ih (m / 128) (by omega) (n / 128) a b h2
      exact ⟨by omega, h4⟩
theorem vi_length : ∀ (k m : Nat), m < 128 ^ (k + 1) → (vi m).length ≤ k + 1
  | 0, m, h => by rw [vi_small (by simpa using h)]; simp
  | k + 1, m, h => by
    by_cases hm : m < 128
    · rw [vi_small hm]; simp
    · rw [vi_big hm, List.length_cons]
      have := vi_length k (m / 128) (by rw [Nat.pow_succ] at h; omega)
      omega

/-- What follows the head for one value. -/
def pay (v : S25) : List Int := if v.f0 = 1 then vi (zig v.f1) else if v.f0 = 2 then [v.f1 % 256] else if v.f0 = 3 then ((v.f2.size : Int) % 256) :: bytesOf v.f2 else []
theorem pay0 {v : S25} (h : v.f0 = 0) : pay v = [] := by simp [pay, h]
theorem pay1 {v : S25} (h : v.f0 = 1) : pay v = vi (zig v.f1) := by simp [pay, h]
theorem pay2 {v : S25} (h : v.f0 = 2) : pay v = [v.f1 % 256] := by simp [pay, h]
theorem pay3 {v : S25} (h : v.f0 = 3) : pay v = ((v.f2.size : Int) % 256) :: bytesOf v.f2 := by simp [pay, h]
theorem pay_bytes (v : S25) : Bytes (pay v) := by
  unfold pay
  split
  · exact vi_bytes _
  · split
    · exact Bytes.cons (by omega) (by omega) Bytes.nil
    · split
      · exact Bytes.cons (by omega) (by omega) (bytesOf_bytes _)
      · exact Bytes.nil
theorem zig_small {n : Int} (h : -4611686018427387904 ≤ n) (h' : n ≤ 4611686018427387904) : zig n ≤ 9223372036854775808 := by
  unfold zig; split <;> omega
theorem pay_length {v : S25} (h : right v = true) : (pay v).length ≤ 65 := by
  rcases (right_iff v).1 h with h | h | h | h
  · rw [pay0 h.1]; simp
  · rw [pay1 h.1]
    have := zig_small h.2.1 h.2.2.1
    have := vi_length 9 (zig v.f1) (by show _ < 1180591620717411303424; omega)
    omega
  · rw [pay2 h.1]; simp
  · rw [pay3 h.1, List.length_cons, bytesOf_length]; omega
theorem append_inj_len {α : Type} {a b c d : List α} (h : a ++ c = b ++ d) (hl : a.length = b.length) : a = b ∧ c = d := List.append_inj h hl
theorem eta (v u : S25) (h0 : v.f0 = u.f0) (h1 : v.f1 = u.f1) (h2 : v.f2 = u.f2) : v = u := by
  cases v; cases u; simp only at h0 h1 h2; subst h0; subst h1; subst h2; rfl
theorem pay_inj {v u : S25} (hv : right v = true) (hu : right u = true) (hk : v.f0 = u.f0) {a b : List Int} (h : pay v ++ a = pay u ++ b) : v = u ∧ a = b := by
  rcases (right_iff v).1 hv with p | p | p | p <;> rcases (right_iff u).1 hu with q | q | q | q <;> (try (exfalso; omega))
  · rw [pay0 p.1, pay0 q.1] at h
    exact ⟨eta _ _ hk (by omega) ((empty_of p.2.2).trans (empty_of q.2.2).symm), h⟩
  · rw [pay1 p.1, pay1 q.1] at h
    obtain ⟨h1, h2⟩ := vi_inj _ _ _ _ h
    exact ⟨eta _ _ hk (zig_inj h1) ((empty_of p.2.2.2).trans (empty_of q.2.2.2).symm), h2⟩
  · rw [pay2 p.1, pay2 q.1] at h
    simp only [List.cons_append, List.nil_append, List.cons.injEq] at h
    exact ⟨eta _ _ hk (by omega) ((empty_of p.2.2).trans (empty_of q.2.2).symm), h.2⟩
  · rw [pay3 p.1, pay3 q.1] at h
    simp only [List.cons_append, List.cons.injEq] at h
    obtain ⟨h1, h2⟩ := h
    obtain ⟨h3, h4⟩ := append_inj_len h2 (by rw [bytesOf_length, bytesOf_length]; omega)
    exact ⟨eta _ _ hk (by omega) (bytesOf_inj h3), h4⟩

/-! ### the head -/
/-- The kind at a place. -/
def kd (l : List S25) (q : Nat) : Int := (l.getD q z25).f0
/-- One byte of the head, of the kinds before place i. -/
def hb (κ : Nat → Int) (i j : Nat) : Int := (if 4 * j < i then κ (4 * j) else 0) + 4 * (if 4 * j + 1 < i then κ (4 * j + 1) else 0) + 16 * (if 4 * j + 2 < i then κ (4 * j + 2) else 0) + 64 * (if 4 * j + 3 < i then κ (4 * j + 3) else 0)
def hdr (κ : Nat → Int) (i m : Nat) : List Int := (List.range m).map (hb κ i)
theorem hdr_length (κ : Nat → Int) (i m : Nat) : (hdr κ i m).length = m := by simp [hdr]
theorem hdr_get {κ : Nat → Int} {i m j : Nat} (h : j < m) : (hdr κ i m)[j]? = some (hb κ i j) := by
  simp [hdr, h]
theorem rd_hdr {κ : Nat → Int} {i m j : Nat} (h : j < m) : rd (hdr κ i m) (j : Int) = hb κ i j := by
  unfold rd
  rw [List.getD_eq_getElem?_getD, Int.toNat_natCast, hdr_get h]; rfl
theorem hdr_zero (κ : Nat → Int) (m : Nat) : hdr κ 0 m = List.replicate m 0 := by
  apply List.ext_getElem?
  intro j
  by_cases h : j < m
  · rw [hdr_get h, List.getElem?_replicate, if_pos h]; simp [hb]
  · rw [List.getElem?_eq_none (by rw [hdr_length]; omega), List.getElem?_eq_none (by rw [List.length_replicate]; omega)]
theorem hb_range {κ : Nat → Int} (hκ : ∀ q, 0 ≤ κ q ∧ κ q ≤ 3) (i j : Nat) : 0 ≤ hb κ i j ∧ hb κ i j < 256 := by
  unfold hb
  have h0 := hκ (4 * j)
  have h1 := hκ (4 * j + 1)
  have h2 := hκ (4 * j + 2)
  have h3 := hκ (4 * j + 3)
  split <;> split <;> split <;> split <;> omega
theorem hdr_bytes {κ : Nat → Int} (hκ : ∀ q, 0 ≤ κ q ∧ κ q ≤ 3) (i m : Nat) : Bytes (hdr κ i m) := fun x hx => by
  simp only [hdr, List.mem_map] at hx
  obtain ⟨j, _, rfl⟩ := hx
  exact hb_range hκ i j
/-- What the place adds. -/
def put (κ : Nat → Int) (i : Nat) : Int := κ i * 4 ^ (i % 4)
theorem pow4 (r : Nat) (h : r < 4) : ((4 : Int) ^ r = 1 ∧ r = 0) ∨ ((4 : Int) ^ r = 4 ∧ r = 1) ∨ ((4 : Int) ^ r = 16 ∧ r = 2) ∨ ((4 : Int) ^ r = 64 ∧ r = 3) := by
  have : r = 0 ∨ r = 1 ∨ r = 2 ∨ r = 3 := by omega
  rcases this with rfl | rfl | rfl | rfl <;> simp
theorem hb_step (κ : Nat → Int) (i : Nat) : hb κ (i + 1) (i / 4) = hb κ i (i / 4) + put κ i := by
  unfold hb put
  have hi : i = 4 * (i / 4) + i % 4 := by omega
  generalize i / 4 = j at hi ⊢
  rcases pow4 (i % 4) (by omega) with ⟨e, r⟩ | ⟨e, r⟩ | ⟨e, r⟩ | ⟨e, r⟩ <;> rw [e] <;> rw [r] at hi <;> subst hi
  · rw [if_pos (by omega), if_neg (by omega), if_neg (by omega), if_neg (by omega), if_neg (by omega), if_neg (by omega), if_neg (by omega), if_neg (by omega)]
    simp only [Nat.add_zero]; omega
  · rw [if_pos (by omega), if_pos (by omega), if_neg (by omega), if_neg (by omega), if_pos (by omega), if_neg (by omega), if_neg (by omega), if_neg (by omega)]
    omega
  · rw [if_pos (by omega), if_pos (by omega), if_pos (by omega), if_neg (by omega), if_pos (by omega), if_pos (by omega), if_neg (by omega), if_neg (by omega)]
    omega
  · rw [if_pos (by omega), if_pos (by omega), if_pos (by omega), if_pos (by omega), if_pos (by omega), if_pos (by omega), if_pos (by omega), if_neg (by omega)]
    omega
theorem hb_other (κ : Nat → Int) (i j : Nat) (h : j ≠ i / 4) : hb κ (i + 1) j = hb κ i j := by
  unfold hb
  have a : ∀ r, r < 4 → ((4 * j + r < i + 1) = (4 * j + r < i)) := fun r hr => propext (by omega)
  have a0 := a 0 (by omega)
  simp only [Nat.add_zero] at a0
  simp only [a0, a 1 (by omega), a 2 (by omega), a 3 (by omega)]
theorem hdr_set (κ : Nat → Int) (i m : Nat) (h : i / 4 < m) : (hdr κ i m).set (i / 4) (hb κ i (i / 4) + put κ i) = hdr κ (i + 1) m := by
  apply List.ext_getElem?
  intro j
  by_cases hj : j < m
  · rw [hdr_get hj, List.getElem?_set]
    by_cases e : i / 4 = j
    · subst e
      rw [if_pos rfl, if_pos (by rw [hdr_length]; exact h), hb_step]
    · rw [if_neg e, hdr_get hj, hb_other κ i j (fun q => e q.symm)]
  · rw [List.getElem?_eq_none (by rw [List.length_set, hdr_length]; omega), List.getElem?_eq_none (by rw [hdr_length]; omega)]
theorem hb_low {κ : Nat → Int} (hκ : ∀ q, 0 ≤ κ q ∧ κ q ≤ 3) (i : Nat) : hb κ i (i / 4) < 4 ^ (i % 4) := by
  unfold hb
  have hi : i = 4 * (i / 4) + i % 4 := by omega
  generalize i / 4 = j at hi ⊢
  have h0 := hκ (4 * j)
  have h1 := hκ (4 * j + 1)
  have h2 := hκ (4 * j + 2)
  have h3 := hκ (4 * j + 3)
  rcases pow4 (i % 4) (by omega) with ⟨e, r⟩ | ⟨e, r⟩ | ⟨e, r⟩ | ⟨e, r⟩ <;> rw [e] <;> rw [r] at hi <;> subst hi <;> split <;> split <;> split <;> split <;> omega
/-- The place's two bits of a byte. -/
def dig (x : Int) (r : Nat) : Int := x / 4 ^ r % 4
theorem dig_hb {κ : Nat → Int} (hκ : ∀ q, 0 ≤ κ q ∧ κ q ≤ 3) {i q : Nat} (h : q < i) : dig (hb κ i (q / 4)) (q % 4) = κ q := by
  unfold hb dig
  have hi : q = 4 * (q / 4) + q % 4 := by omega
  generalize q / 4 = j at hi ⊢
  have h0 := hκ (4 * j)
  have h1 := hκ (4 * j + 1)
  have h2 := hκ (4 * j + 2)
  have h3 := hκ (4 * j + 3)
  rcases pow4 (q % 4) (by omega) with ⟨e, r⟩ | ⟨e, r⟩ | ⟨e, r⟩ | ⟨e, r⟩ <;> rw [e] <;> rw [r] at hi <;> subst hi <;> (try simp only [Nat.add_zero] at h ⊢) <;> repeat' (first | omega | split)
/-- A byte is its four pairs of bits. -/
theorem byte_digs {x : Int} (h0 : 0 ≤ x) (h1 : x < 256) : x = dig x 0 + 4 * dig x 1 + 16 * dig x 2 + 64 * dig x 3 := by
  unfold dig
  simp only [show ((4 : Int) ^ 0) = 1 from rfl, show ((4 : Int) ^ 1) = 4 from rfl, show ((4 : Int) ^ 2) = 16 from rfl, show ((4 : Int) ^ 3) = 64 from rfl]
  omega
theorem dig_range (x : Int) (r : Nat) : 0 ≤ dig x r ∧ dig x r ≤ 3 := by unfold dig; omega
/-- The bits behind the last kind are clear. -/
def Trail (H : List Int) (n : Nat) : Prop := n % 4 > 0 → rd H ((n / 4 : Nat) : Int) / 4 ^ (n % 4) = 0
theorem hdr_trail {κ : Nat → Int} (hκ : ∀ q, 0 ≤ κ q ∧ κ q ≤ 3) {n m : Nat} (hm : m = (n + 3) / 4) : Trail (hdr κ n m) n := by
  intro hn
  rw [rd_hdr (by omega)]
  have h1 := hb_low hκ n
  have h2 := (hb_range hκ n (n / 4)).1
  exact Int.ediv_eq_zero_of_lt h2 h1
theorem pick {c : Prop} [Decidable c] {a x : Int} (h : c → a = x) (h' : ¬ c → x = 0) : (if c then a else 0) = x := by
  split
  · exact h (by assumption)
  · exact (h' (by assumption)).symm
theorem hdr_of {H : List Int} (hb' : Bytes H) {n m : Nat} (hm : m = (n + 3) / 4) (hl : H.length = m) (ht : Trail H n) {κ : Nat → Int} (hκ : ∀ q, q < n → κ q = dig (rd H ((q / 4 : Nat) : Int)) (q % 4)) : H = hdr κ n m := by
  apply List.ext_getElem?
  intro j
  by_cases hj : j < m
  · have hg : H[j]? = some (rd H (j : Int)) := by
      unfold rd
      rw [List.getD_eq_getElem?_getD, Int.toNat_natCast, List.getElem?_eq_getElem (by omega)]; rfl
    rw [hdr_get hj, hg]
    congr 1
    have hx := rd_range hb' (j : Int)
    have key : ∀ r, r < 4 → 4 * j + r < n → κ (4 * j + r) = dig (rd H (j : Int)) r := fun r hr h => by
      have := hκ (4 * j + r) h
      rwa [show (4 * j + r) / 4 = j from by omega, show (4 * j + r) % 4 = r from by omega] at this
    have k0 := key 0 (by omega)
    have k1 := key 1 (by omega)
    have k2 := key 2 (by omega)
    have k3 := key 3 (by omega)
    simp only [Nat.add_zero] at k0
    have tr : ∀ r, r < 4 → ¬ 4 * j + r < n → dig (rd H (j : Int)) r = 0 := fun r hr h => by
      have e : j = n / 4 := by omega
      have := ht (by omega)
      rw [← e] at this
      unfold dig
      have hle : n % 4 ≤ r := by omega
      have hd : rd H (j : Int) / 4 ^ r = 0 := by
        have e2 : (4 : Int) ^ r = 4 ^ (n % 4) * 4 ^ (r - n % 4) := by rw [← Int.pow_add, Nat.add_sub_cancel' hle]
        rw [e2, ← Int.ediv_ediv_of_nonneg (by have := pow4 (n % 4) (by omega); omega), this]
        exact Int.zero_ediv _
      rw [hd]; rfl
    have t0 := tr 0 (by omega)
    have t1 := tr 1 (by omega)
    have t2 := tr 2 (by omega)
    have t3 := tr 3 (by omega)
    simp only [Nat.add_zero] at t0
    have hsum := byte_digs hx.1 hx.2
    unfold hb
    rw [show (if 4 * j < n then κ (4 * j) else 0) = dig (rd H (j : Int)) 0 from pick k0 t0]
    rw [show (if 4 * j + 1 < n then κ (4 * j + 1) else 0) = dig (rd H (j : Int)) 1 from pick k1 t1]
    rw [show (if 4 * j + 2 < n then κ (4 * j + 2) else 0) = dig (rd H (j : Int)) 2 from pick k2 t2]
    rw [show (if 4 * j + 3 < n then κ (4 * j + 3) else 0) = dig (rd H (j : Int)) 3 from pick k3 t3]
    exact hsum
  · rw [List.getElem?_eq_none (by omega), List.getElem?_eq_none (by rw [hdr_length]; omega)]

/-! ### a row's text -/
def hm (n : Nat) : Nat := (n + 3) / 4
def enc (l : List S25) : List Int := (l.length : Int) :: (hdr (kd l) l.length (hm l.length) ++ l.flatMap pay)
def OK (l : List S25) : Prop := l.length ≤ 16 ∧ ∀ v ∈ l, right v = true
theorem kd_range {l : List S25} (h : ∀ v ∈ l, right v = true) (q : Nat) : 0 ≤ kd l q ∧ kd l q ≤ 3 := by
  unfold kd
  by_cases hq : q < l.length
  · rw [List.getD_eq_getElem?_getD, List.getElem?_eq_getElem hq]
    exact right_kind (h _ (List.getElem_mem hq))
  · rw [List.getD_eq_getElem?_getD, List.getElem?_eq_none (by omega)]
    exact ⟨by decide, by decide⟩
theorem pays_bytes (l : List S25) : Bytes (l.flatMap pay) := fun x hx => by
  obtain ⟨v, _, hv⟩ := List.mem_flatMap.1 hx
  exact pay_bytes v x hv
theorem enc_bytes {l : List S25} (h : OK l) : Bytes (enc l) := Bytes.cons (by omega) (by have := h.1; omega) (Bytes.append (hdr_bytes (kd_range h.2) _ _) (pays_bytes l))
/-- The values go on with the kinds told. -/
def Fits (κ : Nat → Int) : Nat → List S25 → Prop
  | _, [] => True
  | i, v :: M => right v = true ∧ v.f0 = κ i ∧ Fits κ (i + 1) M
theorem Fits.right {κ : Nat → Int} : ∀ {i : Nat} {M : List S25}, Fits κ i M → ∀ v ∈ M, right v = true
  | i, [], _, v, hv => by cases hv
  | i, u :: M, h, v, hv => by
    rcases List.mem_cons.1 hv with rfl | hv
    · exact h.1
    · exact Fits.right h.2.2 v hv
theorem Fits.kind {κ : Nat → Int} : ∀ {i : Nat} {M : List S25}, Fits κ i M → ∀ q, q < M.length → kd M q = κ (i + q)
  | i, [], _, q, hq => by simp at hq
  | i, u :: M, h, 0, hq => h.2.1
  | i, u :: M, h, q + 1, hq => by
    have := Fits.kind h.2.2 q (by simpa using hq)
    show kd M q = _
    rw [this]; congr 1; omega
theorem Fits.of {κ : Nat → Int} : ∀ {i : Nat} {M : List S25}, (∀ v ∈ M, PS.right v = true) → (∀ q, q < M.length → kd M q = κ (i + q)) → Fits κ i M
  | i, [], _, _ => trivial
  | i, u :: M, h, hk => ⟨h u (List.mem_cons_self ..), hk 0 (by simp), Fits.of (fun v hv => h v (List.mem_cons_of_mem _ hv)) (fun q hq => by
      have := hk (q + 1) (by simpa using hq)
      rw [show i + 1 + q = i + (q + 1) from by omega, ← this]; rfl)⟩
theorem fits_inj {κ : Nat → Int} : ∀ {i : Nat} {M N : List S25}, Fits κ i M → Fits κ i N → M.length = N.length → ∀ {a b : List Int}, M.flatMap pay ++ a = N.flatMap pay ++ b → M = N ∧ a = b
  | i, [], [], _, _, _, a, b, h => ⟨rfl, h⟩
  | i, [], u :: N, _, _, hl, a, b, h => by simp at hl
  | i, u :: M, [], _, _, hl, a, b, h => by simp at hl
  | i, u :: M, v :: N, hM, hN, hl, a, b, h => by
    rw [List.flatMap_cons, List.flatMap_cons, List.append_assoc, List.append_assoc] at h
    obtain ⟨rfl, h2⟩ := pay_inj hM.1 hN.1 (hM.2.1.trans hN.2.1.symm) h
    obtain ⟨rfl, h3⟩ := fits_inj hM.2.2 hN.2.2 (by simpa using hl) h2
    exact ⟨rfl, h3⟩
/-- No row's text is the beginning of another's. -/
theorem enc_inj {l m : List S25} (hl : OK l) (hm' : OK m) {a b : List Int} (h : enc l ++ a = enc m ++ b) : l = m ∧ a = b := by
  unfold enc at h
  simp only [List.cons_append, List.cons.injEq, List.append_assoc] at h
  obtain ⟨h1, h2⟩ := h
  have hn : l.length = m.length := by omega
  obtain ⟨h3, h4⟩ := append_inj_len h2 (by rw [hdr_length, hdr_length, hn])
  rw [← hn] at h3
  have hk : ∀ q, q < l.length → kd m q = kd l q := fun q hq => by
    rw [← dig_hb (kd_range hl.2) hq, ← dig_hb (kd_range hm'.2) hq]
    have : rd _ ((q / 4 : Nat) : Int) = rd _ ((q / 4 : Nat) : Int) := congrArg (fun H => rd H ((q / 4 : Nat) : Int)) h3
    rw [rd_hdr (by unfold hm; omega), rd_hdr (by unfold hm; omega)] at this
    rw [this]
  exact fits_inj (κ := kd l) (i := 0) (Fits.of hl.2 fun q hq => by rw [Nat.zero_add]) (Fits.of hm'.2 fun q hq => by rw [Nat.zero_add]; exact hk q (by omega)) hn h4
end Go.Proofs.Ytlgobbofiingnaa.PS
