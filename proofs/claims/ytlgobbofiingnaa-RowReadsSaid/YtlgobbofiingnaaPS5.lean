/- What the reference's reader of rows comes to: the same as the program's; no program's steps in sight; no conditions beyond those in each theorem's head. -/
import Derived.Test.YtlgobbofiingnaaPS3
import Derived.Test.YtlgobbofiingnaaPS4
import Derived.Test.YtlgobbofiingnaaPAx12
import Derived.Test.YtlgobbofiingnaaPAx13
namespace Go.Proofs.Ytlgobbofiingnaa.PS
open Go.RowKit Go.Proofs.YtlgobbofiingnaaW.PrintWords Go.Proofs.YtlgobbofiingnaaW.PrintLast Go.Proofs.YtlgobbofiingnaaW.PrintMore Go.Proofs.YtlgobbofiingnaaX Go.Proofs.YtlgobbofiingnaaL Go.Proofs.Ytlgobbofiingnaa.PA
set_option linter.unusedVariables false
set_option linter.unusedSimpArgs false

theorem wrap_u64_nat {m : Nat} (h : m < 18446744073709551616) : IntKind.u64.wrap (m : Int) = (m : Int) := wraps_u64 _ (by omega) (by omega)
theorem ref_unzig {x : Nat} (h : x < 18446744073709551616) : (Int.tmod (x : Int) 2 = 1 → wrap64 ((wrap64 (-(wrap64 (IntKind.u64.wrap (Int.tdiv (x : Int) 2))))) - 1) = unzig x) ∧ (¬ Int.tmod (x : Int) 2 = 1 → wrap64 (IntKind.u64.wrap (Int.tdiv (x : Int) 2)) = unzig x) := by
  rw [Int.tmod_eq_emod_of_nonneg (by omega), Int.tdiv_eq_ediv_of_nonneg (by omega), wrap_u64]
  unfold unzig
  constructor
  · intro o
    rw [if_pos (by omega)]
    unfold wrap64; omega
  · intro o
    rw [if_neg (by omega)]
    unfold wrap64; omega
theorem acc_add {acc c j : Nat} (hj : j ≤ 9) (hc : c < 128) (h : acc + c * 2 ^ (7 * j) < 18446744073709551616) : IntKind.u64.wrap ((acc : Int) + (shl .u64 (IntKind.u64.wrap (c : Int)) ((7 * j : Nat) : Int))) = ((acc + c * 2 ^ (7 * j) : Nat) : Int) := by
  have e : shl .u64 (IntKind.u64.wrap (c : Int)) ((7 * j : Nat) : Int) = ((c * 2 ^ (7 * j) : Nat) : Int) := by
    unfold shl
    rw [wrap_u64_nat (by omega), Int.toNat_natCast, show IntKind.u64.bits = 64 from rfl, Nat.min_eq_left (by omega)]
    have e3 : (c : Int) * 2 ^ (7 * j) = ((c * 2 ^ (7 * j) : Nat) : Int) := by rw [Int.natCast_mul, Int.natCast_pow]; rfl
    rw [e3]
    exact wrap_u64_nat (by omega)
  rw [e, ← Int.natCast_add]
  exact wrap_u64_nat h
theorem ref_number_loop (s : ByteArray) : ∀ (d j : Nat), j + d = 10 → j ≤ s.size → ∀ k, 2 * d + 4 ≤ k → ∀ (acc : Int),
    ∃ v pos, unisonref03_ReadNumber.l0 k s acc ((7 * j : Nat) : Int) (j : Int) = some (v, pos) ∧ 0 ≤ pos ∧ pos ≤ (s.size : Int) ∧
      ∀ (a m : Nat) t, acc = (a : Int) → a + m * 2 ^ (7 * j) < 18446744073709551616 → (0 < j → 0 < m) → (bytesOf s).drop j = vi m ++ t → v = unzig (a + m * 2 ^ (7 * j)) ∧ pos = ((j + (vi m).length : Nat) : Int) := by
  intro d
  induction d with
  | zero =>
    intro j hj hjs k hk acc
    obtain ⟨k, rfl⟩ : ∃ q, k = q + 1 + 1 := ⟨k - 2, by omega⟩
    obtain rfl : j = 10 := by omega
    rw [unisonref03_ReadNumber.l0]
    have end_ : ∀ v : Int, ∃ v' pos : Int, some (v, ((10 : Nat) : Int)) = some (v', pos) ∧ 0 ≤ pos ∧ pos ≤ (s.size : Int) ∧
      ∀ (a m : Nat) t, acc = (a : Int) → a + m * 2 ^ (7 * 10) < 18446744073709551616 → (0 < 10 → 0 < m) → (bytesOf s).drop 10 = vi m ++ t → v' = unzig (a + m * 2 ^ (7 * 10)) ∧ pos = ((10 + (vi m).length : Nat) : Int) :=
      fun v => ⟨v, _, rfl, by omega, by omega, fun a m t _ h h0 _ => by have := h0 (by omega); omega⟩
    by_cases h : ((10 : Nat) : Int) < (s.size : Int)
    · rw [if_pos h, show decide (((10 : Nat) : Int) < 10) = false from rfl, unisonref03_ReadNumber.j1, if_neg (by simp)]
      split <;> exact end_ _
    · rw [if_neg h, unisonref03_ReadNumber.j1, if_neg (by simp)]
      split <;> exact end_ _
  | succ d ih =>
    intro j hj hjs k hk acc
    obtain ⟨k, rfl⟩ : ∃ q, k = q + 1 + 1 := ⟨k - 2, by omega⟩
    rw [unisonref03_ReadNumber.l0]
    by_cases h : (j : Int) < (s.size : Int)
    · rw [if_pos h, decide_eq_true (by omega), unisonref03_ReadNumber.j1, if_pos rfl, if_pos (by omega), if_pos h, if_pos (by omega)]
      have e1 : wrap64 ((j : Int) + 1) = ((j + 1 : Nat) : Int) := by rw [wrap64_of (by omega) (by omega)]; omega
      have e2 : wrap64 (((j + 1 : Nat) : Int) - 1) = (j : Int) := by rw [wrap64_of (by omega) (by omega)]; omega
      have e3 : wrap64 (((7 * j : Nat) : Int) + 7) = ((7 * (j + 1) : Nat) : Int) := by rw [wrap64_of (by omega) (by omega)]; omega
      rw [e1, e2, e3, if_pos (by omega), if_pos h, bt_eq]
      have hx := rd_range (bytesOf_bytes s) (j : Int)
      have hdrop : (bytesOf s).drop j = rd (bytesOf s) (j : Int) :: (bytesOf s).drop (j + 1) := by
        rw [rd_get (by rw [Int.toNat_natCast, bytesOf_length]; omega)]
        simp only [Int.toNat_natCast]
        exact List.drop_eq_getElem_cons (by rw [bytesOf_length]; omega)
      rw [Int.tmod_eq_emod_of_nonneg hx.1]
      generalize rd (bytesOf s) (j : Int) = x at hx hdrop ⊢
      have hc : x % 128 = ((x.toNat % 128 : Nat) : Int) := by omega
      rw [hc]
      by_cases hb : x < 128
      · rw [if_pos hb]
        have fin : ∀ v : Int, (∀ a m : Nat, acc = (a : Int) → a + m * 2 ^ (7 * j) < 18446744073709551616 → m = x.toNat % 128 → v = unzig (a + m * 2 ^ (7 * j))) → ∃ v' pos : Int, some (v, ((j + 1 : Nat) : Int)) = some (v', pos) ∧ 0 ≤ pos ∧ pos ≤ (s.size : Int) ∧
            ∀ (a m : Nat) t, acc = (a : Int) → a + m * 2 ^ (7 * j) < 18446744073709551616 → (0 < j → 0 < m) → (bytesOf s).drop j = vi m ++ t → v' = unzig (a + m * 2 ^ (7 * j)) ∧ pos = ((j + (vi m).length : Nat) : Int) :=
          fun v hv => ⟨v, _, rfl, by omega, by omega, fun a m t ha hl h0 hd => by
            rw [hdrop] at hd
            obtain ⟨p1, p2, p3⟩ := vi_head_small hd hb
            exact ⟨hv a m ha hl (by omega), by rw [vi_small p2]; rfl⟩⟩
        by_cases ho : Int.tmod (IntKind.u64.wrap (acc + shl .u64 (IntKind.u64.wrap ((x.toNat % 128 : Nat) : Int)) ((7 * j : Nat) : Int))) 2 = 1
        · rw [if_pos ho]
          refine fin _ fun a m ha hl hm => ?_
          subst ha hm
          rw [acc_add (by omega) (by omega) hl] at ho ⊢
          exact (ref_unzig hl).1 ho
        · rw [if_neg ho]
          refine fin _ fun a m ha hl hm => ?_
          subst ha hm
          rw [acc_add (by omega) (by omega) hl] at ho ⊢
          exact (ref_unzig hl).2 ho
      · rw [if_neg hb]
        obtain ⟨v, pos, g1, g2, g3, g4⟩ := ih (j + 1) (by omega) (by omega) k (by omega) (IntKind.u64.wrap (acc + shl .u64 (IntKind.u64.wrap ((x.toNat % 128 : Nat) : Int)) ((7 * j : Nat) : Int)))
        refine ⟨v, pos, g1, g2, g3, fun a m t ha hl h0 hd => ?_⟩
        rw [hdrop] at hd
        obtain ⟨p1, p2, p3⟩ := vi_head_big hd hb
        have key : a + x.toNat % 128 * 2 ^ (7 * j) + m / 128 * 2 ^ (7 * (j + 1)) = a + m * 2 ^ (7 * j) := by
          rw [p_next, Nat.mul_left_comm, ← Nat.mul_assoc, Nat.add_assoc, ← Nat.add_mul, show x.toNat % 128 + 128 * (m / 128) = m from by omega]
        have hl2 : a + x.toNat % 128 * 2 ^ (7 * j) < 18446744073709551616 := by omega
        subst ha
        obtain ⟨r1, r2⟩ := g4 (a + x.toNat % 128 * 2 ^ (7 * j)) (m / 128) t (acc_add (by omega) (by omega) hl2) (by omega) (fun _ => by omega) p3
        rw [key] at r1
        exact ⟨r1, by rw [r2, vi_big p1, List.length_cons]; omega⟩
    · rw [if_neg h, unisonref03_ReadNumber.j1, if_neg (by simp)]
      have hnil : (bytesOf s).drop j = [] := List.drop_eq_nil_of_le (by rw [bytesOf_length]; omega)
      split <;> exact ⟨_, _, rfl, by omega, by omega, fun a m t _ _ _ hd => by rw [hnil] at hd; exact (nil_vi hd).elim⟩
theorem ref_read_number (s : ByteArray) {k : Nat} (hk : 24 ≤ k) : ∃ v pos, unisonref03_ReadNumber.f k s = some (v, pos) ∧ 0 ≤ pos ∧ pos ≤ (s.size : Int) ∧
    ∀ (u : Int) t, zig u < 18446744073709551616 → bytesOf s = vi (zig u) ++ t → v = u ∧ pos = (((vi (zig u)).length : Nat) : Int) := by
  unfold unisonref03_ReadNumber.f
  obtain ⟨v, pos, g1, g2, g3, g4⟩ := ref_number_loop s 10 0 (by omega) (by omega) k (by omega) 0
  refine ⟨v, pos, g1, g2, g3, fun u t hu hs => ?_⟩
  obtain ⟨r1, r2⟩ := g4 0 (zig u) t rfl (by simp; exact hu) (by omega) hs
  simp only [Nat.mul_zero, Nat.pow_zero, Nat.mul_one, Nat.zero_add] at r1 r2
  rw [unzig_zig] at r1
  exact ⟨r1, r2⟩
theorem encR_ok {L : List S25} {s : List Int} (h : OK L) (hs : s = enc L) : encR L = (strOfNums s, 0) := by
  unfold encR; rw [if_neg (by have := h.1; omega), if_pos h.2, hs]
theorem encR_zero {L : List S25} (h : (encR L).2 = 0) : OK L ∧ (encR L).1 = strOfNums (enc L) := by
  unfold encR at h ⊢
  by_cases h16 : L.length > 16
  · rw [if_pos h16] at h; simp at h
  · rw [if_neg h16] at h ⊢
    by_cases hr : ∀ v ∈ L, right v = true
    · rw [if_pos hr] at h ⊢; exact ⟨⟨by omega, hr⟩, rfl⟩
    · rw [if_neg hr] at h; simp at h
/-- The kinds that a text's head tells. -/
def kd2 (s : List Int) (q : Nat) : Int := dig (rd s ((1 + q / 4 : Nat) : Int)) (q % 4)
theorem w_head {i : Nat} (h : i ≤ 16) : wrap64 (1 + wrap64 ((i : Int) / 4)) = ((1 + i / 4 : Nat) : Int) := by rw [wrap64_of (n := (i : Int) / 4) (by omega) (by omega), wrap64_of (by omega) (by omega)]; omega
theorem w_bits {i : Nat} (h : i ≤ 16) : wrap64 (2 * ((i : Int) % 4)) = ((i % 4 * 2 : Nat) : Int) := by rw [wrap64_of (by omega) (by omega)]; omega
theorem w_next {i : Nat} (h : i ≤ 16) : wrap64 ((i : Int) + 1) = ((i + 1 : Nat) : Int) := by rw [wrap64_of (by omega) (by omega)]; omega
theorem ref_dec_loop (s : ByteArray) (n : Nat) (hn : n ≤ 16) (hl : 1 + hm n ≤ s.size) : ∀ (d i : Nat), i + d = n → ∀ k, 2 * d + 60 ≤ k → ∀ (L : List S25) (r : ByteArray), L.length = i →
    ∃ R e, unisonref03_Decode.l0 k s (n : Int) r L (i : Int) = some (R, e) ∧
      ((e = 0 ∧ OK R ∧ bytesOf s = enc R) ∨
       (R = [] ∧ e = 30 ∧ ∀ M, M.length = d → Fits (kd2 (bytesOf s)) i M → bytesOf r = M.flatMap pay → OK (L ++ M) → bytesOf s = enc (L ++ M) → False)) := by
  intro d
  induction d with
  | zero =>
    intro i hi k hk L r hL
    obtain ⟨k, rfl⟩ : ∃ j, k = j + 1 := ⟨k - 1, by omega⟩
    obtain rfl : i = n := by omega
    rw [unisonref03_Decode.l0, if_neg (by omega), encode_ref L (by omega), some_bind]
    have no : ((encR L).2 = 0 → (encR L).1 = s → False) → ∀ M : List S25, M.length = 0 → Fits (kd2 (bytesOf s)) i M → bytesOf r = M.flatMap pay → OK (L ++ M) → bytesOf s = enc (L ++ M) → False := fun hno M hM _ _ hok hs => by
      rw [List.eq_nil_of_length_eq_zero hM, List.append_nil] at hok hs
      have := encR_ok hok hs
      exact hno (by rw [this]) (by rw [this]; exact strOfNums_bytesOf s)
    by_cases h0 : (encR L).2 = 0
    · rw [if_pos h0]
      by_cases hs : (encR L).1.toList = s.toList
      · rw [if_pos hs]
        obtain ⟨h1, h2⟩ := encR_zero h0
        exact ⟨_, _, rfl, .inl ⟨rfl, h1, by rw [← toList_inj.1 hs, h2, bytesOf_strOfNums (enc_bytes h1)]⟩⟩
      · rw [if_neg hs]
        exact ⟨_, _, rfl, .inr ⟨rfl, rfl, no fun _ h => hs (toList_inj.2 h)⟩⟩
    · rw [if_neg h0]
      exact ⟨_, _, rfl, .inr ⟨rfl, rfl, no fun h _ => h0 h⟩⟩
  | succ d ih =>
    intro i hi k hk L r hL
    obtain ⟨k, rfl⟩ : ∃ j, k = j + 1 + 1 := ⟨k - 2, by omega⟩
    rw [unisonref03_Decode.l0, if_pos (by omega)]
    rw [Int.tmod_eq_emod_of_nonneg (a := (i : Int)) (by omega), Int.tdiv_eq_ediv_of_nonneg (by omega)]
    have hx := rd_range (bytesOf_bytes s) ((1 + i / 4 : Nat) : Int)
    have hy := div_range hx.1 hx.2 (i % 4) (by omega)
    rw [w_head (by omega), w_bits (by omega),
      if_pos (by omega), if_pos (by unfold hm at hl; omega), if_pos (by omega), bt_eq, shr_dig hx.1 hx.2 _ (by omega), wrap64_of (n := rd (bytesOf s) ((1 + i / 4 : Nat) : Int) / 4 ^ (i % 4)) (by omega) (by omega), Int.tmod_eq_emod_of_nonneg hy.1]
    have hκ : rd (bytesOf s) ((1 + i / 4 : Nat) : Int) / 4 ^ (i % 4) % 4 = kd2 (bytesOf s) i := rfl
    have hr := dig_range (rd (bytesOf s) ((1 + i / 4 : Nat) : Int)) (i % 4)
    have hr' : 0 ≤ kd2 (bytesOf s) i ∧ kd2 (bytesOf s) i ≤ 3 := hr
    rw [hκ, w_next (by omega)]
    have next : ∀ (v : S25) (r' : ByteArray) (k' : Nat), 2 * d + 60 ≤ k' → (∀ (u : S25) t, right u = true → u.f0 = kd2 (bytesOf s) i → bytesOf r = pay u ++ t → u = v ∧ bytesOf r' = t) →
        ∃ R e, unisonref03_Decode.l0 k' s (n : Int) r' (L ++ [v]) ((i + 1 : Nat) : Int) = some (R, e) ∧
          ((e = 0 ∧ OK R ∧ bytesOf s = enc R) ∨
           (R = [] ∧ e = 30 ∧ ∀ M, M.length = d + 1 → Fits (kd2 (bytesOf s)) i M → bytesOf r = M.flatMap pay → OK (L ++ M) → bytesOf s = enc (L ++ M) → False)) := fun v r' k' hk' hv => by
      obtain ⟨R, e, g1, g2⟩ := ih (i + 1) (by omega) k' hk' (L ++ [v]) r' (by rw [List.length_append, hL]; rfl)
      refine ⟨R, e, g1, ?_⟩
      rcases g2 with g2 | ⟨rfl, rfl, g2⟩
      · exact .inl g2
      · refine .inr ⟨rfl, rfl, fun M hM hF hr hok hs => ?_⟩
        cases M with
        | nil => simp at hM
        | cons u M =>
          obtain ⟨rfl, hr'⟩ := hv u (M.flatMap pay) hF.1 hF.2.1 hr
          rw [show L ++ u :: M = L ++ [u] ++ M from by simp] at hok hs
          exact g2 M (by simpa using hM) hF.2.2 hr' hok hs
    by_cases k1 : kd2 (bytesOf s) i = 1
    · rw [if_pos k1]
      obtain ⟨v, pos, g1, g2, g3, g4⟩ := ref_read_number r (k := k + 1) (by omega)
      rw [g1, some_bind, if_pos g2, if_pos g3, if_pos (by omega)]
      refine next _ _ _ (by omega) fun u t hu hk' hs => ?_
      rw [k1] at hk'
      have q := (right_iff u).1 hu
      rw [pay1 hk'] at hs
      have := zig_small (n := u.f1) (by omega) (by omega)
      obtain ⟨e1, e2⟩ := g4 u.f1 t (by omega) hs
      refine ⟨eta _ _ (hk'.trans k1.symm) e1.symm (empty_of (by omega)), ?_⟩
      rw [bytesOf_extract_to_end, hs]
      simp only [e2, Int.toNat_natCast, List.drop_left]
    · rw [if_neg k1]
      by_cases k2 : kd2 (bytesOf s) i = 2
      · rw [if_pos k2]
        cases hb : bytesOf r with
        | nil =>
          have hz := bytesOf_eq_nil.1 hb
          rw [if_neg (by omega), if_pos (by omega), if_pos (by omega), ← hb]
          refine next _ _ _ (by omega) fun u t hu hk' hs => ?_
          rw [hb, pay2 (hk'.trans k2)] at hs
          simp at hs
        | cons x t =>
          have hsz := size_of hb
          have hxr := head_range hb
          rw [if_pos (by omega), if_pos (by omega), if_pos (by omega), if_pos (by omega), bt_eq, hb, show rd (x :: t) 0 = x from rfl, wrap64_of (n := x) (by omega) (by omega), ← hb]
          refine next _ _ _ (by omega) fun u t' hu hk' hs => ?_
          have q := (right_iff u).1 hu
          rw [hb, pay2 (hk'.trans k2), List.singleton_append, List.cons.injEq] at hs
          exact ⟨eta _ _ hk' (show u.f1 = x by omega) (empty_of (by omega)), by rw [tail_of hb]; exact hs.2⟩
      · rw [if_neg k2]
        by_cases k3 : kd2 (bytesOf s) i = 3
        · rw [if_pos k3]
          cases hb : bytesOf r with
          | nil =>
            have hz := bytesOf_eq_nil.1 hb
            rw [if_neg (by omega), unisonref03_Decode.j2, if_neg (by omega), if_neg (by omega), if_pos (by omega), if_pos (by omega), if_pos (by omega), w_next (by omega), ← hb]
            refine next _ _ _ (by omega) fun u t hu hk' hs => ?_
            rw [hb, pay3 (hk'.trans k3)] at hs
            simp at hs
          | cons x t =>
            have hsz := size_of hb
            have hxr := head_range hb
            rw [if_pos (by omega), if_pos (by omega), bt_eq, hb, show rd (x :: t) 0 = x from rfl, wrap64_of (n := x) (by omega) (by omega), wrap64_of (n := 1 + x) (by omega) (by omega), unisonref03_Decode.j2, w_next (by omega), ← hb]
            by_cases hc : 1 + x > (r.size : Int)
            · rw [if_pos hc, if_pos (by omega), if_pos (by omega), if_pos (by omega), if_pos (by omega), if_pos (by omega)]
              refine next _ _ _ (by omega) fun u t' hu hk' hs => ?_
              have q := (right_iff u).1 hu
              rw [hb, pay3 (hk'.trans k3), List.cons_append, List.cons.injEq] at hs
              have hl := congrArg List.length hs.2
              rw [List.length_append, bytesOf_length] at hl
              omega
            · rw [if_neg hc, if_pos (by omega), if_pos (by omega), if_pos (by omega), if_pos (by omega), if_pos (by omega)]
              refine next _ _ _ (by omega) fun u t' hu hk' hs => ?_
              have q := (right_iff u).1 hu
              rw [hb, pay3 (hk'.trans k3), List.cons_append, List.cons.injEq] at hs
              have hux : u.f2.size = x.toNat := by omega
              have ht : t = bytesOf u.f2 ++ t' := hs.2
              refine ⟨eta _ _ hk' (show u.f1 = 0 by omega) (bytesOf_inj ?_), ?_⟩
              · show bytesOf u.f2 = bytesOf (r.extract 1 (1 + x).toNat)
                rw [bytesOf_extract, hb, ht, List.drop_succ_cons, List.drop_zero, List.take_left' (by rw [bytesOf_length]; omega)]
              · rw [bytesOf_extract_to_end, hb, ht, show (1 + x).toNat = x.toNat + 1 from by omega, List.drop_succ_cons, List.drop_left' (by rw [bytesOf_length]; omega)]
        · rw [if_neg k3, if_pos (by omega), if_pos (by omega)]
          refine next _ _ _ (by omega) fun u t hu hk' hs => ?_
          have hk0 : u.f0 = 0 := by omega
          have q := (right_iff u).1 hu
          rw [pay0 hk0] at hs
          refine ⟨eta _ _ hk' (show u.f1 = 0 by omega) (empty_of (by omega)), ?_⟩
          rw [bytesOf_extract_front, List.take_of_length_le (by rw [bytesOf_length]; omega), hs]; rfl
theorem decode_ref (s : ByteArray) {k : Nat} (hk : 100 ≤ k) : ∃ R e, unisonref03_Decode.f k s = some (R, e) ∧ RowRd (bytesOf s) R e := by
  unfold unisonref03_Decode.f
  obtain ⟨k, rfl⟩ : ∃ j, k = j + 1 := ⟨k - 1, by omega⟩
  cases hs : bytesOf s with
  | nil =>
    have hz := bytesOf_eq_nil.1 hs
    rw [if_pos (by omega), unisonref03_Decode.j0, if_pos rfl]
    exact ⟨_, _, rfl, .inr ⟨rfl, rfl, fun M _ h => by unfold enc at h; cases h⟩⟩
  | cons x t =>
    have hx := head_range hs
    have hsz := size_of hs
    have hb0 : bt s 0 = x := by rw [bt_eq, hs]; rfl
    rw [if_neg (by omega), if_pos (by omega), hb0, wrap64_of (n := x) (by omega) (by omega)]
    by_cases h16 : x > 16
    · rw [if_pos h16, unisonref03_Decode.j0, if_pos rfl]
      refine ⟨_, _, rfl, .inr ⟨rfl, rfl, fun M hM h => ?_⟩⟩
      unfold enc at h
      rw [List.cons.injEq] at h
      have := hM.1
      omega
    · have em : wrap64 (1 + wrap64 (Int.tdiv (wrap64 (x + 3)) 4)) = ((1 + hm x.toNat : Nat) : Int) := by
        rw [wrap64_of (n := x + 3) (by omega) (by omega), Int.tdiv_eq_ediv_of_nonneg (by omega)]; unfold hm wrap64; omega
      rw [if_neg h16, em, unisonref03_Decode.j0]
      by_cases hc : (s.size : Int) < ((1 + hm x.toNat : Nat) : Int)
      · rw [decide_eq_true hc, if_pos rfl]
        refine ⟨_, _, rfl, .inr ⟨rfl, rfl, fun M hM h => ?_⟩⟩
        unfold enc at h
        rw [List.cons.injEq] at h
        have hl := congrArg List.length h.2
        rw [List.length_append, hdr_length, show M.length = x.toNat from by omega] at hl
        omega
      · rw [decide_eq_false hc, if_neg (by simp), if_pos (by omega), hb0, wrap64_of (n := x) (by omega) (by omega), em, if_pos (by omega), if_pos (by omega), Int.toNat_natCast]
        obtain ⟨R, e, g1, g2⟩ := ref_dec_loop s x.toNat (by omega) (by omega) x.toNat 0 (by omega) k (by omega) [] (s.extract (1 + hm x.toNat) s.size) rfl
        rw [Int.toNat_of_nonneg hx.1] at g1
        refine ⟨R, e, g1, ?_⟩
        rcases g2 with g2 | ⟨rfl, rfl, m⟩
        · rw [hs] at g2; exact .inl g2
        · refine .inr ⟨rfl, rfl, fun M hM h => ?_⟩
          have hH : (t.take (hm x.toNat)).length = hm x.toNat := by rw [List.length_take]; omega
          rw [← List.take_append_drop (hm x.toNat) t] at h
          obtain ⟨p1, p2, p3, p4⟩ := enc_parts hM hH h
          rw [List.take_append_drop] at h
          refine m M p1 ?_ ?_ hM (by rw [hs, h]; rfl)
          · refine Fits.of hM.2 fun q hq => ?_
            rw [p2.kind q hq, Nat.zero_add]
            unfold kds kd2
            rw [hs]
            congr 1
            unfold rd
            rw [Int.toNat_natCast, Int.toNat_natCast, Nat.add_comm 1, List.getD_cons_succ, List.getD_eq_getElem?_getD, List.getD_eq_getElem?_getD, List.getElem?_take_of_lt (by unfold hm; omega)]
          · rw [bytesOf_extract_to_end, hs, Nat.add_comm, List.drop_succ_cons]; exact p3
end Go.Proofs.Ytlgobbofiingnaa.PS
