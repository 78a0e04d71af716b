/- What the program reads of a key: just the values whose bytes it is; no program's steps in sight; no conditions beyond those in each theorem's head. -/
import Derived.Test.YtohknmlcleifpaaDoorPS2
import Derived.Test.YtohknmlcleifpaaDoorPAx5
namespace Go.Proofs.YtohknmlcleifpaaDoor.PS
open Go.RowKit Go.Proofs.YtohknmlcleifpaaDoorW.PrintWords Go.Proofs.YtohknmlcleifpaaDoorW.PrintLast Go.Proofs.YtohknmlcleifpaaDoorW.PrintMore Go.Proofs.YtohknmlcleifpaaDoorX Go.Proofs.YtohknmlcleifpaaDoorL Go.Proofs.YtohknmlcleifpaaDoor.PA
set_option linter.unusedVariables false
set_option linter.unusedSimpArgs false

/-! ### numbers, back -/
def nb : List Int → Nat
  | [] => 0
  | x :: l => x.toNat * 256 ^ l.length + nb l
theorem nb_lt : ∀ {l : List Int}, Bytes l → nb l < 256 ^ l.length
  | [], _ => by simp [nb]
  | x :: l, h => by
    have hx := h x (List.mem_cons_self ..)
    have := nb_lt (l := l) (fun y hy => h y (List.mem_cons_of_mem _ hy))
    rw [nb, List.length_cons, Nat.pow_succ]
    have h2 : x.toNat * 256 ^ l.length ≤ 255 * 256 ^ l.length := Nat.mul_le_mul_right _ (by omega)
    omega
theorem nb_snoc : ∀ (l : List Int) (x : Int), nb (l ++ [x]) = nb l * 256 + x.toNat
  | [], x => by simp [nb]
  | y :: l, x => by
    rw [List.cons_append, nb, nb, nb_snoc l x, List.length_append, List.length_singleton, Nat.pow_succ, Nat.add_mul, Nat.mul_assoc, Nat.add_assoc]
theorem nb_be : ∀ k m, nb (be k m) = m % 256 ^ k
  | 0, m => by simp [nb, be, Nat.mod_one]
  | k + 1, m => by
    rw [be, nb, nb_be k m, be_length, Int.toNat_natCast, Nat.pow_succ, Nat.mod_mul, Nat.mul_comm]; omega
theorem be_add : ∀ (k j c m : Nat), k ≤ j → be k (c * 256 ^ j + m) = be k m
  | 0, j, c, m, h => rfl
  | k + 1, j, c, m, h => by
    rw [be, be, be_add k j c m (by omega)]
    obtain ⟨d, rfl⟩ : ∃ d, j = k + 1 + d := ⟨j - (k + 1), by omega⟩
    have e : c * 256 ^ (k + 1 + d) + m = m + 256 ^ k * (256 * (c * 256 ^ d)) := by
      rw [Nat.pow_add, Nat.pow_succ]
      have : c * (256 ^ k * 256 * 256 ^ d) = 256 ^ k * (256 * (c * 256 ^ d)) := by
        rw [Nat.mul_assoc, Nat.mul_left_comm, Nat.mul_left_comm c 256]
      omega
    rw [e, Nat.add_mul_div_left _ _ (Nat.pow_pos (by decide)), Nat.add_mul_mod_self_left]
theorem be_nb : ∀ {l : List Int}, Bytes l → be l.length (nb l) = l
  | [], _ => rfl
  | x :: l, h => by
    have hx := h x (List.mem_cons_self ..)
    have hl : Bytes l := fun y hy => h y (List.mem_cons_of_mem _ hy)
    have hlt := nb_lt hl
    rw [nb, List.length_cons, be, be_add _ _ _ _ (Nat.le_refl _), be_nb hl]
    congr 1
    rw [Nat.mul_comm, Nat.mul_add_div (Nat.pow_pos (by decide)), Nat.div_eq_of_lt hlt, Nat.add_zero]
    omega
theorem or_low {x y : Int} (hx0 : 0 ≤ x) (hx : x < 256) (hy0 : 0 ≤ y) (hy : y % 256 = 0) (hy1 : y < 18446744073709551616) : Go.bits .or .u64 y x = y + x := by
  obtain ⟨a, rfl⟩ := Int.eq_ofNat_of_zero_le hx0
  obtain ⟨b, rfl⟩ := Int.eq_ofNat_of_zero_le hy0
  have ha : a < 2 ^ 64 := by show a < 18446744073709551616; omega
  have hb : b < 2 ^ 64 := by show b < 18446744073709551616; omega
  have h := or_join_u64 (x := (a : Int)) (y := (b : Int)) 8 (by omega) (by show _ < (256 : Int); omega) (by omega) hy (by omega) (by omega)
  rw [(bits_nat .u64 64 (by decide) wraps_u64 a b ha hb).2] at h
  rw [(bits_nat .u64 64 (by decide) wraps_u64 b a hb ha).2, Nat.or_comm, h]
  omega
/-- The number that eight bytes tell, less 2 to the 63. -/
def num8 (l : List Int) : Int := (nb l : Int) - 9223372036854775808
theorem num8_of {l : List Int} (h : Bytes l) (h8 : l.length = 8) : wrap64 (Go.bits .xor .u64 (nb l : Int) 9223372036854775808) = num8 l := by
  have := nb_lt h
  rw [h8, show 256 ^ 8 = 18446744073709551616 from rfl] at this
  rw [xor_min (by omega) (by omega)]
  unfold num8 wrap64
  split <;> omega

/-! ### the text -/
open Go.Proofs.YtohknmlcleifpaaDoorRA in
theorem tx_sound : ∀ (l acc t r : List UInt8), tx l acc = some (t, r) → ∃ u, t = acc ++ u ∧ l = dbl u ++ 0 :: 0 :: r
  | [], acc, t, r, h => by simp [tx] at h
  | [_], acc, t, r, h => by simp [tx] at h
  | b :: c :: l, acc, t, r, h => by
    rw [tx] at h
    by_cases hb : b = 0
    · rw [if_pos hb] at h
      by_cases hc : c = 0
      · rw [if_pos hc] at h
        obtain ⟨rfl, rfl⟩ := Prod.mk.inj (Option.some.inj h)
        exact ⟨[], by simp, by rw [hb, hc]; rfl⟩
      · rw [if_neg hc] at h
        by_cases hd : c = 255
        · rw [if_pos hd] at h
          obtain ⟨u, h1, h2⟩ := tx_sound l _ t r h
          refine ⟨0 :: u, by rw [h1, List.append_assoc]; rfl, ?_⟩
          rw [dbl, if_pos rfl, hb, hd, h2]; rfl
        · rw [if_neg hd] at h; cases h
    · rw [if_neg hb] at h
      obtain ⟨u, h1, h2⟩ := tx_sound (c :: l) _ t r h
      refine ⟨b :: u, by rw [h1, List.append_assoc]; rfl, ?_⟩
      rw [dbl, if_neg hb, h2]; rfl
open Go.Proofs.YtohknmlcleifpaaDoorRA in
theorem tx_complete : ∀ (u r acc : List UInt8), tx (dbl u ++ 0 :: 0 :: r) acc = some (acc ++ u, r)
  | [], r, acc => by simp [dbl, tx]
  | b :: u, r, acc => by
    rw [dbl]
    by_cases hb : b = 0
    · rw [if_pos hb, List.cons_append, List.cons_append, tx, if_pos rfl, if_neg (by decide), if_pos rfl, tx_complete u r, hb, List.append_assoc]; rfl
    · rw [if_neg hb, List.cons_append]
      have ih := tx_complete u r (acc ++ [b])
      cases e : dbl u ++ 0 :: 0 :: r with
      | nil => simp at e
      | cons c l =>
        rw [e] at ih
        rw [tx, if_neg hb, ih, List.append_assoc]; rfl
theorem map_inj8 {x y : List UInt8} (h : x.map (fun b => (b.toNat : Int)) = y.map fun b => (b.toNat : Int)) : x = y := by
  refine List.map_inj_right (f := fun b : UInt8 => (b.toNat : Int)) (fun x y hxy => ?_) |>.1 h
  exact UInt8.toNat_inj.1 (by have h_ : (x.toNat : Int) = (y.toNat : Int) := hxy; omega)
/-- The text at the front of some bytes. -/
theorem text_row {s : ByteArray} (hs : s.size ≤ 140737488351232) : ∃ t r b, key_text.f s = some (t, r, b) ∧
    (b = true → bytesOf s = dz (bytesOf t) ++ 0 :: 0 :: bytesOf r) ∧ (b = false → ∀ (t : ByteArray) r, bytesOf s ≠ dz (bytesOf t) ++ 0 :: 0 :: r) := by
  unfold key_text.f
  rw [if_pos (by omega)]
  cases h : tx s.data.toList [] with
  | some q =>
    obtain ⟨t, r⟩ := q
    obtain ⟨u, h1, h2⟩ := tx_sound _ _ _ _ h
    refine ⟨_, _, _, rfl, fun _ => ?_, fun h => by cases h⟩
    rw [List.nil_append] at h1
    subst h1
    show List.map _ _ = dz (List.map _ t) ++ 0 :: 0 :: List.map _ r
    rw [h2, List.map_append, dbl_dz]; rfl
  | none =>
    refine ⟨_, _, _, rfl, fun h => (by cases h), fun _ t r e => ?_⟩
    have e2 : (bytesOf s) = (Go.Proofs.YtohknmlcleifpaaDoorRA.dbl t.data.toList ++ 0 :: 0 :: (r.map fun x => UInt8.ofNat x.toNat)).map fun b => (b.toNat : Int) := by
      rw [List.map_append, dbl_dz, List.map_cons, List.map_cons, List.map_map]
      have hr : Bytes r := by
        have hb := bytesOf_bytes s
        rw [e] at hb
        exact fun x hx => hb x (by simp [hx])
      have : r.map ((fun b : UInt8 => (b.toNat : Int)) ∘ fun x : Int => UInt8.ofNat x.toNat) = r := by
        conv => rhs; rw [← List.map_id r]
        apply List.map_congr_left
        intro x hx
        have := hr x hx
        simp only [Function.comp, id]
        rw [UInt8.toNat_ofNat']
        omega
      rw [this]
      exact e
    have e3 := map_inj8 (show s.data.toList.map (fun b => (b.toNat : Int)) = _ from e2)
    rw [e3, tx_complete] at h
    cases h

/-! ### the first value -/
theorem first_l0 (x : ByteArray) (v0 v1 : Int) (v2 : ByteArray) (hx : 8 ≤ x.size) (h0 : v0 = 1) : ∀ (d i : Nat), i + d = 8 → ∀ k, d + 1 ≤ k →
    key_first.l0 k x true (nb ((bytesOf x).take i) : Int) (i : Int) v0 v1 v2 =
      (value_Right.f v0 (num8 ((bytesOf x).take 8)) v2).bind fun t => some (v0, num8 ((bytesOf x).take 8), v2, x.extract 8 x.size, t)
  | d, i, hd, 0, hk => by omega
  | 0, i, hd, k + 1, hk => by
    obtain rfl : i = 8 := by omega
    rw [key_first.l0, if_neg (by omega), if_pos (by omega), if_pos rfl, num8_of ((bytesOf_bytes x).take 8) (by rw [List.length_take, bytesOf_length]; omega)]
  | d + 1, i, hd, k + 1, hk => by
    have hi : i < (bytesOf x).length := by rw [bytesOf_length]; omega
    have hg : bt x (i : Int) = (bytesOf x)[i] := by rw [bt_eq, rd_get (by rw [Int.toNat_natCast]; exact hi)]; rfl
    have hb := bt_range x (i : Int)
    have hlt := nb_lt ((bytesOf_bytes x).take i)
    rw [List.length_take, Nat.min_eq_left (by omega)] at hlt
    have hp : 256 ^ i ≤ 256 ^ 7 := Nat.pow_le_pow_right (by decide) (by omega)
    rw [show 256 ^ 7 = 72057594037927936 from rfl] at hp
    rw [key_first.l0, if_pos (by omega), if_pos (by omega), if_pos (by omega), wrap_u64, wrap_u64, Int.emod_eq_of_lt (by omega) (by omega), Int.emod_eq_of_lt (by omega) (by omega), or_low hb.1 (by omega) (by omega) (by omega) (by omega)]
    have e : nb ((bytesOf x).take (i + 1)) = nb ((bytesOf x).take i) * 256 + (bt x (i : Int)).toNat := by
      rw [List.take_add_one, List.getElem?_eq_getElem hi, ← hg]
      exact nb_snoc _ _
    rw [show (nb ((bytesOf x).take i) : Int) * 256 + bt x (i : Int) = (nb ((bytesOf x).take (i + 1)) : Int) from by rw [e]; omega, show wrap64 ((i : Int) + 1) = ((i + 1 : Nat) : Int) from by unfold wrap64; omega]
    exact first_l0 x v0 v1 v2 hx h0 d (i + 1) (by omega) k (by omega)
/-- What first tells. -/
def First (s : List Int) (v : S25) (r : List Int) (b : Bool) : Prop := (b = true → right v = true ∧ s = one v ++ r) ∧ (b = false → ∀ v, right v = true → ∀ r, s ≠ one v ++ r)
theorem head_bytes {s : ByteArray} (h : 0 < s.size) : bytesOf s = bt s 0 :: bytesOf (s.extract 1 s.size) := by
  have h0 : 0 < (bytesOf s).length := by rw [bytesOf_length]; omega
  rw [bytesOf_extract_to_end, bt_eq, rd_get (by simpa using h0)]
  have := List.drop_eq_getElem_cons h0
  rw [List.drop_zero] at this
  exact this
theorem size_tail {s : ByteArray} (n : Nat) : (s.extract n s.size).size = s.size - n := by rw [ByteArray.size_extract, Nat.min_self]
theorem first_row {s : ByteArray} (h0 : 0 < s.size) (hs : s.size ≤ 140737488351232) {k : Nat} (hk : 12 ≤ k) :
    ∃ r1 r2 r3 r4 r5, key_first.f k s = some (r1, r2, r3, r4, r5) ∧ First (bytesOf s) ⟨r1, r2, r3⟩ (bytesOf r4) r5 ∧ r4.size ≤ s.size := by
  obtain ⟨k, rfl⟩ : ∃ j, k = j + 1 + 1 := ⟨k - 2, by omega⟩
  have hc := bt_range s 0
  have hh := head_bytes h0
  have ht := size_tail (s := s) 1
  unfold key_first.f
  rw [if_pos (by omega), if_pos (by omega), show wrap64 (wrap64 (bt s 0) - 1) = bt s 0 - 1 from by unfold wrap64; omega]
  generalize hx : s.extract 1 s.size = x at hh ht
  generalize hcc : bt s 0 = c at hc hh
  have empty_size : (⟨#[]⟩ : ByteArray).size = 0 := rfl
  have dec : ∀ v, right v = true → ∀ r, c :: bytesOf x = one v ++ r → v.f0 = c - 1 ∧ bytesOf x = body v ++ r := fun v hv r e => by
    have kv := right_kind hv
    rw [one, List.cons_append] at e
    obtain ⟨e1, e2⟩ := List.cons.inj e
    exact ⟨by omega, e2⟩
  by_cases c0 : c - 1 = 0
  · rw [if_pos c0, right_row ⟨c - 1, 0, ⟨#[]⟩⟩, some_bind]
    refine ⟨_, _, _, _, _, rfl, ?_, by omega⟩
    have hr : right ⟨c - 1, 0, ⟨#[]⟩⟩ = true := (right_iff _).2 (.inl ⟨c0, rfl, rfl⟩)
    rw [hr]
    refine ⟨fun _ => ⟨hr, ?_⟩, fun h => by cases h⟩
    rw [hh, one, body0 (by exact c0), List.singleton_append]
    congr 1
    show c = (c - 1 + 1) % 256
    omega
  · rw [if_neg c0]
    by_cases c1 : c - 1 = 1
    · rw [if_pos c1, key_first.j0]
      by_cases h8 : 8 ≤ x.size
      · rw [if_pos (by rw [decide_eq_true_iff]; omega)]
        have hl : key_first.l0 (k + 1) x true 0 0 (c - 1) 0 ⟨#[]⟩ = _ := first_l0 x (c - 1) 0 ⟨#[]⟩ h8 c1 8 0 (by omega) (k + 1) (by omega)
        rw [hl, right_row ⟨c - 1, num8 ((bytesOf x).take 8), ⟨#[]⟩⟩, some_bind]
        refine ⟨_, _, _, _, _, rfl, ?_, by rw [size_tail]; omega⟩
        have hlen : ((bytesOf x).take 8).length = 8 := by rw [List.length_take, bytesOf_length]; omega
        have hB : Bytes ((bytesOf x).take 8) := (bytesOf_bytes x).take 8
        have en : (num8 ((bytesOf x).take 8) + 9223372036854775808).toNat = nb ((bytesOf x).take 8) := by unfold num8; omega
        have eb : be 8 (nb ((bytesOf x).take 8)) = (bytesOf x).take 8 := by
          have := be_nb hB
          rwa [hlen] at this
        refine ⟨fun hr => ⟨hr, ?_⟩, fun hr v hv r e => ?_⟩
        · rw [hh, one, body1 (by exact c1)]
          show _ = (c - 1 + 1) % 256 :: be 8 (num8 ((bytesOf x).take 8) + 9223372036854775808).toNat ++ bytesOf (x.extract 8 x.size)
          rw [en, eb, bytesOf_extract_to_end, List.cons_append, List.take_append_drop]
          congr 1
          omega
        · rw [hh] at e
          obtain ⟨e1, e2⟩ := dec v hv r e
          rw [body1 (by omega)] at e2
          rcases (right_iff v).1 hv with p | p | p | p <;> (try (exfalso; omega))
          have e3 : (bytesOf x).take 8 = be 8 (v.f1 + 9223372036854775808).toNat := by rw [e2, List.take_left' (be_length 8 _)]
          have e4 : num8 ((bytesOf x).take 8) = v.f1 := by
            unfold num8
            rw [e3, nb_be, Nat.mod_eq_of_lt (by show _ < 18446744073709551616; omega)]
            omega
          rw [e4] at hr
          rw [show (⟨c - 1, v.f1, ⟨#[]⟩⟩ : S25) = v from eta _ _ e1.symm rfl (empty_of p.2.2.2).symm, hv] at hr
          cases hr
      · rw [if_neg (by rw [decide_eq_true_iff]; omega), if_neg (by omega), key_first.j2, if_neg (by decide), if_neg (by omega)]
        refine ⟨_, _, _, _, _, rfl, ⟨fun h => (by cases h), fun _ v hv r e => ?_⟩, by omega⟩
        rw [hh] at e
        obtain ⟨e1, e2⟩ := dec v hv r e
        have := congrArg List.length e2
        rw [body1 (by omega), List.length_append, be_length, bytesOf_length] at this
        omega
    · rw [if_neg c1, key_first.j0, if_neg (by decide)]
      by_cases c2 : c - 1 = 2
      · rw [if_pos c2, key_first.j2]
        by_cases h1 : 1 ≤ x.size
        · have hb := bt_range x 0
          rw [if_pos (by rw [decide_eq_true_iff]; omega), if_pos (by omega), if_pos (by omega), if_pos rfl, show wrap64 (bt x 0) = bt x 0 from by unfold wrap64; omega, right_row ⟨c - 1, bt x 0, ⟨#[]⟩⟩, some_bind]
          refine ⟨_, _, _, _, _, rfl, ?_, by rw [size_tail]; omega⟩
          have hhx := head_bytes (s := x) (by omega)
          refine ⟨fun hr => ⟨hr, ?_⟩, fun hr v hv r e => ?_⟩
          · rw [hh, hhx, one, body2 (by exact c2)]
            show _ = (c - 1 + 1) % 256 :: [bt x 0 % 256] ++ _
            rw [show (c - 1 + 1) % 256 = c from by omega, show bt x 0 % 256 = bt x 0 from by omega]; rfl
          · rw [hh] at e
            obtain ⟨e1, e2⟩ := dec v hv r e
            rw [body2 (by omega), hhx, List.singleton_append] at e2
            rcases (right_iff v).1 hv with p | p | p | p <;> (try (exfalso; omega))
            have e3 := (List.cons.inj e2).1
            rw [show (⟨c - 1, bt x 0, ⟨#[]⟩⟩ : S25) = v from eta _ _ e1.symm (by show bt x 0 = v.f1; omega) (empty_of p.2.2).symm, hv] at hr
            cases hr
        · rw [if_neg (by rw [decide_eq_true_iff]; omega), if_neg (by omega)]
          refine ⟨_, _, _, _, _, rfl, ⟨fun h => (by cases h), fun _ v hv r e => ?_⟩, by omega⟩
          rw [hh] at e
          obtain ⟨e1, e2⟩ := dec v hv r e
          have := congrArg List.length e2
          rw [body2 (by omega), List.length_append, List.length_singleton, bytesOf_length] at this
          omega
      · rw [if_neg c2, key_first.j2, if_neg (by decide)]
        by_cases c3 : c - 1 = 3
        · rw [if_pos c3]
          obtain ⟨t, r, b, e, ht1, ht2⟩ := text_row (s := x) (by omega)
          rw [e, some_bind]
          cases b with
          | true =>
            have ht1 := ht1 rfl
            rw [if_pos rfl, right_row ⟨c - 1, 0, t⟩, some_bind]
            refine ⟨_, _, _, _, _, rfl, ?_, ?_⟩
            · refine ⟨fun hr => ⟨hr, ?_⟩, fun hr v hv r' e => ?_⟩
              · rw [hh, one, body3 (by exact c3), ht1]
                show _ = (c - 1 + 1) % 256 :: (dz (bytesOf t) ++ [0, 0]) ++ bytesOf r
                rw [show (c - 1 + 1) % 256 = c from by omega, List.cons_append, List.append_assoc]; rfl
              · rw [hh] at e
                obtain ⟨e1, e2⟩ := dec v hv r' e
                rcases (right_iff v).1 hv with p | p | p | p <;> (try (exfalso; omega))
                rw [body3 p.1, ht1] at e2
                have e3 : bytesOf t = bytesOf v.f2 := by
                  have e4 : (dz (bytesOf t) ++ [0, 0]) ++ bytesOf r = (dz (bytesOf v.f2) ++ [0, 0]) ++ r' := by rw [← e2, List.append_assoc]; rfl
                  rcases ltI_total (bytesOf t) (bytesOf v.f2) with g | g | g
                  · exact absurd e4 ((dz_fb _ _ (bytesOf_bytes _) (bytesOf_bytes _) g).app _ _).ne
                  · exact g
                  · exact absurd e4.symm ((dz_fb _ _ (bytesOf_bytes _) (bytesOf_bytes _) g).app _ _).ne
                rw [show (⟨c - 1, 0, t⟩ : S25) = v from eta _ _ e1.symm p.2.1.symm (bytesOf_inj e3), hv] at hr
                cases hr
            · have := congrArg List.length ht1
              rw [List.length_append, List.length_cons, List.length_cons, bytesOf_length, bytesOf_length] at this
              show r.size ≤ s.size
              omega
          | false =>
            rw [if_neg (by simp)]
            refine ⟨_, _, _, _, _, rfl, ⟨fun h => (by cases h), fun _ v hv r' e => ?_⟩, ?_⟩
            · rw [hh] at e
              obtain ⟨e1, e2⟩ := dec v hv r' e
              rw [body3 (by omega), List.append_assoc] at e2
              exact ht2 rfl _ _ e2
            · unfold key_text.f at e
              rw [if_pos (by omega)] at e
              split at e <;> simp at e
              rw [← e.2]
              exact Nat.zero_le _
        · rw [if_neg c3]
          refine ⟨_, _, _, _, _, rfl, ⟨fun h => (by cases h), fun _ v hv r e => ?_⟩, by omega⟩
          rw [hh] at e
          obtain ⟨e1, e2⟩ := dec v hv r e
          have kv := right_kind hv
          omega

/-! ### the key -/
/-- What is read of s behind acc. -/
def KeyRd (s : List Int) (acc : List S25) (R : List S25 × Int) : Prop :=
  (∃ l, R = (acc ++ l, 0) ∧ Rts l ∧ (acc ++ l).length ≤ 8 ∧ s = enc l) ∨ (R = ([], 20) ∧ ∀ l, Rts l → (acc ++ l).length ≤ 8 → s ≠ enc l)
theorem decode_loop : ∀ (d : Nat) (s : ByteArray) (acc : List S25), acc.length + d = 8 → s.size ≤ 140737488351232 → ∀ k, d + 16 ≤ k → ∃ R, key_Decode.l0 k s acc = some R ∧ KeyRd (bytesOf s) acc R
  | d, s, acc, hd, hs, 0, hk => by omega
  | d, s, acc, hd, hs, k + 1, hk => by
    rw [key_Decode.l0]
    by_cases hz : s.size = 0
    · rw [if_pos (toList_nil.2 hz)]
      refine ⟨_, rfl, .inl ⟨[], by simp, fun v hv => (by cases hv), by simp; omega, ?_⟩⟩
      rw [bytesOf_eq_nil.2 hz]; rfl
    · rw [if_neg (fun h => hz (toList_nil.1 h))]
      obtain ⟨r1, r2, r3, r4, r5, e, hF, hsz⟩ := first_row (s := s) (by omega) hs (k := k) (by omega)
      rw [e, some_bind]
      cases r5 with
      | false =>
        rw [if_neg (by simp)]
        refine ⟨_, rfl, .inr ⟨rfl, fun l hl h8 e => ?_⟩⟩
        cases l with
        | nil =>
          have := bytesOf_eq_nil.1 (e.trans rfl)
          exact hz this
        | cons v l => exact hF.2 rfl v hl.head _ (e.trans (enc_cons v l))
      | true =>
        obtain ⟨hr, he⟩ := hF.1 rfl
        rw [if_pos rfl]
        by_cases h8 : acc.length = 8
        · rw [if_pos (by omega)]
          refine ⟨_, rfl, .inr ⟨rfl, fun l hl hl8 e => ?_⟩⟩
          rw [List.length_append] at hl8
          have : l = [] := List.eq_nil_of_length_eq_zero (by omega)
          subst this
          exact hz (bytesOf_eq_nil.1 (e.trans rfl))
        · rw [if_neg (by omega), if_pos (by omega)]
          obtain ⟨d, rfl⟩ : ∃ j, d = j + 1 := ⟨d - 1, by omega⟩
          obtain ⟨R, e2, h2⟩ := decode_loop d r4 (acc ++ [⟨r1, r2, r3⟩]) (by simp only [List.length_append, List.length_cons, List.length_nil]; omega) (by omega) k (by omega)
          refine ⟨R, e2, ?_⟩
          rcases h2 with ⟨l, rfl, hl, hl8, hs2⟩ | ⟨rfl, hno⟩
          · refine .inl ⟨⟨r1, r2, r3⟩ :: l, by simp, ?_, by simpa using hl8, ?_⟩
            · intro v hv
              rcases List.mem_cons.1 hv with rfl | hv
              · exact hr
              · exact hl v hv
            · rw [enc_cons, ← hs2]; exact he
          · refine .inr ⟨rfl, fun l hl hl8 e3 => ?_⟩
            cases l with
            | nil => exact hz (bytesOf_eq_nil.1 (e3.trans rfl))
            | cons v l =>
              rw [enc_cons, he] at e3
              obtain ⟨rfl, e4⟩ := one_inj hr hl.head e3
              exact hno l hl.tail (by simpa using hl8) e4
/-- A text is read as the values whose key it is, or refused if there are none. -/
def Rd (s : List Int) (R : List S25 × Int) : Prop := (∃ l, R = (l, 0) ∧ OK l ∧ s = enc l) ∨ (R = ([], 20) ∧ ∀ l, OK l → s ≠ enc l)
theorem Rd.one {s : List Int} {R T : List S25 × Int} (h : Rd s R) (g : Rd s T) : R = T := by
  rcases h with ⟨l, rfl, hl, e⟩ | ⟨rfl, hno⟩ <;> rcases g with ⟨m, rfl, hm, f⟩ | ⟨rfl, gno⟩
  · rw [enc_inj hl.2 hm.2 (e.symm.trans f)]
  · exact absurd e (gno l hl)
  · exact absurd f (hno m hm)
  · rfl
theorem decode_row {s : ByteArray} (hs : s.size ≤ 140737488351232) {k : Nat} (hk : 24 ≤ k) : ∃ R, key_Decode.f k s = some R ∧ Rd (bytesOf s) R := by
  unfold key_Decode.f
  obtain ⟨R, e, h⟩ := decode_loop 8 s [] rfl hs k hk
  refine ⟨R, e, ?_⟩
  rcases h with ⟨l, rfl, hl, h8, e⟩ | ⟨rfl, hno⟩
  · exact .inl ⟨l, by simp, ⟨by simpa using h8, hl⟩, e⟩
  · exact .inr ⟨rfl, fun l hl => hno l hl.2 (by simpa using hl.1)⟩
end Go.Proofs.YtohknmlcleifpaaDoor.PS
