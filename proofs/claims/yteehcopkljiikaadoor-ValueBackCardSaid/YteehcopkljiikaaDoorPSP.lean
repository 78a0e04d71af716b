/- What Print and Parse tell, in plain words: a literal is read as its value; no program's steps in sight; no conditions beyond those in each theorem's head. -/
import Derived.Test.YteehcopkljiikaaDoorPS0
import Derived.Test.YteehcopkljiikaaDoorX7
import Derived.Lib.AtoiAllCases
import Derived.Lib.ItoaLen
namespace Go.Proofs.YteehcopkljiikaaDoor.PS
open Go.RowKit Go.Proofs.YteehcopkljiikaaDoorW.PrintWords Go.Proofs.YteehcopkljiikaaDoorW.PrintLast Go.Proofs.YteehcopkljiikaaDoorW.PrintMore Go.Proofs.YteehcopkljiikaaDoorX Go.Proofs.YteehcopkljiikaaDoorL Go.Proofs.YteehcopkljiikaaDoor.PA
set_option linter.unusedVariables false
set_option linter.unusedSimpArgs false

/-- A value as a literal. -/
def litV (v : S23) : ByteArray := if v.f0 = 1 then ⟨(Lib.itoa v.f1).toArray⟩ else if v.f0 = 2 then (if v.f1 = 1 then ⟨#[84, 82, 85, 69]⟩ else ⟨#[70, 65, 76, 83, 69]⟩) else if v.f0 = 3 then ⟨(YteehcopkljiikaaDoorX.quoted v.f2.data.toList ++ [39]).toArray⟩ else ⟨#[78, 85, 76, 76]⟩
def printS (v : S23) : ByteArray × Int := if right v = true then (litV v, 0) else (⟨#[]⟩, 10)
theorem print_eq (v : S23) : value_Print.f v.f0 v.f1 v.f2 = some (printS v) := by
  unfold value_Print.f printS litV
  rw [right_row, some_bind]
  congr 1
  by_cases h : right v = true
  · rw [if_pos h, if_pos h]
    by_cases h1 : v.f0 = 1
    · rw [if_pos h1, if_pos h1]
    · rw [if_neg h1, if_neg h1]
      by_cases h2 : v.f0 = 2
      · rw [if_pos h2, if_pos h2]; split <;> rfl
      · rw [if_neg h2, if_neg h2]
        by_cases h3 : v.f0 = 3
        · rw [if_pos h3, if_pos h3]
        · rw [if_neg h3, if_neg h3]
  · rw [if_neg h, if_neg h]
/-! ### numbers -/
theorem pu_app : ∀ (l m : List UInt8) (a u : Nat), Lib.parseUint10 a l = .ok u → Lib.parseUint10 a (l ++ m) = Lib.parseUint10 u m
  | [], m, a, u, h => by
    simp only [Lib.parseUint10] at h
    injection h with h
    rw [h, List.nil_append]
  | c :: l, m, a, u, h => by
    rw [List.cons_append]
    simp only [Lib.parseUint10] at h ⊢
    split at h
    · next hd =>
      rw [if_pos hd]
      split at h
      · cases h
      · next h1 =>
        rw [if_neg h1]
        split at h
        · cases h
        · next h2 =>
          rw [if_neg h2]
          exact pu_app l m _ u h
    · cases h
theorem digit_toNat {d : Nat} (h : d < 10) : (UInt8.ofNat (48 + d)).toNat = 48 + d := by rw [UInt8.toNat_ofNat']; omega
theorem pu_dec (u : Nat) (hu : u < 18446744073709551616) : Lib.parseUint10 0 (Lib.decDigits u) = .ok u := by
  induction u using Nat.strongRecOn with
  | _ u ih =>
    rw [Lib.decDigits]
    by_cases h : u < 10
    · rw [dif_pos h]
      simp only [Lib.parseUint10, digit_toNat h]
      rw [if_pos (by omega), if_neg (by omega), if_neg (by omega)]
      congr 1; omega
    · rw [dif_neg h, pu_app _ _ _ _ (ih (u / 10) (by omega) (by omega))]
      have hd : u % 10 < 10 := by omega
      simp only [Lib.parseUint10, digit_toNat hd]
      rw [if_pos (by omega), if_neg (by omega), if_neg (by omega)]
      congr 1; omega
/-- The first digit. -/
theorem dec_head (u : Nat) : ∃ c l, Lib.decDigits u = c :: l ∧ 48 ≤ c.toNat ∧ c.toNat ≤ 57 := by
  induction u using Nat.strongRecOn with
  | _ u ih =>
    rw [Lib.decDigits]
    by_cases h : u < 10
    · rw [dif_pos h]
      exact ⟨_, _, rfl, by rw [digit_toNat h]; omega, by rw [digit_toNat h]; omega⟩
    · rw [dif_neg h]
      obtain ⟨c, l, e, h1, h2⟩ := ih (u / 10) (by omega)
      exact ⟨c, _, by rw [e]; rfl, h1, h2⟩
theorem itoa_head (n : Int) : ∃ c l, Lib.itoa n = c :: l ∧ (c.toNat = 45 ∨ 48 ≤ c.toNat ∧ c.toNat ≤ 57) := by
  unfold Lib.itoa
  split
  · exact ⟨_, _, rfl, .inl rfl⟩
  · obtain ⟨c, l, e, h⟩ := dec_head n.toNat
    exact ⟨c, l, e, .inr h⟩
theorem mag_dec (u : Nat) (hu : u < 18446744073709551616) : Lib.parseMag (Lib.decDigits u) = .ok u := by
  obtain ⟨c, l, e, _⟩ := dec_head u
  unfold Lib.parseMag
  rw [if_neg (by rw [e]; simp), pu_dec u hu]
theorem atoi_itoa {n : Int} (h0 : -4611686018427387904 ≤ n) (h1 : n ≤ 4611686018427387904) : Go.Proofs.YteehcopkljiikaaDoorSh.atoiN (Lib.itoa n) = n := by
  have e : Lib.atoiAll (Lib.itoa n) = .ok n := by
    unfold Lib.itoa
    by_cases h : n < 0
    · rw [if_pos h]
      simp only [Lib.atoiAll, show (45 : UInt8).toNat = 45 from rfl]
      rw [if_pos (by decide), mag_dec _ (by omega)]
      simp only [not_true_eq_false, false_and, if_false, true_and, if_true]
      rw [if_neg (by omega)]
      congr 1; omega
    · rw [if_neg h]
      obtain ⟨c, l, e, g0, g1⟩ := dec_head n.toNat
      have hm := mag_dec n.toNat (by omega)
      rw [e] at hm ⊢
      simp only [Lib.atoiAll]
      rw [if_neg (by omega), hm]
      have h45 : ¬ c.toNat = 45 := by omega
      simp only [h45, not_false_eq_true, true_and, false_and, if_false]
      rw [if_neg (by omega)]
      congr 1; omega
  unfold Go.Proofs.YteehcopkljiikaaDoorSh.atoiN
  rw [e]
/-! ### texts -/
theorem hex_back : ∀ c : Fin 256, hexAcc 0 [hexB (c.val / 16), hexB (c.val % 16)] = some c.val := by decide +kernel
theorem text_back : ∀ (t acc : List UInt8) (n : Nat), (t.flatMap qb).length ≤ n → textL n (t.flatMap qb) acc = some (acc ++ t)
  | [], acc, n, _ => by rw [List.flatMap_nil, textL]; simp
  | c :: t, acc, n, h => by
    rw [List.flatMap_cons] at h ⊢
    have ih := fun a m hm => text_back t a m hm
    have hacc : acc ++ c :: t = (acc ++ [c]) ++ t := by simp
    by_cases hE : c.toNat < 32 ∨ 126 < c.toNat ∨ c.toNat = 92
    · have hq : qb c = [92, hexB (c.toNat / 16), hexB (c.toNat % 16)] := by unfold qb; rw [if_pos hE]
      rw [hq] at h ⊢
      simp only [List.cons_append, List.nil_append, List.length_cons] at h ⊢
      obtain ⟨n, rfl⟩ : ∃ m, n = m + 1 := ⟨n - 1, by omega⟩
      rw [textL, if_neg (by simp [Lib.hasPrefix, List.isPrefixOf]), if_pos ⟨rfl, by simp⟩, show List.take 2 (hexB (c.toNat / 16) :: hexB (c.toNat % 16) :: t.flatMap qb) = [hexB (c.toNat / 16), hexB (c.toNat % 16)] from rfl, hex_back ⟨c.toNat, c.toNat_lt⟩,
        show List.drop 2 (hexB (c.toNat / 16) :: hexB (c.toNat % 16) :: t.flatMap qb) = t.flatMap qb from rfl, hacc]
      simp only
      rw [ih _ _ (by omega)]
      congr 3
      simp
    · by_cases h39 : c.toNat = 39
      · have hc : c = 39 := UInt8.toNat_inj.1 h39
        subst hc
        have hq : qb 39 = [39, 39] := by decide
        rw [hq] at h ⊢
        simp only [List.cons_append, List.nil_append, List.length_cons] at h ⊢
        obtain ⟨n, rfl⟩ : ∃ m, n = m + 1 := ⟨n - 1, by omega⟩
        rw [textL, if_pos (by simp [Lib.hasPrefix, List.isPrefixOf]), show List.drop 1 (39 :: t.flatMap qb) = t.flatMap qb from rfl, hacc]
        exact ih _ _ (by omega)
      · have hq : qb c = [c] := by unfold qb; rw [if_neg hE, if_neg h39]
        rw [hq] at h ⊢
        simp only [List.cons_append, List.nil_append, List.length_cons] at h ⊢
        obtain ⟨n, rfl⟩ : ∃ m, n = m + 1 := ⟨n - 1, by omega⟩
        have hne : ¬ c = 39 := fun e => h39 (by rw [e]; rfl)
        rw [textL, if_neg (by simp [Lib.hasPrefix, List.isPrefixOf]; intro e; exact absurd e.symm hne), if_neg (by omega), hacc]
        exact ih _ _ (by omega)
/-! ### back -/
theorem toList_mk (l : List UInt8) : (⟨l.toArray⟩ : ByteArray).toList = l := by rw [ByteArray.toList_eq]
theorem size_mk (l : List UInt8) : (⟨l.toArray⟩ : ByteArray).size = l.length := by rw [Lib.size_eq]
theorem bt_mk {c : UInt8} {l : List UInt8} : bt (⟨(c :: l).toArray⟩ : ByteArray) 0 = (c.toNat : Int) := by
  unfold bt
  rw [dif_pos (show (0 : Int).toNat < (⟨(c :: l).toArray⟩ : ByteArray).size by rw [size_mk]; simp)]
  rfl
theorem fin_lit (v : S23) (h : right v = true) : fin (litV v) v.f0 v.f1 v.f2 = some (v.f0, v.f1, v.f2, 0) := by
  unfold fin
  rw [print_eq, some_bind, printS, if_pos h, if_pos ⟨rfl, rfl⟩]
theorem parse_lit (v : S23) (h : right v = true) : value_Parse.f (litV v) = some (v.f0, v.f1, v.f2, 0) := by
  have hf := fin_lit v h
  have hr := (right_iff v).1 h
  obtain ⟨x, n, t⟩ := v
  have hr : (x = 0 ∧ n = 0 ∧ t.size = 0) ∨ (x = 1 ∧ -4611686018427387904 ≤ n ∧ n ≤ 4611686018427387904 ∧ t.size = 0) ∨ (x = 2 ∧ (n = 0 ∨ n = 1) ∧ t.size = 0) ∨ (x = 3 ∧ n = 0 ∧ t.size ≤ 64) := hr
  have hf : fin (litV ⟨x, n, t⟩) x n t = some (x, n, t, 0) := hf
  show value_Parse.f (litV ⟨x, n, t⟩) = some (x, n, t, 0)
  rcases hr with ⟨a, b, c⟩ | ⟨a, b0, b1, c⟩ | ⟨a, b, c⟩ | ⟨a, b, c⟩
  · subst a; subst b; obtain rfl := empty_of c
    decide +kernel
  · subst a; obtain rfl := empty_of c
    have hl : litV ⟨1, n, ⟨#[]⟩⟩ = ⟨(Lib.itoa n).toArray⟩ := rfl
    rw [hl] at hf ⊢
    obtain ⟨c0, l0, e, hc⟩ := itoa_head n
    have hne : ∀ x : UInt8, x.toNat = 84 ∨ x.toNat = 70 ∨ x.toNat = 78 → ∀ r, ¬ Lib.itoa n = x :: r := fun x hx r k => by
      rw [e] at k
      injection k with k1 k2
      rw [k1] at hc; omega
    have hlen := Lib.itoa_length_le n (by omega) (by omega)
    unfold value_Parse.f
    rw [if_pos (by rw [size_mk]; omega), if_neg (by rw [toList_mk]; exact hne 84 (.inl rfl) _), if_neg (by rw [toList_mk]; exact hne 70 (.inr (.inl rfl)) _), dif_neg (by
      rw [e, bt_mk]; rintro ⟨_, k⟩; omega), if_neg (by rw [toList_mk]; exact hne 78 (.inr (.inr rfl)) _), show (⟨(Lib.itoa n).toArray⟩ : ByteArray).data.toList = Lib.itoa n from by simp, atoi_itoa b0 b1]
    exact hf
  · subst a; obtain rfl := empty_of c
    rcases b with b | b
    · subst b
      decide +kernel
    · subst b
      decide +kernel
  · subst a; subst b
    have hl : litV ⟨3, 0, t⟩ = ⟨(39 :: (t.data.toList.flatMap qb ++ [39])).toArray⟩ := rfl
    rw [hl] at hf ⊢
    have hql := quoted_length t.data.toList
    have hq : YteehcopkljiikaaDoorX.quoted t.data.toList = 39 :: t.data.toList.flatMap qb := rfl
    have htl : t.data.toList.length = t.size := (Lib.size_eq t).symm
    rw [hq, List.length_cons] at hql
    have hs : (⟨(39 :: (t.data.toList.flatMap qb ++ [39])).toArray⟩ : ByteArray).size = (t.data.toList.flatMap qb).length + 2 := by rw [size_mk]; simp
    have hne : ∀ x : UInt8, x.toNat = 84 ∨ x.toNat = 70 → ∀ r, ¬ (39 :: (t.data.toList.flatMap qb ++ [39])) = x :: r := fun x hx r k => by
      injection k with k1 k2
      rw [← k1] at hx
      have : (39 : UInt8).toNat = 39 := rfl
      omega
    have hmid : ((⟨(39 :: (t.data.toList.flatMap qb ++ [39])).toArray⟩ : ByteArray).extract 1 ((t.data.toList.flatMap qb).length + 2 - 1)).data.toList = t.data.toList.flatMap qb := by
      rw [Lib.extract_data]
      simp
    have hms : ((⟨(39 :: (t.data.toList.flatMap qb ++ [39])).toArray⟩ : ByteArray).extract 1 ((t.data.toList.flatMap qb).length + 2 - 1)).size = (t.data.toList.flatMap qb).length := by rw [Lib.size_eq, hmid]
    unfold value_Parse.f
    rw [if_pos (by rw [hs]; omega), if_neg (by rw [toList_mk]; exact hne 84 (.inl rfl) _), if_neg (by rw [toList_mk]; exact hne 70 (.inr rfl) _), dif_pos ⟨by rw [hs]; omega, by rw [bt_mk]; rfl⟩, hs, hmid, hms, text_back _ _ _ (Nat.le_refl _), List.nil_append]
    exact hf
/-- Unlike values, unlike literals. -/
theorem lit_inj {v w : S23} (hv : right v = true) (hw : right w = true) (h : litV v = litV w) : v = w := by
  have a := parse_lit v hv
  have b := parse_lit w hw
  rw [h, b] at a
  simp only [Option.some.injEq, Prod.mk.injEq] at a
  exact (eta _ _ a.1 a.2.1 a.2.2.1).symm
/-- What no literal is, is refused. -/
theorem fin_not {s : ByteArray} (h : ¬ ∃ v, right v = true ∧ litV v = s) (v0 v1 : Int) (v2 : ByteArray) : fin s v0 v1 v2 = some (0, 0, ⟨#[]⟩, 10) := by
  unfold fin
  rw [print_eq ⟨v0, v1, v2⟩, some_bind, printS]
  by_cases hr : right ⟨v0, v1, v2⟩ = true
  · rw [if_pos hr, if_neg (fun k => h ⟨_, hr, k.2⟩)]
  · rw [if_neg hr, if_neg (by simp)]
theorem parse_not {s : ByteArray} (hs : s.size ≤ 100000000000) (h : ¬ ∃ v, right v = true ∧ litV v = s) : value_Parse.f s = some (0, 0, ⟨#[]⟩, 10) := by
  unfold value_Parse.f
  rw [if_pos hs]
  simp only [fin_not h]
  split
  · rfl
  · split
    · rfl
    · split
      · split <;> rfl
      · split <;> rfl
end Go.Proofs.YteehcopkljiikaaDoor.PS
