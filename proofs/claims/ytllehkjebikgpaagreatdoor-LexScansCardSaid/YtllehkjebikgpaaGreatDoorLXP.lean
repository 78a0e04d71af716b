/- What the value's literals say, program and document alike (Value's own laws laid at this dump); no program's steps in sight; no conditions beyond those in each theorem's head. -/
import Derived.Test.YtllehkjebikgpaaGreatDoorX7
import Derived.Test.YtllehkjebikgpaaGreatDoorMV
import Derived.Test.YtllehkjebikgpaaGreatDoorPL
import Derived.Lib.AtoiAllCases
import Derived.Lib.ItoaLen
namespace Go.Proofs.YtllehkjebikgpaaGreatDoor.PV
open Go.RowKit Go.Proofs.YtllehkjebikgpaaGreatDoorW.PrintWords Go.Proofs.YtllehkjebikgpaaGreatDoorW.PrintLast Go.Proofs.YtllehkjebikgpaaGreatDoorW.PrintMore Go.Proofs.YtllehkjebikgpaaGreatDoorX Go.Proofs.YtllehkjebikgpaaGreatDoorL Go.Proofs.YtllehkjebikgpaaGreatDoor.PA
set_option linter.unusedVariables false
set_option linter.unusedSimpArgs false
structure SVal where
  f0 : Int
  f1 : Int
  f2 : ByteArray

/-- A value that may be. -/
def right (v : SVal) : Bool :=
  (v.f0 == 0 && v.f1 == 0 && v.f2.size == 0) || (v.f0 == 1 && decide (-4611686018427387904 ≤ v.f1) && decide (v.f1 ≤ 4611686018427387904) && v.f2.size == 0)
  || (v.f0 == 2 && (v.f1 == 0 || v.f1 == 1) && v.f2.size == 0) || (v.f0 == 3 && v.f1 == 0 && decide (v.f2.size ≤ 64))
theorem right_iff (v : SVal) : right v = true ↔ (v.f0 = 0 ∧ v.f1 = 0 ∧ v.f2.size = 0) ∨ (v.f0 = 1 ∧ -4611686018427387904 ≤ v.f1 ∧ v.f1 ≤ 4611686018427387904 ∧ v.f2.size = 0)
    ∨ (v.f0 = 2 ∧ (v.f1 = 0 ∨ v.f1 = 1) ∧ v.f2.size = 0) ∨ (v.f0 = 3 ∧ v.f1 = 0 ∧ v.f2.size ≤ 64) := by
  simp [right, and_assoc, or_assoc]
theorem empty_of {s : ByteArray} (h : s.size = 0) : s = (⟨#[]⟩ : ByteArray) := by
  apply bytesOf_inj
  rw [bytesOf_eq_nil.2 h]; rfl
theorem right_kind {v : SVal} (h : right v = true) : 0 ≤ v.f0 ∧ v.f0 ≤ 3 := by
  rcases (right_iff v).1 h with h | h | h | h <;> omega
theorem eta (v u : SVal) (h0 : v.f0 = u.f0) (h1 : v.f1 = u.f1) (h2 : v.f2 = u.f2) : v = u := by
  cases v; cases u; simp only at h0 h1 h2; subst h0; subst h1; subst h2; rfl
deriving instance DecidableEq for SVal

theorem beq_nil (s : ByteArray) : (s.toList == ([] : List UInt8)) = (s.size == 0) := by
  rw [Bool.eq_iff_iff]
  simp [toList_nil]
theorem right_row (v : SVal) : value_Right.f v.f0 v.f1 v.f2 = some (right v) := by
  unfold value_Right.f right
  simp only [beq_nil]
  by_cases h0 : v.f0 = 0
  · rw [if_pos h0]; simp [h0]
  · rw [if_neg h0]
    by_cases h1 : v.f0 = 1
    · rw [if_pos h1]
      by_cases a : v.f1 ≥ (-4611686018427387904) <;> by_cases b : v.f1 ≤ 4611686018427387904 <;> simp [h1, a, b] <;> omega
    · rw [if_neg h1]
      by_cases h2 : v.f0 = 2
      · rw [if_pos h2]
        by_cases a : v.f1 = 0
        · simp [h2, a]
        · by_cases b : v.f1 = 1
          · simp [h2, b]
          · rw [if_neg (by omega)]; simp [h2, a, b]
      · rw [if_neg h2]
        by_cases h3 : v.f0 = 3
        · rw [if_pos h3]
          by_cases a : v.f1 = 0
          · rw [if_pos a]; simp [h3, a]; omega
          · rw [if_neg a]; simp [h3, a]
        · rw [if_neg h3]; simp [h0, h1, h2, h3]
theorem truth_eq (b : Bool) : value_truth.f b = some (2, (if b = true then 1 else 0), ⟨#[]⟩) := by cases b <;> rfl

theorem right_ref (v : SVal) : unisonref01_Right.f v.f0 v.f1 v.f2 = some (right v) := by
  unfold unisonref01_Right.f right
  simp only [beq_nil]
  by_cases h0 : v.f0 = 0
  · rw [if_pos h0]
    by_cases a : v.f1 = 0
    · rw [if_pos a]; simp [h0, a]
    · rw [if_neg a]; simp [h0, a]
  · rw [if_neg h0]
    by_cases h1 : v.f0 = 1
    · rw [if_pos h1]
      by_cases a : v.f1 ≥ (-4611686018427387904) <;> by_cases b : v.f1 ≤ 4611686018427387904 <;> simp [h1, a, b] <;> omega
    · rw [if_neg h1]
      by_cases h2 : v.f0 = 2
      · rw [if_pos h2]
        by_cases a : v.f1 = 0
        · rw [if_pos a]; simp [h2, a]
        · rw [if_neg a]
          by_cases b : v.f1 = 1
          · rw [if_pos b]; simp [h2, b]
          · rw [if_neg b]; simp [h2, a, b]
      · rw [if_neg h2]
        by_cases h3 : v.f0 = 3
        · rw [if_pos h3]
          by_cases a : v.f1 = 0
          · rw [if_pos a]; simp [h3, a]; omega
          · rw [if_neg a]; simp [h3, a]
        · rw [if_neg h3]; simp [h0, h1, h2, h3]


theorem bool_eq (b : Bool) : unisonref01_Bool.f b = some (2, (if b = true then 1 else 0), ⟨#[]⟩) := by cases b <;> rfl

/-- A value as a literal. -/
def litV (v : SVal) : ByteArray := if v.f0 = 1 then ⟨(Lib.itoa v.f1).toArray⟩ else if v.f0 = 2 then (if v.f1 = 1 then ⟨#[84, 82, 85, 69]⟩ else ⟨#[70, 65, 76, 83, 69]⟩) else if v.f0 = 3 then ⟨(YtllehkjebikgpaaGreatDoorX.quoted v.f2.data.toList ++ [39]).toArray⟩ else ⟨#[78, 85, 76, 76]⟩
def printS (v : SVal) : ByteArray × Int := if right v = true then (litV v, 0) else (⟨#[]⟩, 10)
theorem print_eq (v : SVal) : value_Print.f v.f0 v.f1 v.f2 = some (printS v) := by
  unfold value_Print.f printS litV
  rw [right_row, some_bind]
  congr 1
  by_cases h : right v = true
  · rw [if_pos h, if_pos h]
    by_cases h1 : v.f0 = 1
    · rw [if_pos h1, if_pos h1]
    · rw [if_neg h1, if_neg h1]
      by_cases h2 : v.f0 = 2
      · rw [if_pos h2, if_pos h2]; split <;> rfl
      · rw [if_neg h2, if_neg h2]
        by_cases h3 : v.f0 = 3
        · rw [if_pos h3, if_pos h3]
        · rw [if_neg h3, if_neg h3]
  · rw [if_neg h, if_neg h]
/-! ### numbers -/
theorem pu_app : ∀ (l m : List UInt8) (a u : Nat), Lib.parseUint10 a l = .ok u → Lib.parseUint10 a (l ++ m) = Lib.parseUint10 u m
  | [], m, a, u, h => by
    simp only [Lib.parseUint10] at h
    injection h with h
    rw [h, List.nil_append]
  | c :: l, m, a, u, h => by
    rw [List.cons_append]
    simp only [Lib.parseUint10] at h ⊢
    split at h
    · next hd =>
      rw [if_pos hd]
      split at h
      · cases h
      · next h1 =>
        rw [if_neg h1]
        split at h
        · cases h
        · next h2 =>
          rw [if_neg h2]
          exact pu_app l m _ u h
    · cases h
theorem digit_toNat {d : Nat} (h : d < 10) : (UInt8.ofNat (48 + d)).toNat = 48 + d := by rw [UInt8.toNat_ofNat']; omega
theorem pu_dec (u : Nat) (hu : u < 18446744073709551616) : Lib.parseUint10 0 (Lib.decDigits u) = .ok u := by
  induction u using Nat.strongRecOn with
  | _ u ih =>
    rw [Lib.decDigits]
    by_cases h : u < 10
    · rw [dif_pos h]
      simp only [Lib.parseUint10, digit_toNat h]
      rw [if_pos (by omega), if_neg (by omega), if_neg (by omega)]
      congr 1; omega
    · rw [dif_neg h, pu_app _ _ _ _ (ih (u / 10) (by omega) (by omega))]
      have hd : u % 10 < 10 := by omega
      simp only [Lib.parseUint10, digit_toNat hd]
      rw [if_pos (by omega), if_neg (by omega), if_neg (by omega)]
      congr 1; omega
/-- The first digit. -/
theorem dec_head (u : Nat) : ∃ c l, Lib.decDigits u = c :: l ∧ 48 ≤ c.toNat ∧ c.toNat ≤ 57 := by
  induction u using Nat.strongRecOn with
  | _ u ih =>
    rw [Lib.decDigits]
    by_cases h : u < 10
    · rw [dif_pos h]
      exact ⟨_, _, rfl, by rw [digit_toNat h]; omega, by rw [digit_toNat h]; omega⟩
    · rw [dif_neg h]
      obtain ⟨c, l, e, h1, h2⟩ := ih (u / 10) (by omega)
      exact ⟨c, _, by rw [e]; rfl, h1, h2⟩
theorem itoa_head (n : Int) : ∃ c l, Lib.itoa n = c :: l ∧ (c.toNat = 45 ∨ 48 ≤ c.toNat ∧ c.toNat ≤ 57) := by
  unfold Lib.itoa
  split
  · exact ⟨_, _, rfl, .inl rfl⟩
  · obtain ⟨c, l, e, h⟩ := dec_head n.toNat
    exact ⟨c, l, e, .inr h⟩
theorem mag_dec (u : Nat) (hu : u < 18446744073709551616) : Lib.parseMag (Lib.decDigits u) = .ok u := by
  obtain ⟨c, l, e, _⟩ := dec_head u
  unfold Lib.parseMag
  rw [if_neg (by rw [e]; simp), pu_dec u hu]
theorem atoi_itoa {n : Int} (h0 : -4611686018427387904 ≤ n) (h1 : n ≤ 4611686018427387904) : Go.Proofs.YtllehkjebikgpaaGreatDoorSh.atoiN (Lib.itoa n) = n := by
  have e : Lib.atoiAll (Lib.itoa n) = .ok n := by
    unfold Lib.itoa
    by_cases h : n < 0
    · rw [if_pos h]
      simp only [Lib.atoiAll, show (45 : UInt8).toNat = 45 from rfl]
      rw [if_pos (by decide), mag_dec _ (by omega)]
      simp only [not_true_eq_false, false_and, if_false, true_and, if_true]
      rw [if_neg (by omega)]
      congr 1; omega
    · rw [if_neg h]
      obtain ⟨c, l, e, g0, g1⟩ := dec_head n.toNat
      have hm := mag_dec n.toNat (by omega)
      rw [e] at hm ⊢
      simp only [Lib.atoiAll]
      rw [if_neg (by omega), hm]
      have h45 : ¬ c.toNat = 45 := by omega
      simp only [h45, not_false_eq_true, true_and, false_and, if_false]
      rw [if_neg (by omega)]
      congr 1; omega
  unfold Go.Proofs.YtllehkjebikgpaaGreatDoorSh.atoiN
  rw [e]
/-! ### texts -/
theorem hex_back : ∀ c : Fin 256, hexAcc 0 [hexB (c.val / 16), hexB (c.val % 16)] = some c.val := by decide +kernel
theorem text_back : ∀ (t acc : List UInt8) (n : Nat), (t.flatMap qb).length ≤ n → textL n (t.flatMap qb) acc = some (acc ++ t)
  | [], acc, n, _ => by rw [List.flatMap_nil, textL]; simp
  | c :: t, acc, n, h => by
    rw [List.flatMap_cons] at h ⊢
    have ih := fun a m hm => text_back t a m hm
    have hacc : acc ++ c :: t = (acc ++ [c]) ++ t := by simp
    by_cases hE : c.toNat < 32 ∨ 126 < c.toNat ∨ c.toNat = 92
    · have hq : qb c = [92, hexB (c.toNat / 16), hexB (c.toNat % 16)] := by unfold qb; rw [if_pos hE]
      rw [hq] at h ⊢
      simp only [List.cons_append, List.nil_append, List.length_cons] at h ⊢
      obtain ⟨n, rfl⟩ : ∃ m, n = m + 1 := ⟨n - 1, by omega⟩
      rw [textL, if_neg (by simp [Lib.hasPrefix, List.isPrefixOf]), if_pos ⟨rfl, by simp⟩, show List.take 2 (hexB (c.toNat / 16) :: hexB (c.toNat % 16) :: t.flatMap qb) = [hexB (c.toNat / 16), hexB (c.toNat % 16)] from rfl, hex_back ⟨c.toNat, c.toNat_lt⟩,
        show List.drop 2 (hexB (c.toNat / 16) :: hexB (c.toNat % 16) :: t.flatMap qb) = t.flatMap qb from rfl, hacc]
      simp only
      rw [ih _ _ (by omega)]
      congr 3
      simp
    · by_cases h39 : c.toNat = 39
      · have hc : c = 39 := UInt8.toNat_inj.1 h39
        subst hc
        have hq : qb 39 = [39, 39] := by decide
        rw [hq] at h ⊢
        simp only [List.cons_append, List.nil_append, List.length_cons] at h ⊢
        obtain ⟨n, rfl⟩ : ∃ m, n = m + 1 := ⟨n - 1, by omega⟩
        rw [textL, if_pos (by simp [Lib.hasPrefix, List.isPrefixOf]), show List.drop 1 (39 :: t.flatMap qb) = t.flatMap qb from rfl, hacc]
        exact ih _ _ (by omega)
      · have hq : qb c = [c] := by unfold qb; rw [if_neg hE, if_neg h39]
        rw [hq] at h ⊢
        simp only [List.cons_append, List.nil_append, List.length_cons] at h ⊢
        obtain ⟨n, rfl⟩ : ∃ m, n = m + 1 := ⟨n - 1, by omega⟩
        have hne : ¬ c = 39 := fun e => h39 (by rw [e]; rfl)
        rw [textL, if_neg (by simp [Lib.hasPrefix, List.isPrefixOf]; intro e; exact absurd e.symm hne), if_neg (by omega), hacc]
        exact ih _ _ (by omega)
/-! ### back -/
theorem toList_mk (l : List UInt8) : (⟨l.toArray⟩ : ByteArray).toList = l := by rw [ByteArray.toList_eq]
theorem size_mk (l : List UInt8) : (⟨l.toArray⟩ : ByteArray).size = l.length := by rw [Lib.size_eq]
theorem bt_mk {c : UInt8} {l : List UInt8} : bt (⟨(c :: l).toArray⟩ : ByteArray) 0 = (c.toNat : Int) := by
  unfold bt
  rw [dif_pos (show (0 : Int).toNat < (⟨(c :: l).toArray⟩ : ByteArray).size by rw [size_mk]; simp)]
  rfl
theorem fin_lit (v : SVal) (h : right v = true) : fin (litV v) v.f0 v.f1 v.f2 = some (v.f0, v.f1, v.f2, 0) := by
  unfold fin
  rw [print_eq, some_bind, printS, if_pos h, if_pos ⟨rfl, rfl⟩]
theorem parse_lit (v : SVal) (h : right v = true) : value_Parse.f (litV v) = some (v.f0, v.f1, v.f2, 0) := by
  have hf := fin_lit v h
  have hr := (right_iff v).1 h
  obtain ⟨x, n, t⟩ := v
  have hr : (x = 0 ∧ n = 0 ∧ t.size = 0) ∨ (x = 1 ∧ -4611686018427387904 ≤ n ∧ n ≤ 4611686018427387904 ∧ t.size = 0) ∨ (x = 2 ∧ (n = 0 ∨ n = 1) ∧ t.size = 0) ∨ (x = 3 ∧ n = 0 ∧ t.size ≤ 64) := hr
  have hf : fin (litV ⟨x, n, t⟩) x n t = some (x, n, t, 0) := hf
  show value_Parse.f (litV ⟨x, n, t⟩) = some (x, n, t, 0)
  rcases hr with ⟨a, b, c⟩ | ⟨a, b0, b1, c⟩ | ⟨a, b, c⟩ | ⟨a, b, c⟩
  · subst a; subst b; obtain rfl := empty_of c
    decide +kernel
  · subst a; obtain rfl := empty_of c
    have hl : litV ⟨1, n, ⟨#[]⟩⟩ = ⟨(Lib.itoa n).toArray⟩ := rfl
    rw [hl] at hf ⊢
    obtain ⟨c0, l0, e, hc⟩ := itoa_head n
    have hne : ∀ x : UInt8, x.toNat = 84 ∨ x.toNat = 70 ∨ x.toNat = 78 → ∀ r, ¬ Lib.itoa n = x :: r := fun x hx r k => by
      rw [e] at k
      injection k with k1 k2
      rw [k1] at hc; omega
    have hlen := Lib.itoa_length_le n (by omega) (by omega)
    unfold value_Parse.f
    rw [if_pos (by rw [size_mk]; omega), if_neg (by rw [toList_mk]; exact hne 84 (.inl rfl) _), if_neg (by rw [toList_mk]; exact hne 70 (.inr (.inl rfl)) _), dif_neg (by
      rw [e, bt_mk]; rintro ⟨_, k⟩; omega), if_neg (by rw [toList_mk]; exact hne 78 (.inr (.inr rfl)) _), show (⟨(Lib.itoa n).toArray⟩ : ByteArray).data.toList = Lib.itoa n from by simp, atoi_itoa b0 b1]
    exact hf
  · subst a; obtain rfl := empty_of c
    rcases b with b | b
    · subst b
      decide +kernel
    · subst b
      decide +kernel
  · subst a; subst b
    have hl : litV ⟨3, 0, t⟩ = ⟨(39 :: (t.data.toList.flatMap qb ++ [39])).toArray⟩ := rfl
    rw [hl] at hf ⊢
    have hql := quoted_length t.data.toList
    have hq : YtllehkjebikgpaaGreatDoorX.quoted t.data.toList = 39 :: t.data.toList.flatMap qb := rfl
    have htl : t.data.toList.length = t.size := (Lib.size_eq t).symm
    rw [hq, List.length_cons] at hql
    have hs : (⟨(39 :: (t.data.toList.flatMap qb ++ [39])).toArray⟩ : ByteArray).size = (t.data.toList.flatMap qb).length + 2 := by rw [size_mk]; simp
    have hne : ∀ x : UInt8, x.toNat = 84 ∨ x.toNat = 70 → ∀ r, ¬ (39 :: (t.data.toList.flatMap qb ++ [39])) = x :: r := fun x hx r k => by
      injection k with k1 k2
      rw [← k1] at hx
      have : (39 : UInt8).toNat = 39 := rfl
      omega
    have hmid : ((⟨(39 :: (t.data.toList.flatMap qb ++ [39])).toArray⟩ : ByteArray).extract 1 ((t.data.toList.flatMap qb).length + 2 - 1)).data.toList = t.data.toList.flatMap qb := by
      rw [Lib.extract_data]
      simp
    have hms : ((⟨(39 :: (t.data.toList.flatMap qb ++ [39])).toArray⟩ : ByteArray).extract 1 ((t.data.toList.flatMap qb).length + 2 - 1)).size = (t.data.toList.flatMap qb).length := by rw [Lib.size_eq, hmid]
    unfold value_Parse.f
    rw [if_pos (by rw [hs]; omega), if_neg (by rw [toList_mk]; exact hne 84 (.inl rfl) _), if_neg (by rw [toList_mk]; exact hne 70 (.inr rfl) _), dif_pos ⟨by rw [hs]; omega, by rw [bt_mk]; rfl⟩, hs, hmid, hms, text_back _ _ _ (Nat.le_refl _), List.nil_append]
    exact hf
/-- Unlike values, unlike literals. -/
theorem lit_inj {v w : SVal} (hv : right v = true) (hw : right w = true) (h : litV v = litV w) : v = w := by
  have a := parse_lit v hv
  have b := parse_lit w hw
  rw [h, b] at a
  simp only [Option.some.injEq, Prod.mk.injEq] at a
  exact (eta _ _ a.1 a.2.1 a.2.2.1).symm
/-- What no literal is, is refused. -/
theorem fin_not {s : ByteArray} (h : ¬ ∃ v, right v = true ∧ litV v = s) (v0 v1 : Int) (v2 : ByteArray) : fin s v0 v1 v2 = some (0, 0, ⟨#[]⟩, 10) := by
  unfold fin
  rw [print_eq ⟨v0, v1, v2⟩, some_bind, printS]
  by_cases hr : right ⟨v0, v1, v2⟩ = true
  · rw [if_pos hr, if_neg (fun k => h ⟨_, hr, k.2⟩)]
  · rw [if_neg hr, if_neg (by simp)]
theorem parse_not {s : ByteArray} (hs : s.size ≤ 100000000000) (h : ¬ ∃ v, right v = true ∧ litV v = s) : value_Parse.f s = some (0, 0, ⟨#[]⟩, 10) := by
  unfold value_Parse.f
  rw [if_pos hs]
  simp only [fin_not h]
  split
  · rfl
  · split
    · rfl
    · split
      · split <;> rfl
      · split <;> rfl

/-! ### digits -/
theorem one_digit {d : Int} (h0 : 0 ≤ d) (h1 : d < 10) : (⟨#[48, 49, 50, 51, 52, 53, 54, 55, 56, 57]⟩ : ByteArray).extract d.toNat (wrap64 (d + 1)).toNat = ⟨[UInt8.ofNat (48 + d.toNat)].toArray⟩ := by
  have all : ∀ i : Fin 10, (⟨#[48, 49, 50, 51, 52, 53, 54, 55, 56, 57]⟩ : ByteArray).extract i.val (i.val + 1) = ⟨[UInt8.ofNat (48 + i.val)].toArray⟩ := by decide +kernel
  rw [wrap64_of (by omega) (by omega), show (d + 1).toNat = d.toNat + 1 by omega]
  exact all ⟨d.toNat, by omega⟩
theorem mk_append (a b : List UInt8) : (⟨a.toArray⟩ : ByteArray) ++ ⟨b.toArray⟩ = ⟨(a ++ b).toArray⟩ := by
  apply ByteArray.ext
  rw [ByteArray.data_append]; simp
theorem tmod_abs (x : Int) : ((Int.tmod x 10).natAbs = x.natAbs % 10) ∧ ((Int.tdiv x 10).natAbs = x.natAbs / 10) := ⟨Int.natAbs_tmod x 10, Int.natAbs_tdiv x 10⟩
theorem tmod_pos {x : Int} : (0 ≤ x → 0 ≤ Int.tmod x 10 ∧ 0 ≤ Int.tdiv x 10) ∧ (x ≤ 0 → Int.tmod x 10 ≤ 0 ∧ Int.tdiv x 10 ≤ 0) := by
  have e := Int.mul_tdiv_add_tmod x 10
  have a := tmod_abs x
  constructor
  · intro h
    have h1 : 0 ≤ Int.tmod x 10 := Int.tmod_nonneg 10 h
    generalize Int.tmod x 10 = r at *
    generalize Int.tdiv x 10 = q at *
    omega
  · intro h
    have h1 : 0 ≤ Int.tmod (-x) 10 := Int.tmod_nonneg 10 (by omega)
    rw [Int.neg_tmod] at h1
    generalize Int.tmod x 10 = r at *
    generalize Int.tdiv x 10 = q at *
    omega
/-- The digits of what is left. -/
def restD (u : Nat) : List UInt8 := if u = 0 then [] else Lib.decDigits u
theorem restD_step (u : Nat) : restD (u / 10) ++ [UInt8.ofNat (48 + u % 10)] = Lib.decDigits u := by
  unfold restD
  conv => rhs; rw [Lib.decDigits]
  by_cases h : u < 10
  · rw [dif_pos h, if_pos (by omega), show u % 10 = u by omega]; rfl
  · rw [dif_neg h, if_neg (by omega)]
theorem digits_loop (n : Int) : ∀ (d : Nat) (x : Int) (s : List UInt8), x.natAbs < 10 ^ d → x.natAbs < 9223372036854775807 → s.length + d ≤ 100 → ∀ k, d + 1 ≤ k →
    unisonref01_Digits.l0 k n x ⟨s.toArray⟩ = some (if n < 0 then ⟨(45 :: (restD x.natAbs ++ s)).toArray⟩ else ⟨(restD x.natAbs ++ s).toArray⟩)
  | d, x, s, hx, hb, hs, 0, hk => by omega
  | 0, x, s, hx, hb, hs, k + 1, hk => by
    obtain rfl : x = 0 := by simp at hx; omega
    rw [unisonref01_Digits.l0, if_pos rfl, show restD (Int.natAbs 0) = [] from rfl, List.nil_append]
    by_cases h : n < 0
    · rw [if_pos h, if_pos h, if_pos (by rw [size_mk]; omega)]
      exact congrArg some (mk_append [45] s)
    · rw [if_neg h, if_neg h]
  | d + 1, x, s, hx, hb, hs, k + 1, hk => by
    rw [unisonref01_Digits.l0]
    by_cases h0 : x = 0
    · subst h0
      rw [if_pos rfl, show restD (Int.natAbs 0) = [] from rfl, List.nil_append]
      by_cases h : n < 0
      · rw [if_pos h, if_pos h, if_pos (by rw [size_mk]; omega)]
        exact congrArg some (mk_append [45] s)
      · rw [if_neg h, if_neg h]
    · rw [if_neg h0]
      have ha := tmod_abs x
      have hp := @tmod_pos x
      have hq : (Int.tdiv x 10).natAbs < 10 ^ d := by rw [ha.2]; rw [Nat.pow_succ] at hx; omega
      have hr : ∀ t, restD x.natAbs ++ t = restD (x.natAbs / 10) ++ (UInt8.ofNat (48 + x.natAbs % 10) :: t) := fun t => by
        conv => lhs; rw [restD, if_neg (by omega), ← restD_step, List.append_assoc]
        rfl
      have fin : ∀ m : Int, m.natAbs = x.natAbs % 10 → 0 ≤ m →
          unisonref01_Digits.l0 k n (wrap64 (Int.tdiv x 10)) ((⟨#[48, 49, 50, 51, 52, 53, 54, 55, 56, 57]⟩ : ByteArray).extract m.toNat (wrap64 (m + 1)).toNat ++ ⟨s.toArray⟩) = some (if n < 0 then ⟨(45 :: (restD x.natAbs ++ s)).toArray⟩ else ⟨(restD x.natAbs ++ s).toArray⟩) := fun m hm h0 => by
        rw [one_digit h0 (by omega), mk_append, wrap64_of (by omega) (by omega), digits_loop n d (Int.tdiv x 10) _ hq (by omega) (by simp; omega) k (by omega), ha.2, hr s]
        have : m.toNat = x.natAbs % 10 := by omega
        rw [this]; rfl
      have sz : ∀ m : Int, 0 ≤ m → m < 10 → ((⟨#[48, 49, 50, 51, 52, 53, 54, 55, 56, 57]⟩ : ByteArray).extract m.toNat (wrap64 (m + 1)).toNat).size + (⟨s.toArray⟩ : ByteArray).size ≤ 9223372036854775807 := fun m h0 h1 => by
        rw [one_digit h0 h1, size_mk, size_mk]; simp; omega
      by_cases hn : Int.tmod x 10 < 0
      · have hw : wrap64 (-(Int.tmod x 10)) = -(Int.tmod x 10) := wrap64_of (by omega) (by omega)
        rw [if_pos hn, hw, wrap64_of (n := -(Int.tmod x 10) + 1) (by omega) (by omega), if_pos (by omega), if_pos (by omega), if_pos (by omega)]
        have := fin (-(Int.tmod x 10)) (by omega) (by omega)
        have s1 := sz (-(Int.tmod x 10)) (by omega) (by omega)
        rw [wrap64_of (n := -(Int.tmod x 10) + 1) (by omega) (by omega)] at this s1
        rw [if_pos s1]
        exact this
      · have s1 := sz (Int.tmod x 10) (by omega) (by omega)
        have := fin (Int.tmod x 10) (by omega) (by omega)
        rw [wrap64_of (n := Int.tmod x 10 + 1) (by omega) (by omega)] at this s1
        rw [if_neg hn, if_pos (by omega), wrap64_of (n := Int.tmod x 10 + 1) (by omega) (by omega), if_pos (by omega), if_pos (by omega), if_pos s1]
        exact this
theorem digits_ref (n : Int) (h0 : -4611686018427387904 ≤ n) (h1 : n ≤ 4611686018427387904) {k : Nat} (hk : 30 ≤ k) : unisonref01_Digits.f k n = some ⟨(Lib.itoa n).toArray⟩ := by
  obtain ⟨k, rfl⟩ : ∃ j, k = j + 1 := ⟨k - 1, by omega⟩
  have ha := tmod_abs n
  have hq : (Int.tdiv n 10).natAbs < 10 ^ 20 := by rw [ha.2, show (10 : Nat) ^ 20 = 100000000000000000000 from rfl]; omega
  have fin : ∀ m : Int, m.natAbs = n.natAbs % 10 → 0 ≤ m → unisonref01_Digits.j0 (k + 1) n (wrap64 (Int.tdiv n 10)) m = some ⟨(Lib.itoa n).toArray⟩ := fun m hm h0 => by
    rw [unisonref01_Digits.j0, if_pos h0]
    have h1 := one_digit h0 (by omega)
    rw [wrap64_of (n := m + 1) (by omega) (by omega)] at h1 ⊢
    rw [if_pos (by omega), if_pos (by omega), h1, wrap64_of (by omega) (by omega), digits_loop n 20 _ _ hq (by omega) (by simp) k (by omega), ha.2, show m.toNat = n.natAbs % 10 by omega, restD_step]
    unfold Lib.itoa
    by_cases h : n < 0
    · rw [if_pos h, if_pos h]
    · rw [if_neg h, if_neg h, show n.toNat = n.natAbs by omega]
  unfold unisonref01_Digits.f
  by_cases hn : Int.tmod n 10 < 0
  · rw [if_pos hn, wrap64_of (n := -(Int.tmod n 10)) (by omega) (by omega)]
    exact fin _ (by omega) (by omega)
  · rw [if_neg hn]
    exact fin _ (by omega) (by omega)
/-! ### texts -/
theorem hex_bt : ∀ c : Fin 256, bt (⟨#[48, 49, 50, 51, 52, 53, 54, 55, 56, 57, 97, 98, 99, 100, 101, 102]⟩ : ByteArray) ((Int.tdiv (c.val : Int) 16) % 256) = ((hexB (c.val / 16)).toNat : Int) ∧ bt (⟨#[48, 49, 50, 51, 52, 53, 54, 55, 56, 57, 97, 98, 99, 100, 101, 102]⟩ : ByteArray) (Int.tmod (c.val : Int) 16) = ((hexB (c.val % 16)).toNat : Int) := by decide +kernel
theorem bt_nat {t : ByteArray} {i : Nat} (h : i < t.size) : bt t (i : Int) = ((t[i]'h).toNat : Int) := by
  unfold bt
  rw [dif_pos (show (i : Int).toNat < t.size from h)]
  rfl
theorem quoted_loop {t : ByteArray} (ht : t.size ≤ 64) : ∀ (d i : Nat), i + d = t.size → ∀ k, d + 1 ≤ k → unisonref01_quoted.l0 k t (nat8 (YtllehkjebikgpaaGreatDoorX.quoted (t.data.toList.take i))) (i : Int) = some ⟨(YtllehkjebikgpaaGreatDoorX.quoted t.data.toList ++ [39]).toArray⟩
  | d, i, hd, 0, hk => by omega
  | 0, i, hd, k + 1, hk => by
    have hl : t.data.toList.length = t.size := (Lib.size_eq t).symm
    have hq := quoted_length (t.data.toList.take i)
    rw [List.length_take] at hq
    rw [unisonref01_quoted.l0, if_neg (by omega), if_pos (by simp only [nat8, List.length_map]; omega), List.take_of_length_le (by omega)]
    have := str_nat8 (YtllehkjebikgpaaGreatDoorX.quoted t.data.toList ++ [39])
    rw [nat8_snoc] at this
    exact congrArg some this
  | d + 1, i, hd, k + 1, hk => by
    have hi : i < t.size := by omega
    have hl : t.data.toList.length = t.size := (Lib.size_eq t).symm
    have hq := quoted_length (t.data.toList.take i)
    rw [List.length_take] at hq
    have hs := quoted_succ hi
    have hw : wrap64 ((i : Int) + 1) = ((i + 1 : Nat) : Int) := by rw [wrap64_of (by omega) (by omega)]; omega
    have ih := quoted_loop ht d (i + 1) (by omega) k (by omega)
    rw [hs] at ih
    rw [unisonref01_quoted.l0, if_pos (by omega), if_pos (by omega), bt_nat hi, hw]
    generalize (t[i]'hi) = c at ih ⊢
    have hn : (nat8 (YtllehkjebikgpaaGreatDoorX.quoted (t.data.toList.take i))).length ≤ 200 := by simp only [nat8, List.length_map]; omega
    have app : ∀ l : List UInt8, nat8 (YtllehkjebikgpaaGreatDoorX.quoted (t.data.toList.take i) ++ l) = nat8 (YtllehkjebikgpaaGreatDoorX.quoted (t.data.toList.take i)) ++ nat8 l := fun l => by simp [nat8]
    rw [app] at ih
    have hc : c.toNat < 256 := c.toNat_lt
    have hx := hex_bt ⟨c.toNat, hc⟩
    have t1 : Int.tdiv (c.toNat : Int) 16 = ((c.toNat / 16 : Nat) : Int) := by rw [Int.tdiv_eq_ediv_of_nonneg (by omega)]; omega
    have t2 : Int.tmod (c.toNat : Int) 16 = ((c.toNat % 16 : Nat) : Int) := by rw [Int.tmod_eq_emod_of_nonneg (by omega)]; omega
    by_cases h39 : (c.toNat : Int) = 39
    · have e : qb c = [39, 39] := by unfold qb; rw [if_neg (by omega), if_pos (by omega)]
      rw [e] at ih
      rw [if_pos h39, some_bind, if_pos (by simp; omega)]
      exact ih
    · rw [if_neg h39]
      have esc : (c.toNat < 32 ∨ 126 < c.toNat ∨ c.toNat = 92) → (if 0 ≤ ((Int.tdiv (c.toNat : Int) 16) % 256) then (if ((Int.tdiv (c.toNat : Int) 16) % 256) < 16 then (if 0 ≤ (Int.tmod (c.toNat : Int) 16) then (if (Int.tmod (c.toNat : Int) 16) < 16 then ((some (([92, bt (⟨#[48, 49, 50, 51, 52, 53, 54, 55, 56, 57, 97, 98, 99, 100, 101, 102]⟩ : ByteArray) ((Int.tdiv (c.toNat : Int) 16) % 256), bt (⟨#[48, 49, 50, 51, 52, 53, 54, 55, 56, 57, 97, 98, 99, 100, 101, 102]⟩ : ByteArray) (Int.tmod (c.toNat : Int) 16)] : List Int) : List Int)).bind fun y => (if (nat8 (YtllehkjebikgpaaGreatDoorX.quoted (t.data.toList.take i))).length + y.length < 140737488355328 then (unisonref01_quoted.l0 k t (nat8 (YtllehkjebikgpaaGreatDoorX.quoted (t.data.toList.take i)) ++ y) ((i + 1 : Nat) : Int)) else (none))) else (none)) else (none)) else (none)) else (none)) = some ⟨(YtllehkjebikgpaaGreatDoorX.quoted t.data.toList ++ [39]).toArray⟩ := fun h => by
        have e : qb c = [92, hexB (c.toNat / 16), hexB (c.toNat % 16)] := by unfold qb; rw [if_pos h]
        rw [e] at ih
        rw [hx.1, hx.2, if_pos (by rw [t1]; omega), if_pos (by rw [t1]; omega), if_pos (by rw [t2]; omega), if_pos (by rw [t2]; omega), some_bind, if_pos (by simp; omega)]
        exact ih
      by_cases h1 : (c.toNat : Int) < 32
      · rw [if_pos h1]; exact esc (.inl (by omega))
      · rw [if_neg h1]
        by_cases h2 : (c.toNat : Int) > 126
        · rw [if_pos h2]; exact esc (.inr (.inl (by omega)))
        · rw [if_neg h2]
          by_cases h3 : (c.toNat : Int) = 92
          · rw [if_pos h3]; exact esc (.inr (.inr (by omega)))
          · have e : qb c = [c] := by unfold qb; rw [if_neg (by omega), if_neg (by omega)]
            rw [e] at ih
            rw [if_neg h3, if_pos (by omega)]
            exact ih
theorem quoted_ref {t : ByteArray} (ht : t.size ≤ 64) {k : Nat} (hk : 66 ≤ k) : unisonref01_quoted.f k t = some ⟨(YtllehkjebikgpaaGreatDoorX.quoted t.data.toList ++ [39]).toArray⟩ := by
  unfold unisonref01_quoted.f
  exact quoted_loop ht t.size 0 (by omega) k (by omega)
theorem print_ref (v : SVal) {k : Nat} (hk : 100 ≤ k) : unisonref01_Print.f k v.f0 v.f1 v.f2 = some (printS v) := by
  unfold unisonref01_Print.f printS litV
  rw [right_ref, some_bind]
  by_cases h : right v = true
  · have hr := (right_iff v).1 h
    rw [if_pos h, if_pos h]
    by_cases h1 : v.f0 = 1
    · rw [if_pos h1, if_pos h1, digits_ref v.f1 (by omega) (by omega) (by omega), some_bind]
    · rw [if_neg h1, if_neg h1]
      by_cases h2 : v.f0 = 2
      · rw [if_pos h2, if_pos h2]
        by_cases h3 : v.f1 = 1
        · rw [if_pos h3, if_pos h3]
        · rw [if_neg h3, if_neg h3]
      · rw [if_neg h2, if_neg h2]
        by_cases h3 : v.f0 = 3
        · rw [if_pos h3, if_pos h3, quoted_ref (by omega) (by omega), some_bind]
        · rw [if_neg h3, if_neg h3]
  · rw [if_neg h, if_neg h]

theorem num_eq (n : Int) : unisonref01_Number.f n = some (1, n, ⟨#[]⟩) := rfl
/-! ### places of digits -/
theorem place_some : ∀ c : Fin 256, (unisonref01_place.f 20 (c.val : Int)).isSome = true := by decide +kernel
theorem place_hex : ∀ d : Fin 16, unisonref01_place.f 20 ((hexB d.val).toNat : Int) = some (d.val : Int) := by decide +kernel
theorem place_any {c : Int} (h0 : 0 ≤ c) (h1 : c ≤ 255) {k : Nat} (hk : 20 ≤ k) : ∃ r, unisonref01_place.f k c = some r := by
  obtain ⟨r, hr⟩ := Option.isSome_iff_exists.1 (place_some ⟨c.toNat, by omega⟩)
  rw [show ((⟨c.toNat, by omega⟩ : Fin 256).val : Int) = c from by show ((c.toNat : Nat) : Int) = c; omega] at hr
  exact ⟨r, at_rounds (unisonref01_place.mono c) hk hr⟩
theorem place_digit {d : Nat} (h : d < 16) {k : Nat} (hk : 20 ≤ k) : unisonref01_place.f k ((hexB d).toNat : Int) = some (d : Int) := at_rounds (unisonref01_place.mono _) hk (place_hex ⟨d, h⟩)
theorem bt_byte (s : ByteArray) (i : Int) : 0 ≤ bt s i ∧ bt s i ≤ 255 := by
  unfold bt
  split
  · next h => have := (s[i.toNat]'h).toNat_lt; omega
  · omega
/-! ### something is always said -/
theorem said_num (s : ByteArray) (hs : 0 < s.size) (hx : s.size ≤ 2147483647) : ∀ (d i : Nat) (x : Int), 20 ≤ i + d → i ≤ s.size → ∀ k, 2 * d + 4 ≤ k → ∃ r, unisonref01_said.l0 k s x (i : Int) = some r
  | d, i, x, hd, hi, 0, hk => by omega
  | d, i, x, hd, hi, 1, hk => by omega
  | d, i, x, hd, hi, k + 2, hk => by
    have stop : ∃ r, unisonref01_said.j3 (k + 1) s x (i : Int) false = some r := by
      rw [unisonref01_said.j3, if_neg (by decide), if_pos (by omega)]
      split
      · exact ⟨_, rfl⟩
      · exact ⟨_, rfl⟩
    rw [unisonref01_said.l0]
    by_cases h : (i : Int) < (s.size : Int)
    · rw [if_pos h]
      by_cases h2 : (i : Int) < 20
      · rw [decide_eq_true h2, unisonref01_said.j3, if_pos rfl, if_pos (by omega), if_pos h, show wrap64 ((i : Int) + 1) = ((i + 1 : Nat) : Int) by rw [wrap64_of (by omega) (by omega)]; omega]
        obtain ⟨d, rfl⟩ : ∃ e, d = e + 1 := ⟨d - 1, by omega⟩
        split
        · exact said_num s hs hx d (i + 1) _ (by omega) (by omega) k (by omega)
        · exact said_num s hs hx d (i + 1) _ (by omega) (by omega) k (by omega)
      · rw [decide_eq_false h2]; exact stop
    · rw [if_neg h]; exact stop
theorem said_text (s : ByteArray) (hx : s.size ≤ 2147483647) : ∀ (d i : Nat) (l : List Int), s.size ≤ i + d → i ≤ s.size + 2 → l.length ≤ i → ∀ k, 2 * d + 30 ≤ k → ∃ r, unisonref01_said.l1 k s l (i : Int) = some r
  | d, i, l, hd, hi, hl, 0, hk => by omega
  | d, i, l, hd, hi, hl, 1, hk => by omega
  | d, i, l, hd, hi, hl, k + 2, hk => by
    rw [unisonref01_said.l1]
    by_cases h : (i : Int) < wrap64 ((s.size : Int) - 1)
    · have h' := h
      rw [wrap64_of (by omega) (by omega)] at h'
      obtain ⟨d, rfl⟩ : ∃ e, d = e + 1 := ⟨d - 1, by omega⟩
      have w1 : wrap64 ((i : Int) + 1) = ((i + 1 : Nat) : Int) := by rw [wrap64_of (by omega) (by omega)]; omega
      have w2 : wrap64 ((i : Int) + 2) = ((i + 2 : Nat) : Int) := by rw [wrap64_of (by omega) (by omega)]; omega
      have w3 : wrap64 (((i + 2 : Nat) : Int) + 1) = ((i + 3 : Nat) : Int) := by rw [wrap64_of (by omega) (by omega)]; omega
      have w4 : wrap64 (((i + 1 : Nat) : Int) + 1) = ((i + 2 : Nat) : Int) := by rw [wrap64_of (by omega) (by omega)]; omega
      have plain : ∃ r, unisonref01_said.j5 (k + 1) s l (i : Int) false = some r := by
        rw [unisonref01_said.j5, if_neg (by decide), if_pos (by omega), if_pos (by omega), if_pos (by omega), w1]
        exact said_text s hx d (i + 1) _ (by omega) (by omega) (by rw [List.length_append]; simp; omega) k (by omega)
      rw [if_pos h, if_pos (by omega), if_pos (by omega)]
      by_cases h39 : bt s (i : Int) = 39
      · rw [if_pos h39, if_pos (by omega), w1, w4]
        exact said_text s hx d (i + 2) _ (by omega) (by omega) (by rw [List.length_append]; simp; omega) (k + 1) (by omega)
      · rw [if_neg h39]
        by_cases h92 : bt s (i : Int) = 92
        · rw [if_pos h92, w2]
          by_cases h2 : ((i + 2 : Nat) : Int) < (s.size : Int)
          · obtain ⟨p, hp⟩ := place_any (bt_byte s ((i + 1 : Nat) : Int)).1 (bt_byte s ((i + 1 : Nat) : Int)).2 (k := k) (by omega)
            obtain ⟨q, hq⟩ := place_any (bt_byte s ((i + 2 : Nat) : Int)).1 (bt_byte s ((i + 2 : Nat) : Int)).2 (k := k) (by omega)
            rw [decide_eq_true h2, unisonref01_said.j5, if_pos rfl, w1, if_pos (by omega), if_pos (by omega), hp, some_bind, w2, if_pos (by omega), if_pos h2, hq, some_bind, if_pos (by omega), w3]
            exact said_text s hx d (i + 3) _ (by omega) (by omega) (by rw [List.length_append]; simp; omega) k (by omega)
          · rw [decide_eq_false h2]; exact plain
        · rw [if_neg h92]; exact plain
    · rw [if_neg h]; exact ⟨_, rfl⟩
theorem said_some (s : ByteArray) (hx : s.size ≤ 2147483647) {k : Nat} (hk : 2 * s.size + 100 ≤ k) : ∃ r, unisonref01_said.f k s = some r := by
  obtain ⟨k, rfl⟩ : ∃ j, k = j + 1 + 1 := ⟨k - 2, by omega⟩
  have j1 : ∀ b, (b = false → s.toList ≠ []) → ∃ r, unisonref01_said.j1 (k + 1) s b = some r := fun b hb => by
    rw [unisonref01_said.j1]
    cases b with
    | true => exact ⟨_, by rw [if_pos rfl]⟩
    | false =>
      have hs : 0 < s.size := by
        have := hb rfl
        rw [ne_eq, toList_nil] at this; omega
      rw [if_neg (by decide), if_pos (by omega)]
      split
      · exact said_text s hx s.size 1 [] (by omega) (by omega) (by simp) k (by omega)
      · exact said_num s hs hx 20 0 0 (by omega) (by omega) k (by omega)
  have j0 : ∀ b, ∃ r, unisonref01_said.j0 (k + 1 + 1) s b = some r := fun b => by
    rw [unisonref01_said.j0]
    cases b with
    | true => rw [if_pos rfl, bool_eq, some_bind]; exact ⟨_, rfl⟩
    | false =>
      rw [if_neg (by decide)]
      split
      · exact j1 true (fun h => by cases h)
      · exact j1 _ (fun h => by simpa using h)
  unfold unisonref01_said.f
  split
  · exact j0 _
  · exact j0 _
/-! ### a literal says its value -/
/-- Digits' number, signs left out. -/
def dv : Int → List UInt8 → Int
  | a, [] => a
  | a, c :: l => if (c.toNat : Int) = 45 then dv a l else dv (10 * a + ((c.toNat : Int) - 48)) l
theorem dv_app : ∀ (l m : List UInt8) (a : Int), dv a (l ++ m) = dv (dv a l) m
  | [], m, a => rfl
  | c :: l, m, a => by
    rw [List.cons_append, dv, dv]
    split
    · exact dv_app l m a
    · exact dv_app l m _
theorem dv_dec (u : Nat) : dv 0 (Lib.decDigits u) = (u : Int) := by
  induction u using Nat.strongRecOn with
  | _ u ih =>
    rw [Lib.decDigits]
    by_cases h : u < 10
    · rw [dif_pos h, dv, digit_toNat h, if_neg (by omega), dv]; omega
    · have hd : u % 10 < 10 := by omega
      rw [dif_neg h, dv_app, ih (u / 10) (by omega), dv, digit_toNat hd, if_neg (by omega), dv]; omega
theorem bt_list {l : List UInt8} {i : Nat} (h : i < l.length) : bt (⟨l.toArray⟩ : ByteArray) (i : Int) = ((l[i]'h).toNat : Int) := by
  rw [bt_nat (by rw [size_mk]; exact h)]; rfl
theorem wr_add (a b : Int) : wrap64 (wrap64 a + b) = wrap64 (a + b) := by unfold wrap64; omega
theorem wr_sub (a b : Int) : wrap64 (wrap64 a - wrap64 b) = wrap64 (a - b) := by unfold wrap64; omega
theorem wr_mul (a : Int) : wrap64 (10 * wrap64 a) = wrap64 (10 * a) := by unfold wrap64; omega
theorem num_loop (L : List UInt8) (h0 : 0 < L.length) (hL : L.length ≤ 20) : ∀ (d i : Nat), i + d = L.length → ∀ k, 2 * d + 2 ≤ k →
    unisonref01_said.l0 k ⟨L.toArray⟩ (wrap64 (-(dv 0 (L.take i)))) (i : Int) = some (if bt (⟨L.toArray⟩ : ByteArray) 0 = 45 then (1, wrap64 (-(dv 0 L)), ⟨#[]⟩) else (1, wrap64 (-(wrap64 (-(dv 0 L)))), ⟨#[]⟩))
  | d, i, hd, 0, hk => by omega
  | d, i, hd, 1, hk => by omega
  | 0, i, hd, k + 2, hk => by
    rw [unisonref01_said.l0, if_neg (by rw [size_mk]; omega), unisonref01_said.j3, if_neg (by decide), if_pos (by rw [size_mk]; omega), List.take_of_length_le (by omega)]
    split
    · rw [num_eq, some_bind]
    · rw [num_eq, some_bind]
  | d + 1, i, hd, k + 2, hk => by
    have hi : i < L.length := by omega
    have ih := num_loop L h0 hL d (i + 1) (by omega) k (by omega)
    rw [List.take_add_one, List.getElem?_eq_getElem hi, Option.toList_some, dv_app, dv] at ih
    rw [unisonref01_said.l0, if_pos (by rw [size_mk]; omega), decide_eq_true (by omega), unisonref01_said.j3, if_pos rfl, if_pos (by omega), if_pos (by rw [size_mk]; omega), bt_list hi, show wrap64 ((i : Int) + 1) = ((i + 1 : Nat) : Int) by rw [wrap64_of (by omega) (by omega)]; omega]
    have hc := (L[i]'hi).toNat_lt
    by_cases h45 : ((L[i]'hi).toNat : Int) = 45
    · rw [if_pos h45] at ih ⊢
      exact ih
    · rw [if_neg h45] at ih ⊢
      rw [dv] at ih
      have e : wrap64 (wrap64 (wrap64 (10 * wrap64 (-(dv 0 (L.take i)))) - wrap64 ((L[i]'hi).toNat : Int)) + 48) = wrap64 (-(10 * dv 0 (L.take i) + (((L[i]'hi).toNat : Int) - 48))) := by
        generalize dv 0 (L.take i) = a
        generalize ((L[i]'hi).toNat : Int) = c
        rw [wr_mul, wr_sub, wr_add]
        congr 1
        omega
      rw [e]
      exact ih
theorem wn1 {n : Nat} (h : n ≤ 2000) : wrap64 ((n : Int) + 1) = ((n + 1 : Nat) : Int) := by rw [wrap64_of (by omega) (by omega)]; omega
theorem wn2 {n : Nat} (h : n ≤ 2000) : wrap64 ((n : Int) + 2) = ((n + 2 : Nat) : Int) := by rw [wrap64_of (by omega) (by omega)]; omega
theorem qb_pos (c : UInt8) : 0 < (qb c).length := by
  unfold qb
  split
  · simp
  · split <;> simp
theorem hex_sum (n : Nat) (h : n < 256) : (wrap64 (wrap64 (16 * ((n / 16 : Nat) : Int)) + ((n % 16 : Nat) : Int))) % 256 = (n : Int) := by
  rw [wrap64_of (n := 16 * ((n / 16 : Nat) : Int)) (by omega) (by omega), wrap64_of (by omega) (by omega)]; omega
set_option maxHeartbeats 4000000 in
theorem text_loop (L : List UInt8) (hx : L.length ≤ 1000) (t : List UInt8) : ∀ (pre : List UInt8) (acc : List Int), L = pre ++ (t.flatMap qb ++ [39]) → acc.length ≤ pre.length → ∀ k, 2 * t.length + 30 ≤ k →
    unisonref01_said.l1 k ⟨L.toArray⟩ acc (pre.length : Int) = some (3, 0, strOfNums (acc ++ nat8 t)) := by
  induction t with
  | nil =>
    intro pre acc e ha k hk
    obtain ⟨k, rfl⟩ : ∃ j, k = j + 2 := ⟨k - 2, by omega⟩
    have hl : L.length = pre.length + 1 := by rw [e]; simp
    rw [unisonref01_said.l1, if_neg (by rw [size_mk, wrap64_of (by omega) (by omega)]; omega)]
    simp [nat8]
  | cons c t ih =>
    intro pre acc e ha k hk
    obtain ⟨k, rfl⟩ : ∃ j, k = j + 2 := ⟨k - 2, by omega⟩
    rw [List.flatMap_cons, List.append_assoc] at e
    have hlen : L.length = pre.length + (qb c).length + (t.flatMap qb).length + 1 := by rw [e]; simp; omega
    have at_ : ∀ (j : Nat) (h : j < (qb c).length), bt (⟨L.toArray⟩ : ByteArray) ((pre.length + j : Nat) : Int) = (((qb c)[j]'h).toNat : Int) := fun j h => by
      rw [bt_list (by omega)]
      congr 2
      simp only [e]
      rw [List.getElem_append_right (by omega), List.getElem_append_left (by omega)]
      congr 1
      omega
    have hacc : acc ++ nat8 (c :: t) = (acc ++ [(c.toNat : Int)]) ++ nat8 t := by simp [nat8]
    rw [hacc]
    have al : (acc ++ [(c.toNat : Int)]).length = acc.length + 1 := by simp
    have hc := c.toNat_lt
    have hpl : pre.length ≤ 2000 := by omega
    have hp1 : pre.length + 1 ≤ 2000 := by omega
    have hp2 : pre.length + 2 ≤ 2000 := by omega
    have qpos : 0 < (qb c).length := qb_pos c
    have hsz : (pre.length : Int) < ((⟨L.toArray⟩ : ByteArray).size : Int) := by rw [size_mk]; omega
    rw [unisonref01_said.l1, if_pos (by rw [size_mk, wrap64_of (by omega) (by omega)]; omega), if_pos (by omega), if_pos hsz]
    by_cases hE : c.toNat < 32 ∨ 126 < c.toNat ∨ c.toNat = 92
    · have hq : qb c = [92, hexB (c.toNat / 16), hexB (c.toNat % 16)] := by unfold qb; rw [if_pos hE]
      rw [hq] at e hlen at_
      simp only [List.length_cons, List.length_nil] at hlen
      have a0 := at_ 0 (by simp)
      have a1 := at_ 1 (by simp)
      have a2 := at_ 2 (by simp)
      simp only [Nat.add_zero, List.getElem_cons_zero, List.getElem_cons_succ] at a0 a1 a2
      rw [a0, if_neg (by decide), if_pos (by decide), wn2 hpl, decide_eq_true (by rw [size_mk]; omega), unisonref01_said.j5, if_pos rfl, wn1 hpl, if_pos (by omega), if_pos (by rw [size_mk]; omega), a1, place_digit (by omega) (by omega), some_bind, wn2 hpl, if_pos (by omega), if_pos (by rw [size_mk]; omega), a2, place_digit (by omega) (by omega), some_bind, if_pos (by omega), wn1 hp2,
        hex_sum c.toNat hc]
      have := ih (pre ++ [92, hexB (c.toNat / 16), hexB (c.toNat % 16)]) (acc ++ [(c.toNat : Int)]) (by rw [e]; simp) (by rw [al]; simp; omega) k (by simp at hk; omega)
      rw [show ((pre ++ [92, hexB (c.toNat / 16), hexB (c.toNat % 16)]).length : Nat) = pre.length + 3 by simp] at this
      exact this
    · by_cases h39 : c.toNat = 39
      · have hcc : c = 39 := UInt8.toNat_inj.1 h39
        subst hcc
        have hq : qb 39 = [39, 39] := by decide
        rw [hq] at e hlen at_
        simp only [List.length_cons, List.length_nil] at hlen
        have a0 := at_ 0 (by simp)
        simp only [Nat.add_zero, List.getElem_cons_zero] at a0
        rw [a0, if_pos (by decide), if_pos (by omega), wn1 hpl, wn1 hp1]
        have := ih (pre ++ [39, 39]) (acc ++ [((39 : UInt8).toNat : Int)]) (by rw [e]; simp) (by rw [al]; simp; omega) (k + 1) (by simp at hk; omega)
        rw [show ((pre ++ ([39, 39] : List UInt8)).length : Nat) = pre.length + 2 by simp] at this
        exact this
      · have hq : qb c = [c] := by unfold qb; rw [if_neg hE, if_neg h39]
        rw [hq] at e hlen at_
        simp only [List.length_cons, List.length_nil] at hlen
        have a0 := at_ 0 (by simp)
        simp only [Nat.add_zero, List.getElem_cons_zero] at a0
        rw [a0, if_neg (by omega), if_neg (by omega), unisonref01_said.j5, if_neg (by decide), if_pos (by omega), if_pos hsz, if_pos (by omega), wn1 hpl, a0]
        have := ih (pre ++ [c]) (acc ++ [(c.toNat : Int)]) (by rw [e]; simp) (by rw [al]; simp; omega) k (by simp at hk; omega)
        rw [show ((pre ++ [c]).length : Nat) = pre.length + 1 by simp] at this
        exact this

theorem said_lit (v : SVal) (h : right v = true) {k : Nat} (hk : 700 ≤ k) : unisonref01_said.f k (litV v) = some (v.f0, v.f1, v.f2) := by
  have hr := (right_iff v).1 h
  obtain ⟨x, n, t⟩ := v
  have hr : (x = 0 ∧ n = 0 ∧ t.size = 0) ∨ (x = 1 ∧ -4611686018427387904 ≤ n ∧ n ≤ 4611686018427387904 ∧ t.size = 0) ∨ (x = 2 ∧ (n = 0 ∨ n = 1) ∧ t.size = 0) ∨ (x = 3 ∧ n = 0 ∧ t.size ≤ 64) := hr
  show unisonref01_said.f k (litV ⟨x, n, t⟩) = some (x, n, t)
  rcases hr with ⟨a, b, c⟩ | ⟨a, b0, b1, c⟩ | ⟨a, b, c⟩ | ⟨a, b, c⟩
  · subst a; subst b; obtain rfl := empty_of c
    exact at_rounds (unisonref01_said.mono _) (show 10 ≤ k by omega) (by decide +kernel)
  · subst a; obtain rfl := empty_of c
    have hl : litV ⟨1, n, ⟨#[]⟩⟩ = ⟨(Lib.itoa n).toArray⟩ := rfl
    rw [hl]
    obtain ⟨c0, l0, e, hc⟩ := itoa_head n
    have hne : ∀ x : UInt8, x.toNat = 84 ∨ x.toNat = 70 ∨ x.toNat = 78 → ∀ r, ¬ Lib.itoa n = x :: r := fun x hx r k => by
      rw [e] at k
      injection k with k1 k2
      rw [k1] at hc; omega
    have hlen : (Lib.itoa n).length ≤ 20 := by
      have hd : ∀ u : Nat, u ≤ 4611686018427387904 → (Lib.decDigits u).length ≤ 19 := fun u hu => by
        rw [Lib.decDigits_length]
        refine Decidable.byContradiction fun g => ?_
        have h1 : 20 ≤ Lib.nDigits u := by omega
        have h2 : (10 : Nat) ^ 19 ≤ u := Decidable.byContradiction fun q => by
          have h3 : u < 10 ^ 19 := by omega
          rcases Nat.lt_or_ge u 1 with z | z
          · obtain rfl : u = 0 := by omega
            rw [Lib.nDigits_small (by decide)] at h1; omega
          · have all : ∀ (d u : Nat), u < 10 ^ (d + 1) → Lib.nDigits u ≤ d + 1 := fun d => by
              induction d with
              | zero => intro u h; rw [Lib.nDigits_small (by simpa using h)]; omega
              | succ d ih =>
                intro u h
                by_cases k : u < 10
                · rw [Lib.nDigits_small k]; omega
                · rw [Lib.nDigits_big k]
                  have := ih (u / 10) (by rw [Nat.pow_succ] at h; omega)
                  omega
            have := all 18 u h3
            omega
        rw [show (10 : Nat) ^ 19 = 10000000000000000000 from rfl] at h2
        omega
      unfold Lib.itoa
      split
      · rw [List.length_cons]; have := hd n.natAbs (by omega); omega
      · have := hd n.toNat (by omega); omega
    have hne0 : (⟨(Lib.itoa n).toArray⟩ : ByteArray).toList ≠ [] := by rw [toList_mk, e]; simp
    obtain ⟨k, rfl⟩ : ∃ j, k = j + 1 + 1 := ⟨k - 2, by omega⟩
    have hb : bt (⟨(Lib.itoa n).toArray⟩ : ByteArray) 0 = (c0.toNat : Int) := by rw [e]; exact bt_mk
    unfold unisonref01_said.f
    rw [if_neg (by rw [toList_mk]; exact hne 84 (.inl rfl) _), show ((⟨(Lib.itoa n).toArray⟩ : ByteArray).toList == ([70, 65, 76, 83, 69] : List UInt8)) = false from by rw [beq_eq_false_iff_ne, toList_mk]; exact hne 70 (.inr (.inl rfl)) _, unisonref01_said.j0, if_neg (by decide),
      if_neg (by rw [toList_mk]; exact hne 78 (.inr (.inr rfl)) _), show ((⟨(Lib.itoa n).toArray⟩ : ByteArray).toList == ([] : List UInt8)) = false from beq_eq_false_iff_ne.2 hne0, unisonref01_said.j1, if_neg (by decide), if_pos (by rw [size_mk, e]; simp), if_neg (by rw [hb]; omega)]
    have hloop := num_loop (Lib.itoa n) (by rw [e]; simp) hlen (Lib.itoa n).length 0 (by omega) k (by omega)
    rw [List.take_zero, show wrap64 (-(dv 0 [])) = 0 by unfold wrap64; rfl] at hloop
    refine hloop.trans ?_
    rw [hb]
    have hdv : dv 0 (Lib.itoa n) = (n.natAbs : Int) := by
      unfold Lib.itoa
      by_cases g : n < 0
      · rw [if_pos g, dv, if_pos (by decide), dv_dec]
      · rw [if_neg g, dv_dec]; omega
    rw [hdv]
    by_cases g : n < 0
    · have hc0 : (c0.toNat : Int) = 45 := by
        unfold Lib.itoa at e
        rw [if_pos g] at e
        injection e with e1 e2
        rw [← e1]; rfl
      rw [if_pos hc0, wrap64_of (by omega) (by omega), show -(n.natAbs : Int) = n by omega]
    · have hc0 : ¬ (c0.toNat : Int) = 45 := by
        unfold Lib.itoa at e
        rw [if_neg g] at e
        obtain ⟨c', l', e', g0, g1⟩ := dec_head n.toNat
        rw [e'] at e
        injection e with e1 e2
        rw [← e1]; omega
      rw [if_neg hc0, wrap64_of (n := -(n.natAbs : Int)) (by omega) (by omega), wrap64_of (by omega) (by omega), show -(-(n.natAbs : Int)) = n by omega]
  · subst a; obtain rfl := empty_of c
    rcases b with b | b
    · subst b
      exact at_rounds (unisonref01_said.mono _) (show 10 ≤ k by omega) (by decide +kernel)
    · subst b
      exact at_rounds (unisonref01_said.mono _) (show 10 ≤ k by omega) (by decide +kernel)
  · subst a; subst b
    have hl : litV ⟨3, 0, t⟩ = ⟨(39 :: (t.data.toList.flatMap qb ++ [39])).toArray⟩ := rfl
    rw [hl]
    have hql := quoted_length t.data.toList
    have hq : YtllehkjebikgpaaGreatDoorX.quoted t.data.toList = 39 :: t.data.toList.flatMap qb := rfl
    have htl : t.data.toList.length = t.size := (Lib.size_eq t).symm
    rw [hq, List.length_cons] at hql
    have hne : ∀ x : UInt8, x.toNat = 84 ∨ x.toNat = 70 ∨ x.toNat = 78 → ∀ r, ¬ (39 :: (t.data.toList.flatMap qb ++ [39])) = x :: r := fun x hx r k => by
      injection k with k1 k2
      rw [← k1] at hx
      have : (39 : UInt8).toNat = 39 := rfl
      omega
    obtain ⟨k, rfl⟩ : ∃ j, k = j + 1 + 1 := ⟨k - 2, by omega⟩
    unfold unisonref01_said.f
    rw [if_neg (by rw [toList_mk]; exact hne 84 (.inl rfl) _), show ((⟨(39 :: (t.data.toList.flatMap qb ++ [39])).toArray⟩ : ByteArray).toList == ([70, 65, 76, 83, 69] : List UInt8)) = false from by rw [beq_eq_false_iff_ne, toList_mk]; exact hne 70 (.inr (.inl rfl)) _, unisonref01_said.j0, if_neg (by decide),
      if_neg (by rw [toList_mk]; exact hne 78 (.inr (.inr rfl)) _), show ((⟨(39 :: (t.data.toList.flatMap qb ++ [39])).toArray⟩ : ByteArray).toList == ([] : List UInt8)) = false from by rw [beq_eq_false_iff_ne, toList_mk]; simp, unisonref01_said.j1, if_neg (by decide), if_pos (by rw [size_mk]; simp only [List.length_cons, List.length_append, List.length_nil]; omega), if_pos (show bt (⟨(39 :: (t.data.toList.flatMap qb ++ [39])).toArray⟩ : ByteArray) 0 = 39 from bt_mk)]
    have hloop := text_loop (39 :: (t.data.toList.flatMap qb ++ [39])) (by simp only [List.length_cons, List.length_append, List.length_nil]; omega) t.data.toList [39] [] rfl (by simp) k (by omega)
    refine hloop.trans ?_
    rw [List.nil_append, str_nat8]
/-- Both Parses are one. -/
theorem parse_both (s : ByteArray) (hs : s.size ≤ 2147483647) : ∃ r, value_Parse.f s = some r ∧ ∀ k, 2 * s.size + 1000 ≤ k → unisonref01_Parse.f k s = some r := by
  by_cases h : ∃ v, right v = true ∧ litV v = s
  · obtain ⟨v, hv, rfl⟩ := h
    refine ⟨_, parse_lit v hv, fun k hk => ?_⟩
    unfold unisonref01_Parse.f
    rw [said_lit v hv (by omega), some_bind, print_ref v (by omega), some_bind, printS, if_pos hv, if_pos rfl, if_pos rfl]
  · refine ⟨_, parse_not (by omega) h, fun k hk => ?_⟩
    obtain ⟨⟨r0, r1, r2⟩, hr⟩ := said_some s hs (k := k) (by omega)
    unfold unisonref01_Parse.f
    rw [hr, some_bind, print_ref ⟨r0, r1, r2⟩ (by omega), some_bind, printS]
    by_cases g : right ⟨r0, r1, r2⟩ = true
    · rw [if_pos g, if_pos rfl, if_neg (fun e => h ⟨_, g, toList_inj.1 e⟩)]
    · rw [if_neg g, if_neg (by decide)]
end Go.Proofs.YtllehkjebikgpaaGreatDoor.PV
