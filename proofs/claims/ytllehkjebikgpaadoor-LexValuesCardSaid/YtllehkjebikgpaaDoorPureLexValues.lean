/- The plain law LexValues: a literal is one token; no conditions beyond those in each theorem's head. -/
import Derived.Test.YtllehkjebikgpaaDoorLXR
import Derived.Test.YtllehkjebikgpaaDoorPFLLexValues
import Derived.Lib.AtoiAllCases
import Derived.Lib.ItoaLen
namespace Go.Proofs.YtllehkjebikgpaaDoor.PS
open Go.RowKit Go.Proofs.YtllehkjebikgpaaDoorSh Go.Proofs.YtllehkjebikgpaaDoorW.PrintWords Go.Proofs.YtllehkjebikgpaaDoorW.PrintLast Go.Proofs.YtllehkjebikgpaaDoorW.PrintMore Go.Proofs.YtllehkjebikgpaaDoorX Go.Proofs.YtllehkjebikgpaaDoorL Go.Proofs.YtllehkjebikgpaaDoor.PA
set_option linter.unusedVariables false
set_option linter.unusedSimpArgs false
/-! ### numbers -/
theorem pu_app : ∀ (l m : List UInt8) (a u : Nat), Lib.parseUint10 a l = .ok u → Lib.parseUint10 a (l ++ m) = Lib.parseUint10 u m
  | [], m, a, u, h => by
    simp only [Lib.parseUint10] at h
    injection h with h
    rw [h, List.nil_append]
  | c :: l, m, a, u, h => by
    rw [List.cons_append]
    simp only [Lib.parseUint10] at h ⊢
    split at h
    · next hd =>
      rw [if_pos hd]
      split at h
      · cases h
      · next h1 =>
        rw [if_neg h1]
        split at h
        · cases h
        · next h2 =>
          rw [if_neg h2]
          exact pu_app l m _ u h
    · cases h
theorem digit_toNat {d : Nat} (h : d < 10) : (UInt8.ofNat (48 + d)).toNat = 48 + d := by rw [UInt8.toNat_ofNat']; omega
theorem pu_dec (u : Nat) (hu : u < 18446744073709551616) : Lib.parseUint10 0 (Lib.decDigits u) = .ok u := by
  induction u using Nat.strongRecOn with
  | _ u ih =>
    rw [Lib.decDigits]
    by_cases h : u < 10
    · rw [dif_pos h]
      simp only [Lib.parseUint10, digit_toNat h]
      rw [if_pos (by omega), if_neg (by omega), if_neg (by omega)]
      congr 1; omega
    · rw [dif_neg h, pu_app _ _ _ _ (ih (u / 10) (by omega) (by omega))]
      have hd : u % 10 < 10 := by omega
      simp only [Lib.parseUint10, digit_toNat hd]
      rw [if_pos (by omega), if_neg (by omega), if_neg (by omega)]
      congr 1; omega
/-- The first digit. -/
theorem dec_head (u : Nat) : ∃ c l, Lib.decDigits u = c :: l ∧ 48 ≤ c.toNat ∧ c.toNat ≤ 57 := by
  induction u using Nat.strongRecOn with
  | _ u ih =>
    rw [Lib.decDigits]
    by_cases h : u < 10
    · rw [dif_pos h]
      exact ⟨_, _, rfl, by rw [digit_toNat h]; omega, by rw [digit_toNat h]; omega⟩
    · rw [dif_neg h]
      obtain ⟨c, l, e, h1, h2⟩ := ih (u / 10) (by omega)
      exact ⟨c, _, by rw [e]; rfl, h1, h2⟩
theorem itoa_head (n : Int) : ∃ c l, Lib.itoa n = c :: l ∧ (c.toNat = 45 ∨ 48 ≤ c.toNat ∧ c.toNat ≤ 57) := by
  unfold Lib.itoa
  split
  · exact ⟨_, _, rfl, .inl rfl⟩
  · obtain ⟨c, l, e, h⟩ := dec_head n.toNat
    exact ⟨c, l, e, .inr h⟩
theorem mag_dec (u : Nat) (hu : u < 18446744073709551616) : Lib.parseMag (Lib.decDigits u) = .ok u := by
  obtain ⟨c, l, e, _⟩ := dec_head u
  unfold Lib.parseMag
  rw [if_neg (by rw [e]; simp), pu_dec u hu]
theorem atoiAll_itoa {n : Int} (h0 : -4611686018427387904 ≤ n) (h1 : n ≤ 4611686018427387904) : Lib.atoiAll (Lib.itoa n) = .ok n := by
  show Lib.atoiAll (Lib.itoa n) = .ok n
  unfold Lib.itoa
  by_cases h : n < 0
  · rw [if_pos h]
    simp only [Lib.atoiAll, show (45 : UInt8).toNat = 45 from rfl]
    rw [if_pos (by decide), mag_dec _ (by omega)]
    simp only [not_true_eq_false, false_and, if_false, true_and, if_true]
    rw [if_neg (by omega)]
    congr 1; omega
  · rw [if_neg h]
    obtain ⟨c, l, e, g0, g1⟩ := dec_head n.toNat
    have hm := mag_dec n.toNat (by omega)
    rw [e] at hm ⊢
    simp only [Lib.atoiAll]
    rw [if_neg (by omega), hm]
    have h45 : ¬ c.toNat = 45 := by omega
    simp only [h45, not_false_eq_true, true_and, false_and, if_false]
    rw [if_neg (by omega)]
    congr 1; omega
/-! ### texts -/
theorem hex_back : ∀ c : Fin 256, hexAcc 0 [hexB (c.val / 16), hexB (c.val % 16)] = some c.val := by decide +kernel
theorem text_back : ∀ (t acc : List UInt8) (n : Nat), (t.flatMap qb).length ≤ n → textL n (t.flatMap qb) acc = some (acc ++ t)
  | [], acc, n, _ => by rw [List.flatMap_nil, textL]; simp
  | c :: t, acc, n, h => by
    rw [List.flatMap_cons] at h ⊢
    have ih := fun a m hm => text_back t a m hm
    have hacc : acc ++ c :: t = (acc ++ [c]) ++ t := by simp
    by_cases hE : c.toNat < 32 ∨ 126 < c.toNat ∨ c.toNat = 92
    · have hq : qb c = [92, hexB (c.toNat / 16), hexB (c.toNat % 16)] := by unfold qb; rw [if_pos hE]
      rw [hq] at h ⊢
      simp only [List.cons_append, List.nil_append, List.length_cons] at h ⊢
      obtain ⟨n, rfl⟩ : ∃ m, n = m + 1 := ⟨n - 1, by omega⟩
      rw [textL, if_neg (by simp [Lib.hasPrefix, List.isPrefixOf]), if_pos ⟨rfl, by simp⟩, show List.take 2 (hexB (c.toNat / 16) :: hexB (c.toNat % 16) :: t.flatMap qb) = [hexB (c.toNat / 16), hexB (c.toNat % 16)] from rfl, hex_back ⟨c.toNat, c.toNat_lt⟩,
        show List.drop 2 (hexB (c.toNat / 16) :: hexB (c.toNat % 16) :: t.flatMap qb) = t.flatMap qb from rfl, hacc]
      simp only
      rw [ih _ _ (by omega)]
      congr 3
      simp
    · by_cases h39 : c.toNat = 39
      · have hc : c = 39 := UInt8.toNat_inj.1 h39
        subst hc
        have hq : qb 39 = [39, 39] := by decide
        rw [hq] at h ⊢
        simp only [List.cons_append, List.nil_append, List.length_cons] at h ⊢
        obtain ⟨n, rfl⟩ : ∃ m, n = m + 1 := ⟨n - 1, by omega⟩
        rw [textL, if_pos (by simp [Lib.hasPrefix, List.isPrefixOf]), show List.drop 1 (39 :: t.flatMap qb) = t.flatMap qb from rfl, hacc]
        exact ih _ _ (by omega)
      · have hq : qb c = [c] := by unfold qb; rw [if_neg hE, if_neg h39]
        rw [hq] at h ⊢
        simp only [List.cons_append, List.nil_append, List.length_cons] at h ⊢
        obtain ⟨n, rfl⟩ : ∃ m, n = m + 1 := ⟨n - 1, by omega⟩
        have hne : ¬ c = 39 := fun e => h39 (by rw [e]; rfl)
        rw [textL, if_neg (by simp [Lib.hasPrefix, List.isPrefixOf]; intro e; exact absurd e.symm hne), if_neg (by omega), hacc]
        exact ih _ _ (by omega)

theorem cls_digit : ∀ c : Fin 256, 48 ≤ c.val ∧ c.val ≤ 57 → clsI (c.val : Int) = 2 := by decide +kernel
theorem dec_all (u : Nat) : ∀ c ∈ Lib.decDigits u, cls c = 2 := by
  induction u using Nat.strongRecOn with
  | _ u ih =>
    intro c hc
    rw [Lib.decDigits] at hc
    have hd : ∀ d : Nat, d < 10 → cls (UInt8.ofNat (48 + d)) = 2 := fun d h => by
      have := cls_digit ⟨(UInt8.ofNat (48 + d)).toNat, UInt8.toNat_lt _⟩ (by show 48 ≤ (UInt8.ofNat (48 + d)).toNat ∧ (UInt8.ofNat (48 + d)).toNat ≤ 57; rw [digit_toNat h]; omega)
      exact this
    by_cases h : u < 10
    · rw [dif_pos h] at hc
      rcases List.mem_cons.1 hc with rfl | hc
      · exact hd u h
      · cases hc
    · rw [dif_neg h] at hc
      rcases List.mem_append.1 hc with hc | hc
      · exact ih (u / 10) (by omega) c hc
      · rcases List.mem_cons.1 hc with rfl | hc
        · exact hd (u % 10) (by omega)
        · cases hc
theorem runL_all {l : List UInt8} (h : ∀ c ∈ l, inRun c = true) : runL l = l := by
  unfold runL
  induction l with
  | nil => rfl
  | cons c r ih => rw [List.takeWhile_cons, if_pos (h c List.mem_cons_self), ih (fun d hd => h d (List.mem_cons_of_mem _ hd))]
theorem num_run {n : Int} (h0 : 0 ≤ n) (h1 : n ≤ 4611686018427387904) : Run (Lib.itoa n) 0 [mkT (2, n, []) 0, endT (Lib.itoa n).length] none := by
  have hdig : Lib.itoa n = Lib.decDigits n.toNat := by unfold Lib.itoa; rw [if_neg (by omega)]
  have hall : ∀ c ∈ Lib.itoa n, cls c = 2 := by rw [hdig]; exact dec_all _
  have hrun : runL (Lib.itoa n) = Lib.itoa n := runL_all fun c hc => inRun_of (.inl (hall c hc))
  have hat := atoiAll_itoa (n := n) (by omega) h1
  have hN : atoiN (Lib.itoa n) = n := by unfold atoiN; rw [hat]
  have hO : atoiOk (Lib.itoa n) = true := by unfold atoiOk; rw [hat]
  have hnum : numL (Lib.itoa n) = (n, true) := by
    unfold numL
    rw [hN, hO, decide_eq_true h0, decide_eq_true h1]; simp
  obtain ⟨c, l, e, hd⟩ := dec_head n.toNat
  rw [← hdig] at e
  rw [e] at hrun hnum hall ⊢
  have h2 : cls c = 2 := hall c List.mem_cons_self
  have htok : tokL (c :: l) = ((2, n, []), (c :: l).length, 0) := by
    rw [tokL, if_pos h2, hrun, hnum, if_pos rfl]
  have := Run.tok (i := 0) (c := c) (r := l) (ts := [endT (c :: l).length]) (e := none) (by rw [h2]; decide) (by
    unfold isRem
    simp only [List.isPrefixOf]
    have : ((45 : UInt8) == c) = false := by rw [beq_eq_false_iff_ne]; rintro rfl; rw [cls_dash] at h2; exact absurd h2 (by decide)
    rw [this]; rfl) (by rw [htok]) (by
    rw [htok]
    show Run ((c :: l).drop (c :: l).length) (0 + (c :: l).length) _ _
    rw [List.drop_length, Nat.zero_add]
    exact .fin _)
  rw [htok] at this
  exact this
theorem qend_quoted : ∀ t : List UInt8, qend (t.flatMap qb ++ [39]) = some ((t.flatMap qb).length + 1)
  | [] => by decide
  | c :: t => by
    have ih := qend_quoted t
    rw [List.flatMap_cons, List.append_assoc, List.length_append]
    have hc := c.toNat_lt
    by_cases hE : c.toNat < 32 ∨ 126 < c.toNat ∨ c.toNat = 92
    · have hq : qb c = [92, hexB (c.toNat / 16), hexB (c.toNat % 16)] := by unfold qb; rw [if_pos hE]
      have hh : ∀ d : Fin 16, ¬ (hexB d.val).toNat = 39 := by decide
      have h1 := hh ⟨c.toNat / 16, by omega⟩
      have h2 := hh ⟨c.toNat % 16, by omega⟩
      rw [hq]
      show qend (92 :: hexB (c.toNat / 16) :: hexB (c.toNat % 16) :: (t.flatMap qb ++ [39])) = _
      rw [qend_not (by decide), qend_not h1, qend_not h2, ih]
      simp only [Option.map_some, List.length_cons, List.length_nil]
      congr 1; omega
    · by_cases h39 : c.toNat = 39
      · have hq : qb c = [39, 39] := by unfold qb; rw [if_neg hE, if_pos h39]
        rw [hq]
        show qend (39 :: 39 :: (t.flatMap qb ++ [39])) = _
        rw [qend, if_pos (by decide), if_pos (by decide), ih]
        simp only [Option.map_some, List.length_cons, List.length_nil]
        congr 1; omega
      · have hq : qb c = [c] := by unfold qb; rw [if_neg hE, if_neg h39]
        rw [hq]
        show qend (c :: (t.flatMap qb ++ [39])) = _
        rw [qend_not h39, ih]
        simp only [Option.map_some, List.length_cons, List.length_nil]
        congr 1; omega
theorem right3 {t : ByteArray} (ht : t.size ≤ 64) : value_Right.f 3 0 t = some true := by
  unfold value_Right.f
  rw [if_neg (by decide), if_neg (by decide), if_neg (by decide), if_pos rfl, if_pos rfl, decide_eq_true (by omega)]
theorem print3 {t : ByteArray} (ht : t.size ≤ 64) : value_Print.f 3 0 t = some (⟨(YtllehkjebikgpaaDoorX.quoted (bl t) ++ [39]).toArray⟩, 0) := by
  unfold value_Print.f
  rw [right3 ht]; rfl
theorem lit_text {t : ByteArray} (ht : t.size ≤ 64) : litL (YtllehkjebikgpaaDoorX.quoted (bl t) ++ [39]) = some (bl t) := by
  have hq : YtllehkjebikgpaaDoorX.quoted (bl t) ++ [39] = 39 :: ((bl t).flatMap qb ++ [39]) := rfl
  have hql : ((bl t).flatMap qb).length ≤ 3 * 64 := by
    have hb : ∀ l : List UInt8, (l.flatMap qb).length ≤ 3 * l.length := fun l => by
      induction l with
      | nil => simp
      | cons c l ih =>
        have : (qb c).length ≤ 3 := by unfold qb; split <;> (try split) <;> simp
        rw [List.flatMap_cons, List.length_append, List.length_cons]; omega
    have := hb (bl t)
    rw [bl_length] at this
    omega
  have hs : (⟨(39 :: ((bl t).flatMap qb ++ [39])).toArray⟩ : ByteArray).size = ((bl t).flatMap qb).length + 2 := by rw [size_mk']; simp
  have hb : bt (⟨(39 :: ((bl t).flatMap qb ++ [39])).toArray⟩ : ByteArray) 0 = 39 := by
    have hi : 0 < (bl (⟨(39 :: ((bl t).flatMap qb ++ [39])).toArray⟩ : ByteArray)).length := by rw [bl_mk]; simp
    have := bt_bl hi
    rw [show ((0 : Nat) : Int) = 0 from rfl] at this
    rw [this]; rfl
  have hT : ¬ (⟨(39 :: ((bl t).flatMap qb ++ [39])).toArray⟩ : ByteArray).toList = [84, 82, 85, 69] := by rw [toList_bl, bl_mk]; intro e; exact absurd (List.cons.inj e).1 (by decide)
  have hF : ¬ (⟨(39 :: ((bl t).flatMap qb ++ [39])).toArray⟩ : ByteArray).toList = [70, 65, 76, 83, 69] := by rw [toList_bl, bl_mk]; intro e; exact absurd (List.cons.inj e).1 (by decide)
  have hmid : ((⟨(39 :: ((bl t).flatMap qb ++ [39])).toArray⟩ : ByteArray).extract 1 (((bl t).flatMap qb).length + 2 - 1)).data.toList = (bl t).flatMap qb := by
    rw [Lib.extract_data]
    simp
  have hms : ((⟨(39 :: ((bl t).flatMap qb ++ [39])).toArray⟩ : ByteArray).extract 1 (((bl t).flatMap qb).length + 2 - 1)).size = ((bl t).flatMap qb).length := by rw [Lib.size_eq, hmid]
  have hp : value_Parse.f ⟨(39 :: ((bl t).flatMap qb ++ [39])).toArray⟩ = some (3, 0, t, 0) := by
    unfold value_Parse.f
    rw [if_pos (by rw [hs]; omega), if_neg hT, if_neg hF, dif_pos ⟨by rw [hs]; omega, hb⟩, hs, hmid, hms, text_back _ _ _ (Nat.le_refl _), List.nil_append]
    show fin _ 3 0 ⟨(bl t).toArray⟩ = _
    rw [mk_bl]
    unfold fin
    rw [print3 ht, some_bind, if_pos ⟨rfl, rfl⟩]
  rw [hq]
  unfold litL
  rw [hp]; rfl
theorem text_run {t : ByteArray} (ht : t.size ≤ 64) : Run (YtllehkjebikgpaaDoorX.quoted (bl t) ++ [39]) 0 [mkT (5, 0, bl t) 0, endT (YtllehkjebikgpaaDoorX.quoted (bl t) ++ [39]).length] none := by
  have hl := lit_text ht
  have hq : YtllehkjebikgpaaDoorX.quoted (bl t) ++ [39] = 39 :: ((bl t).flatMap qb ++ [39]) := rfl
  have hqe := qend_quoted (bl t)
  rw [hq] at hl ⊢
  have hlen : (39 :: ((bl t).flatMap qb ++ [39])).length = 1 + (((bl t).flatMap qb).length + 1) := by simp; omega
  have c6 : cls 39 = 6 := cls_quote.2 rfl
  have htok : tokL (39 :: ((bl t).flatMap qb ++ [39])) = ((5, 0, bl t), (39 :: ((bl t).flatMap qb ++ [39])).length, 0) := by
    rw [tokL, if_neg (by rw [c6]; decide), if_neg (by rw [c6]; decide), if_neg (by rw [c6]; decide), if_pos c6, hqe, some_bind, ← hlen, List.take_length, hl]
    rfl
  have := Run.tok (i := 0) (c := 39) (r := (bl t).flatMap qb ++ [39]) (ts := [endT (39 :: ((bl t).flatMap qb ++ [39])).length]) (e := none) (by rw [c6]; decide) rfl (by rw [htok]) (by
    rw [htok]
    show Run ((39 :: ((bl t).flatMap qb ++ [39])).drop (39 :: ((bl t).flatMap qb ++ [39])).length) (0 + (39 :: ((bl t).flatMap qb ++ [39])).length) _ _
    rw [List.drop_length, Nat.zero_add]
    exact .fin _)
  rw [htok] at this
  exact this
theorem rd_natV (xs : List S29) (i : Nat) (h : i < xs.length) : rd_T29 xs (i : Int) = xs[i] := by
  unfold rd_T29
  rw [Int.toNat_natCast, List.getD_eq_getElem?_getD, List.getElem?_eq_getElem h]; rfl
theorem ref_right {x n : Int} {t : ByteArray} (h : unisonref01_Right.f x n t = some true) (hx : x = 1 ∨ x = 3) : (x = 1 ∧ -4611686018427387904 ≤ n ∧ n ≤ 4611686018427387904 ∧ t.size = 0) ∨ (x = 3 ∧ n = 0 ∧ t.size ≤ 64) := by
  unfold unisonref01_Right.f at h
  rcases hx with rfl | rfl
  · rw [if_neg (by decide), if_pos rfl] at h
    split at h
    · next h0 =>
      split at h
      · next h1 =>
        have h := Option.some.inj h
        rw [beq_iff_eq, toList_bl] at h
        have hl := bl_length t
        rw [h] at hl
        exact .inl ⟨rfl, h0, h1, hl.symm⟩
      · cases h
    · cases h
  · rw [if_neg (by decide), if_neg (by decide), if_neg (by decide), if_pos rfl] at h
    split at h
    · next h0 =>
      have h := of_decide_eq_true (Option.some.inj h)
      exact .inr ⟨rfl, h0, by omega⟩
    · cases h
theorem ref_right_some (x n : Int) (t : ByteArray) : ∃ b, unisonref01_Right.f x n t = some b := by
  unfold unisonref01_Right.f
  repeat' split
  all_goals exact ⟨_, rfl⟩
end Go.Proofs.YtllehkjebikgpaaDoor.PS
namespace Go.Proofs.YtllehkjebikgpaaDoor.Pure
open Go.RowKit Go.Proofs.YtllehkjebikgpaaDoorW.PrintWords Go.Proofs.YtllehkjebikgpaaDoorW.PrintLast Go.Proofs.YtllehkjebikgpaaDoorW.PrintMore Go.Proofs.YtllehkjebikgpaaDoorX Go.Proofs.YtllehkjebikgpaaDoorL Go.Proofs.YtllehkjebikgpaaDoor.PA Go.Proofs.YtllehkjebikgpaaDoor.PS
theorem LexValues : ∀ (a0_0 a0_1 : Int) (a0_2 : ByteArray), (Lit.int .i64 a0_0).wf = true → (Lit.int .i64 a0_1).wf = true → ∃ k, unisonlaw10_LexValues.f k a0_0 a0_1 a0_2 = some true := by
  intro x n t _ _
  have hrd : ∀ (a b : S29), rd_T29 [a, b] 0 = a := fun _ _ => rfl
  obtain ⟨K, hK⟩ : ∃ K : Nat, 5000 ≤ K := ⟨5000, Nat.le_refl _⟩
  refine ⟨K + 1 + 1 + 1 + 1, ?_⟩
  unfold unisonlaw10_LexValues.f
  obtain ⟨b, hb⟩ := ref_right_some x n t
  obtain ⟨p, hp⟩ := print_some x n t
  have early : ∀ k s a b c, unisonlaw10_LexValues.j1 (k + 1) true s a true b c t = some true := fun k s a b c => by rw [unisonlaw10_LexValues.j1, if_pos rfl]
  rw [awake_all (by omega), some_bind, hb, some_bind, hp, some_bind, unisonlaw10_LexValues.j0]
  cases b with
  | false => rw [if_neg (by decide)]; exact early _ _ _ _ _
  | true =>
    rw [if_pos rfl]
    by_cases h3 : x = 3
    · subst h3
      obtain ⟨h, _⟩ | ⟨_, h0, ht⟩ := ref_right hb (.inr rfl)
      · exact absurd h (by decide)
      · subst h0
        have hP := print3 ht
        rw [hP] at hp
        obtain rfl := Option.some.inj hp
        have hR := text_run ht
        have hlen : (YtllehkjebikgpaaDoorX.quoted (PS.bl t) ++ [39]).length ≤ 1000 := by
          have hq : YtllehkjebikgpaaDoorX.quoted (PS.bl t) ++ [39] = 39 :: ((PS.bl t).flatMap qb ++ [39]) := rfl
          have hb : ∀ l : List UInt8, (l.flatMap qb).length ≤ 3 * l.length := fun l => by
            induction l with
            | nil => simp
            | cons c l ih =>
              have : (qb c).length ≤ 3 := by unfold qb; split <;> (try split) <;> simp
              rw [List.flatMap_cons, List.length_append, List.length_cons]; omega
          have := hb (PS.bl t)
          rw [bl_length] at this
          rw [hq]; simp only [List.length_cons, List.length_append, List.length_nil]; omega
        have hsc : lex_Scan.f (K + 1 + 1) ⟨(YtllehkjebikgpaaDoorX.quoted (PS.bl t) ++ [39]).toArray⟩ = some ([mkT (5, 0, PS.bl t) 0, endT (YtllehkjebikgpaaDoorX.quoted (PS.bl t) ++ [39]).length], 0, 0) := scan_of (k := K + 1 + 1) (s := ⟨(YtllehkjebikgpaaDoorX.quoted (PS.bl t) ++ [39]).toArray⟩) (ts := [mkT (5, 0, PS.bl t) 0, endT (YtllehkjebikgpaaDoorX.quoted (PS.bl t) ++ [39]).length]) (e := none) (by rw [bl_mk]; exact hR) (by rw [size_mk']; exact hlen) (by omega)
        rw [if_pos rfl, unisonlaw10_LexValues.j1, if_neg (by decide)]
        dsimp only
        rw [hsc, some_bind, unisonlaw10_LexValues.j2]
        dsimp only
        rw [if_pos rfl, if_pos rfl, if_pos (by rfl), if_pos (by show (0 : Int) < 2; decide), hrd, unisonlaw10_LexValues.j3, if_neg (by show ¬ ((0 : Int) != 0) = true; decide), if_neg (by decide), if_pos rfl, if_pos (by show (0 : Int) < 2; decide), hrd, if_pos (show (mkT (5, 0, PS.bl t) 0).f0 = 5 from rfl)]
        show some ((⟨(PS.bl t).toArray⟩ : ByteArray).toList == t.toList) = some true
        rw [mk_bl]; simp
    · rw [if_neg h3]
      by_cases h1 : x = 1
      · subst h1
        obtain ⟨_, l0, l1, ht⟩ | ⟨h, _⟩ := ref_right hb (.inl rfl)
        · rw [if_pos rfl]
          by_cases hn : n < 0
          · rw [decide_eq_true hn]; exact early _ _ _ _ _
          · have hP : value_Print.f 1 n t = some (⟨(Lib.itoa n).toArray⟩, 0) := by
              have hr : value_Right.f 1 n t = some true := by
                unfold value_Right.f
                have : t.toList = [] := by rw [toList_bl]; exact List.eq_nil_of_length_eq_zero (by rw [bl_length]; exact ht)
                rw [if_neg (by decide), if_pos rfl, if_pos l0, if_pos l1, this]; rfl
              unfold value_Print.f
              rw [hr]; rfl
            rw [hP] at hp
            obtain rfl := Option.some.inj hp
            have hR := num_run (by omega) l1
            have hlen := Lib.itoa_length_le n (by omega) (by omega)
            have hsc : lex_Scan.f (K + 1 + 1) ⟨(Lib.itoa n).toArray⟩ = some ([mkT (2, n, []) 0, endT (Lib.itoa n).length], 0, 0) := scan_of (k := K + 1 + 1) (s := ⟨(Lib.itoa n).toArray⟩) (ts := [mkT (2, n, []) 0, endT (Lib.itoa n).length]) (e := none) (by rw [bl_mk]; exact hR) (by rw [size_mk']; omega) (by omega)
            rw [decide_eq_false hn, unisonlaw10_LexValues.j1, if_neg (by decide)]
            dsimp only
            rw [hsc, some_bind, unisonlaw10_LexValues.j2]
            dsimp only
            rw [if_pos rfl, if_pos rfl, if_pos (by rfl), if_pos (by show (0 : Int) < 2; decide), hrd, unisonlaw10_LexValues.j3, if_neg (by show ¬ ((0 : Int) != 0) = true; decide), if_pos rfl, if_pos rfl, if_pos (by show (0 : Int) < 2; decide), hrd, if_pos (show (mkT (2, n, []) 0).f0 = 2 from rfl)]
            show some (n == n) = some true
            simp
        · exact absurd h (by decide)
      · rw [if_neg h1]; exact early _ _ _ _ _
end Go.Proofs.YtllehkjebikgpaaDoor.Pure
