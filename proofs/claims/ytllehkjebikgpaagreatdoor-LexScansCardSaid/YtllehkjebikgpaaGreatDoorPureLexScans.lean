/- The plain law LexScans: the program's Scan tells what the document's does; no conditions beyond those in each theorem's head. -/
import Derived.Test.YtllehkjebikgpaaGreatDoorLX
import Derived.Test.YtllehkjebikgpaaGreatDoorPFLLexScans
namespace Go.Proofs.YtllehkjebikgpaaGreatDoor.PS
open Go.RowKit Go.Proofs.YtllehkjebikgpaaGreatDoorSh Go.Proofs.YtllehkjebikgpaaGreatDoorW.PrintWords Go.Proofs.YtllehkjebikgpaaGreatDoorW.PrintLast Go.Proofs.YtllehkjebikgpaaGreatDoorW.PrintMore Go.Proofs.YtllehkjebikgpaaGreatDoorX Go.Proofs.YtllehkjebikgpaaGreatDoorL Go.Proofs.YtllehkjebikgpaaGreatDoor.PA
open Go.Proofs.YtllehkjebikgpaaGreatDoor.PV (digit_toNat dec_head mag_dec atoi_itoa parse_both)
set_option linter.unusedVariables false
set_option linter.unusedSimpArgs false

/-! ### blanks and remarks -/
theorem cls_blank : ∀ c : Fin 256, (clsI (c.val : Int) = 1 ↔ c.val = 32 ∨ c.val = 9 ∨ c.val = 10) := by decide +kernel
theorem cls1 {c : UInt8} : cls c = 1 ↔ c.toNat = 32 ∨ c.toNat = 9 ∨ c.toNat = 10 := cls_blank ⟨c.toNat, c.toNat_lt⟩
theorem isRem_cons (c : UInt8) (r : List UInt8) : isRem (c :: r) = (decide (c.toNat = 45) && (match r with | [] => false | d :: _ => decide (d.toNat = 45))) := by
  have q : ∀ x : UInt8, ((45 : UInt8) == x) = decide (x.toNat = 45) := fun x => by
    rw [Bool.eq_iff_iff, beq_iff_eq, decide_eq_true_iff]
    constructor
    · intro h; rw [← h]; rfl
    · intro h; exact UInt8.toNat_inj.1 h.symm
  unfold isRem
  cases r with
  | nil => simp [List.isPrefixOf]
  | cons d r => simp [List.isPrefixOf, q]
theorem skip_l1 (s : ByteArray) (hs : s.size ≤ 100000) : ∀ (d i : Nat), i + d = s.size → ∀ k, unisonref10_skipped.l1 (k + (remN ((bl s).drop i) + 1)) s (i : Int) = unisonref10_skipped.l0 k s ((i + remN ((bl s).drop i) : Nat) : Int)
  | 0, i, hd, k => by
    have hn : (bl s).drop i = [] := List.drop_of_length_le (by rw [bl_length]; omega)
    rw [hn, show remN [] = 0 from rfl, Nat.add_zero, unisonref10_skipped.l1, if_neg (by omega)]
    rfl
  | d + 1, i, hd, k => by
    have hi : i < (bl s).length := by rw [bl_length]; omega
    have ih := skip_l1 s hs d (i + 1) (by omega)
    have hi9 : i + 1 ≤ 9223372036854775807 := by omega
    have hb := bt_bl hi
    rw [show (bl s).drop i = (bl s)[i] :: (bl s).drop (i + 1) from List.drop_eq_getElem_cons hi]
    generalize (bl s)[i] = c at hb ⊢
    by_cases hc : c = 10
    · subst hc
      rw [show remN (10 :: (bl s).drop (i + 1)) = 0 from by unfold remN; simp, Nat.add_zero, unisonref10_skipped.l1, if_pos (by omega), if_pos (by omega), hb, if_pos (by decide)]
      rfl
    · have e : remN (c :: (bl s).drop (i + 1)) = remN ((bl s).drop (i + 1)) + 1 := by
        unfold remN
        rw [List.takeWhile_cons, if_pos (by simpa using hc), List.length_cons]
      have hne : ¬ (c.toNat : Int) = 10 := fun h => hc (UInt8.toNat_inj.1 (by rw [show (10 : UInt8).toNat = 10 from rfl]; omega))
      rw [e, show k + (remN ((bl s).drop (i + 1)) + 1 + 1) = (k + (remN ((bl s).drop (i + 1)) + 1)) + 1 by omega, unisonref10_skipped.l1, if_pos (by omega), if_pos (by omega), hb, if_neg hne, wn1 hi9, ih]
      congr 1; omega
theorem skip_l0 (s : ByteArray) (hs : s.size ≤ 100000) (i : Nat) (c : UInt8) (r : List UInt8) (hd : (bl s).drop i = c :: r) (k : Nat) : unisonref10_skipped.l0 (k + 1) s (i : Int) = unisonref10_skipped.j1 k s (i : Int) (isRem (c :: r)) := by
  have hlen := congrArg List.length hd
  rw [List.length_drop, bl_length, List.length_cons] at hlen
  have hi : i < (bl s).length := by rw [bl_length]; omega
  have hb := bt_bl hi
  have hc : (bl s)[i] = c := by
    rw [List.drop_eq_getElem_cons hi] at hd
    injection hd
  rw [hc] at hb
  have hi9 : i + 1 ≤ 9223372036854775807 := by omega
  rw [isRem_cons, unisonref10_skipped.l0, if_pos (by omega), wn1 hi9]
  cases r with
  | nil =>
    simp only [List.length_nil] at hlen
    rw [if_neg (by omega), Bool.and_false]
  | cons d r =>
    simp only [List.length_cons] at hlen
    have hj : i + 1 < (bl s).length := by rw [bl_length]; omega
    have hb2 := bt_bl hj
    have hcd : (bl s)[i + 1] = d := by
      have h2 := congrArg List.tail hd
      rw [List.tail_drop, List.drop_eq_getElem_cons hj] at h2
      injection h2
    rw [hcd] at hb2
    rw [if_pos (by omega), if_pos (by omega), hb]
    by_cases h45 : (c.toNat : Int) = 45
    · rw [if_pos h45, if_pos (by omega), hb2, decide_eq_true (show c.toNat = 45 by omega), Bool.true_and]
      congr 1
      show ((d.toNat : Int) == 45) = decide (d.toNat = 45)
      by_cases hd45 : d.toNat = 45
      · rw [hd45]; rfl
      · rw [decide_eq_false hd45]
        exact beq_eq_false_iff_ne.mpr (by omega)
    · rw [if_neg h45, decide_eq_false (show ¬ c.toNat = 45 by omega), Bool.false_and]
theorem skip_all (s : ByteArray) (hs : s.size ≤ 100000) : ∀ (n i : Nat), s.size ≤ i + n → i ≤ s.size → ∃ j, i ≤ j ∧ j ≤ s.size ∧ unisonref10_skipped.f (4 * n + 10) s (i : Int) = some (j : Int) ∧
    (∀ ts e, Run ((bl s).drop j) j ts e → Run ((bl s).drop i) i ts e) ∧ (j = s.size ∨ ∃ c r, (bl s).drop j = c :: r ∧ cls c ≠ 1 ∧ isRem (c :: r) = false) := by
  intro n
  induction n using Nat.strongRecOn with
  | _ n ih =>
    intro i hn hi
    by_cases he : i = s.size
    · refine ⟨i, Nat.le_refl _, hi, ?_, fun _ _ h => h, .inl he⟩
      show unisonref10_skipped.l0 (4 * n + 9 + 1) s (i : Int) = _
      rw [unisonref10_skipped.l0, if_neg (by omega)]
    · have hi' : i < (bl s).length := by rw [bl_length]; omega
      have hb := bt_bl hi'
      have hd : (bl s).drop i = (bl s)[i] :: (bl s).drop (i + 1) := List.drop_eq_getElem_cons hi'
      generalize (bl s)[i] = c at hb hd
      have h0 := skip_l0 s hs i c _ hd
      have hi9 : i + 1 ≤ 9223372036854775807 := by omega
      cases hm : isRem (c :: (bl s).drop (i + 1)) with
      | true =>
        rw [hm] at h0
        have hp := rem_pos hm
        have hle := remN_le (c :: (bl s).drop (i + 1))
        rw [← hd] at hp hle hm
        rw [List.length_drop, bl_length] at hle
        obtain ⟨j, j1, j2, j3, j4, j5⟩ := ih (n - remN ((bl s).drop i)) (by omega) (i + remN ((bl s).drop i)) (by omega) (by omega)
        refine ⟨j, Nat.le_trans (Nat.le_add_right _ _) j1, j2, ?_, fun ts e h => ?_, j5⟩
        · clear j5
          have hl := skip_l1 s hs (s.size - i) i (by omega) (4 * (n - remN ((bl s).drop i)) + 10)
          have h3 : unisonref10_skipped.f (4 * (n - remN ((bl s).drop i)) + 10 + (remN ((bl s).drop i) + 1) + 1 + 1) s (i : Int) = some (j : Int) := by
            show unisonref10_skipped.l0 _ s (i : Int) = _
            rw [h0, unisonref10_skipped.j1, if_pos rfl, hl]
            exact j3
          exact at_rounds (unisonref10_skipped.mono s (i : Int)) (by omega) h3
        · have := j4 ts e h
          exact .rem hm (by rw [List.drop_drop]; exact this)
      | false =>
        rw [hm] at h0
        by_cases h1 : cls c = 1
        · obtain ⟨j, j1, j2, j3, j4, j5⟩ := ih (n - 1) (by omega) (i + 1) (by omega) (by omega)
          refine ⟨j, Nat.le_trans (Nat.le_add_right _ _) j1, j2, ?_, fun ts e h => ?_, j5⟩
          · clear j5
            have hstep : unisonref10_skipped.j1 (4 * (n - 1) + 10 + 1) s (i : Int) false = unisonref10_skipped.l0 (4 * (n - 1) + 10) s ((i + 1 : Nat) : Int) := by
              rw [unisonref10_skipped.j1, if_neg (by decide), if_pos (by omega), if_pos (by omega), hb, wn1 hi9]
              rcases cls1.1 h1 with h | h | h
              · rw [if_pos (by omega)]
              · rw [if_neg (by omega), if_pos (by omega)]
              · rw [if_neg (by omega), if_neg (by omega), if_pos (by omega)]
            have h3 : unisonref10_skipped.f (4 * (n - 1) + 10 + 1 + 1) s (i : Int) = some (j : Int) := by
              show unisonref10_skipped.l0 _ s (i : Int) = _
              rw [h0, hstep]
              exact j3
            exact at_rounds (unisonref10_skipped.mono s (i : Int)) (by omega) h3
          · rw [hd]; exact .blank h1 (j4 ts e h)
        · refine ⟨i, Nat.le_refl _, hi, ?_, fun _ _ h => h, .inr ⟨c, _, hd, h1, hm⟩⟩
          have hn1 : ¬ (c.toNat = 32 ∨ c.toNat = 9 ∨ c.toNat = 10) := fun h => h1 (cls1.2 h)
          show unisonref10_skipped.l0 (4 * n + 8 + 1 + 1) s (i : Int) = _
          rw [h0, unisonref10_skipped.j1, if_neg (by decide), if_pos (by omega), if_pos (by omega), hb, if_neg (by omega), if_neg (by omega), if_neg (by omega)]

/-! ### the token at a place -/
theorem lit_kind {r : List UInt8} (hr : r ≠ []) {p : Int × Int × ByteArray × Int} (hp : value_Parse.f ⟨(39 :: r).toArray⟩ = some p) (he : p.2.2.2 = 0) : p.1 = 3 := by
  unfold value_Parse.f at hp
  split at hp
  · have hT : ¬ (⟨(39 :: r).toArray⟩ : ByteArray).toList = [84, 82, 85, 69] := by rw [toList_bl, bl_mk]; intro e; exact absurd (List.cons.inj e).1 (by decide)
    have hF : ¬ (⟨(39 :: r).toArray⟩ : ByteArray).toList = [70, 65, 76, 83, 69] := by rw [toList_bl, bl_mk]; intro e; exact absurd (List.cons.inj e).1 (by decide)
    have hb : bt (⟨(39 :: r).toArray⟩ : ByteArray) 0 = 39 := by
      have hi : 0 < (bl (⟨(39 :: r).toArray⟩ : ByteArray)).length := by rw [bl_mk]; simp
      have := bt_bl hi
      rw [show ((0 : Nat) : Int) = 0 from rfl] at this
      rw [this]; rfl
    have hl : 1 < (⟨(39 :: r).toArray⟩ : ByteArray).size := by
      rw [size_mk']
      cases r with
      | nil => exact absurd rfl hr
      | cons _ _ => simp
    rw [if_neg hT, if_neg hF, dif_pos ⟨hl, hb⟩] at hp
    split at hp
    · unfold fin at hp
      obtain ⟨z, hz, hp⟩ := Option.bind_eq_some_iff.1 hp
      have hp := Option.some.inj hp
      by_cases c : z.2 = 0 ∧ z.1 = (⟨(39 :: r).toArray⟩ : ByteArray)
      · rw [if_pos c] at hp; rw [← hp]
      · rw [if_neg c] at hp; rw [← hp] at he; exact absurd he (by decide)
    · have := Option.some.inj hp
      rw [← this] at he; exact absurd he (by decide)
  · cases hp
theorem cls_colon5 : ∀ c : Fin 256, (clsI (c.val : Int) = 5 ↔ c.val = 58) := by decide +kernel
theorem cls5 {c : UInt8} : cls c = 5 ↔ c.toNat = 58 := cls_colon5 ⟨c.toNat, c.toNat_lt⟩
theorem cls6' {c : UInt8} : cls c = 6 ↔ c.toNat = 39 := cls6 ⟨c.toNat, c.toNat_lt⟩
def NextIs (a : Nat) (t : (Int × Int × List UInt8) × Nat × Int) (x : Int × Int × ByteArray × Int × Int × Int) : Prop :=
  (t.2.2 = 0 → x = (t.1.1, t.1.2.1, ⟨t.1.2.2.toArray⟩, (a : Int), ((a + t.2.1 : Nat) : Int), 0)) ∧ (t.2.2 ≠ 0 → x.2.2.2.2.2 = t.2.2)
theorem NextIs.ok {a : Nat} {k n : Int} {tx : List UInt8} {m : Nat} {x : Int × Int × ByteArray × Int × Int × Int} (h : x = (k, n, ⟨tx.toArray⟩, (a : Int), ((a + m : Nat) : Int), 0)) : NextIs a ((k, n, tx), m, 0) x := ⟨fun _ => h, fun h => absurd rfl h⟩
theorem NextIs.no {a : Nat} {e : Int} {x : Int × Int × ByteArray × Int × Int × Int} (h0 : e ≠ 0) (h : x.2.2.2.2.2 = e) : NextIs a ((0, 0, []), 0, e) x := ⟨fun h => absurd h h0, fun _ => h⟩
theorem runL_no {c : UInt8} (h : inRun c = false) (r : List UInt8) : runL (c :: r) = [] := by
  unfold runL
  rw [List.takeWhile_cons, h]; rfl
theorem rnext (s : ByteArray) (hs : s.size ≤ 1000) (a : Nat) (c : UInt8) (r : List UInt8) (hd : (bl s).drop a = c :: r) {K : Nat} (hK : 9000 ≤ K) : ∃ x, unisonref10_next.f K s (a : Int) = some x ∧ NextIs a (tokL (c :: r)) x := by
  have hlen := congrArg List.length hd
  rw [List.length_drop, bl_length, List.length_cons] at hlen
  have ha : a < s.size := by omega
  have hi : a < (bl s).length := by rw [bl_length]; omega
  have hc : (bl s)[a] = c := by
    have hd2 := hd
    rw [List.drop_eq_getElem_cons hi] at hd2
    injection hd2
  have hb := bt_bl hi
  rw [hc] at hb
  have hrl := runL_le (c :: r)
  have hrl' := runL_le r
  rw [List.length_cons] at hrl
  have hz := size_mk' (runL (c :: r))
  unfold unisonref10_next.f
  rw [rrun_eq s (by omega) a (by omega) (by omega), hd, some_bind]
  by_cases hin : inRun c = true
  · -- a run
    have hpos := runL_pos (r := r) hin
    have hne : ¬ (⟨(runL (c :: r)).toArray⟩ : ByteArray).toList = [] := by
      rw [mk_toList_nil]; intro h; rw [h] at hpos; simp at hpos
    obtain ⟨l', hl'⟩ : ∃ l', runL (c :: r) = c :: l' := ⟨r.takeWhile inRun, by unfold runL; rw [List.takeWhile_cons, if_pos hin]⟩
    have hb0 : bt (⟨(runL (c :: r)).toArray⟩ : ByteArray) 0 = (c.toNat : Int) := by
      have hi0 : 0 < (bl (⟨(runL (c :: r)).toArray⟩ : ByteArray)).length := by rw [bl_mk]; omega
      have := bt_bl hi0
      rw [show ((0 : Nat) : Int) = 0 from rfl] at this
      rw [this]
      simp only [bl_mk, hl', List.getElem_cons_zero]
    have hle9 : a + (runL (c :: r)).length ≤ 9223372036854775807 := by omega
    rw [if_neg hne]
    unfold unisonref10_word.f
    rw [hz, if_pos (by omega), hb0, digit_u8, some_bind, tokL]
    by_cases h2 : cls c = 2
    · obtain ⟨q, hq, hN⟩ := rnumber (⟨(runL (c :: r)).toArray⟩ : ByteArray) (by rw [hz]; omega) (by rw [hz]; omega) (k := K) (by rw [hz]; omega)
      rw [bl_mk] at hN
      obtain ⟨n1, n2⟩ := num_same hN
      rw [if_pos (by simpa using h2), hq, some_bind]
      rw [if_pos h2]
      by_cases hok : q.2 = true
      · rw [if_pos hok, some_bind]
        refine ⟨_, rfl, ?_⟩
        rw [n1, if_pos hok, n2 hok]
        exact .ok (by rw [wnk hle9])
      · rw [if_neg hok, some_bind]
        refine ⟨_, rfl, ?_⟩
        rw [n1, if_neg hok]
        exact .no (by decide) rfl
    · rw [if_neg (by simpa using h2), rword_eq _ (by omega), some_bind, rname_eq _ (by rw [hz]; omega) (by rw [hz]; omega), some_bind, bl_mk]
      have h34 : cls c = 3 ∨ cls c = 4 := by
        unfold inRun at hin
        simp only [Bool.or_eq_true, beq_iff_eq] at hin
        rcases hin with h | h | h
        · exact absurd h h2
        · exact .inl h
        · exact .inr h
      rw [if_neg h2, if_pos h34]
      cases hwd : wordL (runL (c :: r)) with
      | true =>
        rw [if_pos rfl, some_bind]
        refine ⟨_, rfl, ?_⟩
        rw [if_pos rfl]
        exact .ok (by rw [wnk hle9])
      | false =>
        rw [if_neg (by decide)]
        cases hnm : nameL (runL (c :: r)) with
        | true =>
          rw [if_pos rfl, some_bind]
          refine ⟨_, rfl, ?_⟩
          rw [if_neg (by decide), if_pos rfl]
          exact .ok (by rw [wnk hle9])
        | false =>
          rw [if_neg (by decide), some_bind]
          refine ⟨_, rfl, ?_⟩
          rw [if_neg (by decide), if_neg (by decide)]
          exact .no (by decide) rfl
  · -- none
    have hin' := Bool.eq_false_iff.mpr hin
    have hr0 := runL_no hin' r
    have hn2 : cls c ≠ 2 := fun h => by rw [inRun_of (.inl h)] at hin'; cases hin'
    have hn34 : ¬ (cls c = 3 ∨ cls c = 4) := fun h => by rw [inRun_of (.inr h)] at hin'; cases hin'
    rw [hr0, if_pos (by rw [mk_toList_nil]), if_pos (by omega), if_pos (by omega), hb, tokL, if_neg hn2, if_neg hn34]
    by_cases h58 : c.toNat = 58
    · have hzr := size_mk' (runL r)
      have hd1 : (bl s).drop (a + 1) = r := by rw [← List.tail_drop, hd]; rfl
      have hi9 : a + 1 ≤ 9223372036854775807 := by omega
      rw [if_pos (by omega), wn1 hi9, rrun_eq s (by omega) (a + 1) (by omega) (by omega), hd1, some_bind, rname_eq _ (by rw [hzr]; omega) (by rw [hzr]; omega), some_bind, bl_mk, hzr, if_pos (cls5.2 h58)]
      by_cases hn : nameL (runL r) = true
      · rw [if_pos hn, if_pos hn]
        refine ⟨_, rfl, .ok ?_⟩
        rw [wnk (n := a + 1) (m := (runL r).length) (by omega), show a + 1 + (runL r).length = a + ((runL r).length + 1) by omega]
      · rw [if_neg hn, if_neg hn]
        exact ⟨_, rfl, .no (by decide) rfl⟩
    · rw [if_neg (by omega), if_neg (fun h => h58 (cls5.1 h))]
      by_cases h39 : c.toNat = 39
      · have hc39 : c = 39 := UInt8.toNat_inj.1 h39
        have hi9 : a + 1 ≤ 9223372036854775807 := by omega
        have hd1 : (bl s).drop (a + 1) = r := by rw [← List.tail_drop, hd]; rfl
        have htx : unisonref10_text.f K s (a : Int) = some (match qend r with | some n => (s.extract a (a + 1 + n), true) | none => (⟨#[]⟩, false)) := by
          unfold unisonref10_text.f
          rw [wn1 hi9, rtext_loop s (by omega) a s.size (a + 1) (by omega) (by omega) K (by omega), hd1]
          rfl
        rw [if_pos (by omega), htx, some_bind, if_pos (cls6'.2 h39)]
        cases hq : qend r with
        | none =>
          dsimp only
          rw [if_neg (by decide)]
          exact ⟨_, rfl, .no (by decide) rfl⟩
        | some n =>
          have hqr := qend_le _ _ (Nat.le_refl _) n hq
          have hex : s.extract a (a + 1 + n) = ⟨((c :: r).take (1 + n)).toArray⟩ := by
            apply bl_inj
            rw [bl_midS, hd, bl_mk, show a + 1 + n - a = 1 + n by omega]
          have htl : ((c :: r).take (1 + n)).length = 1 + n := by rw [List.length_take, List.length_cons]; omega
          have hsz := size_mk' ((c :: r).take (1 + n))
          rw [htl] at hsz
          obtain ⟨p, hp, hpr⟩ := parse_both (⟨((c :: r).take (1 + n)).toArray⟩ : ByteArray) (by rw [hsz]; omega)
          have hkind : p.2.2.2 = 0 → p.1 = 3 := fun he => by
            have htk : (c :: r).take (1 + n) = 39 :: r.take n := by rw [hc39, show 1 + n = n + 1 by omega, List.take_succ_cons]
            rw [htk] at hp
            refine lit_kind (fun h => ?_) hp he
            have := congrArg List.length h
            rw [List.length_take, List.length_nil] at this
            omega
          have hpK := hpr K (by rw [hsz]; omega)
          dsimp only
          rw [if_pos rfl, hex, hpK, some_bind, some_bind, litL, hp, some_bind]
          have hle9 : a + (1 + n) ≤ 9223372036854775807 := by omega
          obtain ⟨K', rfl⟩ : ∃ j, K = j + 1 := ⟨K - 1, by omega⟩
          by_cases he : p.2.2.2 = 0
          · rw [if_pos he, if_pos he, hkind he, unisonref10_next.j0, if_neg (by decide), hsz, wnk hle9]
            refine ⟨_, rfl, ?_⟩
            show NextIs a ((5, 0, bl p.2.2.1), 1 + n, 0) _
            exact .ok (by rw [mk_bl])
          · rw [if_neg he, if_neg he, unisonref10_next.j0, if_pos rfl]
            refine ⟨_, rfl, ?_⟩
            exact .no (by decide) rfl
      · have hsg := rsign s (by omega) a ha c r hd (k := K) (by omega)
        rw [if_neg (by omega), hsg, some_bind, if_neg (fun h => h39 (cls6'.1 h))]
        by_cases hm : c ∈ signsL
        · have hsr := sgn_range (c :: r)
          have hzz := size_mk' ((c :: r).take (sgn (c :: r)))
          have htl : ((c :: r).take (sgn (c :: r))).length ≤ r.length + 1 := by rw [List.length_take, List.length_cons]; omega
          have hne : ¬ (⟨((c :: r).take (sgn (c :: r))).toArray⟩ : ByteArray).toList = [] := by
            rw [mk_toList_nil]
            intro h
            have := congrArg List.length h
            rw [List.length_take] at this
            simp at this; omega
          rw [if_pos hm, if_neg hne, if_pos (cls78.2 hm), hzz]
          refine ⟨_, rfl, .ok ?_⟩
          rw [wnk (n := a) (m := ((c :: r).take (sgn (c :: r))).length) (by omega)]
        · rw [if_neg hm, if_pos (by rw [toList_bl]; rfl), if_neg (fun h => hm (cls78.1 h))]
          exact ⟨_, rfl, .no (by decide) rfl⟩

/-! ### Scan -/
theorem rscan (s : ByteArray) (hs : s.size ≤ 1000) : ∀ (n j : Nat) (acc : List S28), s.size ≤ j + n → j ≤ s.size → acc.length + (s.size - j) ≤ 2000 → (j = s.size ∨ ∃ c r, (bl s).drop j = c :: r ∧ cls c ≠ 1 ∧ isRem (c :: r) = false) →
    ∃ ts e, Run ((bl s).drop j) j ts e ∧ ∀ k, 9000 + n ≤ k → unisonref10_Scan.l0 (k + 1) s acc (j : Int) = some (resOf acc ts e) := by
  intro n
  induction n using Nat.strongRecOn with
  | _ n ih =>
    intro j acc hn hj ha hst
    by_cases he : j = s.size
    · refine ⟨[endT j], none, ?_, fun k hk => ?_⟩
      · rw [List.drop_of_length_le (by rw [bl_length]; omega)]
        exact .fin _
      · rw [unisonref10_Scan.l0, if_neg (by omega), if_pos (by omega), ← he]
        rfl
    · obtain ⟨c, r, hd, h1, hm⟩ := hst.resolve_left he
      clear hst
      have hlen := congrArg List.length hd
      rw [List.length_drop, bl_length, List.length_cons] at hlen
      by_cases h0 : (tokL (c :: r)).2.2 = 0
      · have hz := tok_size c r h0
        obtain ⟨i, i1, i2, i3, i4, i5⟩ := skip_all s (by omega) (s.size - (j + (tokL (c :: r)).2.1)) (j + (tokL (c :: r)).2.1) (by omega) (by omega)
        have hil : s.size - i < n := by clear i5; omega
        have hia : (acc ++ [mkT (tokL (c :: r)).1 j]).length + (s.size - i) ≤ 2000 := by clear i5; rw [List.length_append]; simp; omega
        have hin : s.size ≤ i + (s.size - i) := by clear i5; omega
        obtain ⟨ts, e, hR, hS⟩ := ih (s.size - i) hil i (acc ++ [mkT (tokL (c :: r)).1 j]) hin i2 hia i5
        clear i5
        refine ⟨mkT (tokL (c :: r)).1 j :: ts, e, ?_, fun k hk => ?_⟩
        · rw [hd]
          refine .tok h1 hm h0 ?_
          have := i4 ts e hR
          have e1 : ∀ m, (c :: r).drop m = (bl s).drop (j + m) := fun m => by rw [← hd, List.drop_drop]
          rw [e1]
          exact this
        · obtain ⟨x, hx, hX⟩ := rnext s hs j c r hd (K := k) (by omega)
          have hxe := hX.1 h0
          have hsk := at_rounds (unisonref10_skipped.mono s ((j + (tokL (c :: r)).2.1 : Nat) : Int)) (show 4 * (s.size - (j + (tokL (c :: r)).2.1)) + 10 ≤ k by omega) i3
          obtain ⟨k, rfl⟩ : ∃ m, k = m + 1 := ⟨k - 1, by omega⟩
          have hS' := hS k (by omega)
          rw [unisonref10_Scan.l0, if_pos (by omega), hx, some_bind, hxe]
          dsimp only
          rw [if_pos rfl, if_pos (by omega), hsk, some_bind]
          rw [show (⟨(tokL (c :: r)).1.1, (tokL (c :: r)).1.2.1, ⟨(tokL (c :: r)).1.2.2.toArray⟩, (j : Int)⟩ : S28) = mkT (tokL (c :: r)).1 j from rfl, hS']
          cases e with
          | none => unfold resOf; rw [List.append_assoc]; rfl
          | some p => rfl
      · refine ⟨[], some (j, (tokL (c :: r)).2.2), by rw [hd]; exact .bad h1 hm h0, fun k hk => ?_⟩
        obtain ⟨x, hx, hX⟩ := rnext s hs j c r hd (K := k) (by omega)
        have hxe := hX.2 h0
        rw [unisonref10_Scan.l0, if_pos (by omega), hx, some_bind, hxe, if_neg h0]
        rfl
theorem both (s : ByteArray) : ∃ r, (∀ k, 20000 ≤ k → lex_Scan.f k s = some r) ∧ (∀ k, 20000 ≤ k → unisonref10_Scan.f k s = some r) ∧ r.1.length ≤ 1001 := by
  by_cases hs : s.size ≤ 1000
  · obtain ⟨j, j1, j2, j3, j4, j5⟩ := skip_all s (by omega) s.size 0 (by omega) (by omega)
    have hjn : s.size ≤ j + (s.size - j) := by clear j5; omega
    have hja : ([] : List S28).length + (s.size - j) ≤ 2000 := by clear j5; simp; omega
    obtain ⟨ts, e, hR, hS⟩ := rscan s hs (s.size - j) j [] hjn j2 hja j5
    clear j5
    have hrun := j4 ts e hR
    rw [List.drop_zero] at hrun
    refine ⟨resOf [] ts e, fun k hk => scan_of hrun hs (by omega), fun k hk => ?_, ?_⟩
    · obtain ⟨k, rfl⟩ : ∃ m, k = m + 1 := ⟨k - 1, by omega⟩
      have hsk := at_rounds (unisonref10_skipped.mono s ((0 : Nat) : Int)) (show 4 * s.size + 10 ≤ k + 1 by omega) j3
      unfold unisonref10_Scan.f
      rw [if_neg (by omega), show (0 : Int) = ((0 : Nat) : Int) from rfl, hsk, some_bind]
      exact hS k (by omega)
    · cases e with
      | some p => show ([] : List S28).length ≤ 1001; simp
      | none =>
        have := run_countS hrun
        rw [bl_length] at this
        show ([] ++ ts).length ≤ 1001
        simp; omega
  · refine ⟨([], 0, 2), fun k _ => scan_long hs k, fun k _ => ?_, by simp⟩
    unfold unisonref10_Scan.f
    rw [if_pos (by omega)]
where
  run_countS {l : List UInt8} {i : Nat} {ts : List S28} {e : Option (Nat × Int)} (h : Run l i ts e) : ts.length ≤ l.length + 1 := by
    induction h with
    | fin i => simp
    | blank h hr ih => simp; omega
    | @rem l i ts e h hr ih => rw [List.length_drop] at ih; omega
    | bad h hm he => simp
    | @tok c r i ts e h hm he hr ih =>
      have hz := tok_size c r he
      rw [List.length_drop] at ih
      simp at ih ⊢; omega
theorem rd_natS (xs : List S28) (i : Nat) (h : i < xs.length) : rd_T28 xs (i : Int) = xs[i] := by
  unfold rd_T28
  rw [Int.toNat_natCast, List.getD_eq_getElem?_getD, List.getElem?_eq_getElem h]; rfl
theorem same_loop (a : List S28) (ha : a.length ≤ 2000) : ∀ (d i : Nat), i + d = a.length → ∀ k, d + 1 ≤ k → unisonlaw10_same.l0 k a a (i : Int) = some true
  | d, i, hd, 0, hk => by omega
  | 0, i, hd, k + 1, hk => by rw [unisonlaw10_same.l0, if_neg (by omega)]
  | d + 1, i, hd, k + 1, hk => by
    have ih := same_loop a ha d (i + 1) (by omega) k (by omega)
    have hi9 : i + 1 ≤ 9223372036854775807 := by omega
    rw [unisonlaw10_same.l0, if_pos (by omega), if_pos (by omega), if_pos (by omega), if_neg (by simp), wn1 hi9]
    exact ih
theorem same_self (a : List S28) (ha : a.length ≤ 2000) {k : Nat} (hk : 3000 ≤ k) : unisonlaw10_same.f k a a = some true := by
  unfold unisonlaw10_same.f
  rw [if_pos rfl]
  exact same_loop a ha a.length 0 (by omega) k (by omega)
theorem scans_loop (s t : ByteArray) (rs rt : List S28 × Int × Int) (hs : ∀ k, 20000 ≤ k → lex_Scan.f k s = some rs) (ht : ∀ k, 20000 ≤ k → lex_Scan.f k t = some rt) (hu : ∀ k, 20000 ≤ k → unisonref10_Scan.f k t = some rt) (hrs : rs.1.length ≤ 1001) (hrt : rt.1.length ≤ 1001) :
    ∀ (d i : Nat) (l : List S28), i + d = l.length → l.length ≤ 2000 → ∀ k, 30000 + d ≤ k → unisonlaw10_LexScans.l0 k s t l rs.2.1 rs.2.2 rs.1 rs.2.1 rs.2.2 true (i : Int) = some true := by
  intro d
  induction d with
  | zero =>
    intro i l hd hl k hk
    obtain ⟨k, rfl⟩ : ∃ m, k = m + 1 + 1 := ⟨k - 2, by omega⟩
    rw [unisonlaw10_LexScans.l0, if_neg (by omega), ht _ (by omega), some_bind, hu _ (by omega), some_bind, hs _ (by omega), some_bind, same_self _ (by omega) (by omega), some_bind, same_self _ (by omega) (by omega), some_bind, unisonlaw10_LexScans.j1]
    simp
  | succ d ih =>
    intro i l hd hl k hk
    obtain ⟨k, rfl⟩ : ∃ m, k = m + 1 := ⟨k - 1, by omega⟩
    have hi9 : i + 1 ≤ 9223372036854775807 := by omega
    rw [unisonlaw10_LexScans.l0, if_pos (by omega), if_pos (by omega), wn1 hi9]
    exact ih (i + 1) _ (by rw [List.length_set]; omega) (by rw [List.length_set]; exact hl) k (by omega)
end Go.Proofs.YtllehkjebikgpaaGreatDoor.PS
namespace Go.Proofs.YtllehkjebikgpaaGreatDoor.Pure
open Go.RowKit Go.Proofs.YtllehkjebikgpaaGreatDoorW.PrintWords Go.Proofs.YtllehkjebikgpaaGreatDoorW.PrintLast Go.Proofs.YtllehkjebikgpaaGreatDoorW.PrintMore Go.Proofs.YtllehkjebikgpaaGreatDoorX Go.Proofs.YtllehkjebikgpaaGreatDoorL Go.Proofs.YtllehkjebikgpaaGreatDoor.PA Go.Proofs.YtllehkjebikgpaaGreatDoor.PS
theorem LexScans : ∀ (a0 : ByteArray) (a1 : ByteArray), a0.size ≤ 140737488351232 → a1.size ≤ 140737488351232 → ∃ k, unisonlaw10_LexScans.f k a0 a1 = some true := by
  intro s t _ _
  obtain ⟨rs, h1, h2, h3⟩ := both s
  obtain ⟨rt, h4, h5, h6⟩ := both t
  obtain ⟨K, hK⟩ : ∃ K : Nat, 40000 ≤ K := ⟨40000, Nat.le_refl _⟩
  refine ⟨K, ?_⟩
  unfold unisonlaw10_LexScans.f
  rw [h1 K (by omega), some_bind, h2 K (by omega), some_bind, same_self _ (by omega) (by omega), some_bind]
  exact scans_loop s t rs rt h1 h4 h5 h3 h6 rs.1.length 0 rs.1 (by omega) (by omega) K (by omega)
end Go.Proofs.YtllehkjebikgpaaGreatDoor.Pure
