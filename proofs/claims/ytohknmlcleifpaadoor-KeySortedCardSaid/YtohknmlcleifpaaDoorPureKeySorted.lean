/- The law KeySorted: its program answers true at every list of rows; no conditions beyond those in the theorem's head. -/
import Derived.Test.YtohknmlcleifpaaDoorPS7
import Derived.Test.YtohknmlcleifpaaDoorPB3
namespace Go.Proofs.YtohknmlcleifpaaDoor.Pure
open Go.RowKit Go.Proofs.YtohknmlcleifpaaDoorW.PrintWords Go.Proofs.YtohknmlcleifpaaDoorW.PrintLast Go.Proofs.YtohknmlcleifpaaDoorW.PrintMore Go.Proofs.YtohknmlcleifpaaDoorX Go.Proofs.YtohknmlcleifpaaDoorL Go.Proofs.YtohknmlcleifpaaDoor.PA Go.Proofs.YtohknmlcleifpaaDoor.PS
set_option linter.unusedVariables false
set_option linter.unusedSimpArgs false

theorem ltI_trans : ∀ {x y z : List Int}, ltI x y = true → ltI y z = true → ltI x z = true
  | _, [], _, h, _ => by simp [ltI] at h
  | _, _ :: _, [], _, g => by simp [ltI] at g
  | [], _ :: _, _ :: _, _, _ => rfl
  | a :: x, b :: y, c :: z, h, g => by
    simp only [ltI, Bool.or_eq_true, Bool.and_eq_true, decide_eq_true_eq] at h g ⊢
    rcases h with h | ⟨rfl, h⟩ <;> rcases g with g | ⟨rfl, g⟩
    · exact .inl (by omega)
    · exact .inl h
    · exact .inl g
    · exact .inr ⟨rfl, ltI_trans h g⟩
/-- The keys of two rows stand so. -/
def Le (a b : List S25) : Prop := ltI (enc b) (enc a) = false
theorem Le.trans {a b c : List S25} (h : Le a b) (g : Le b c) : Le a c := by
  unfold Le at *
  cases e : ltI (enc c) (enc a) with
  | false => rfl
  | true =>
    rcases ltI_total (enc b) (enc c) with k | k | k
    · rw [ltI_trans k e] at h; cases h
    · rw [← k, h] at e; cases e
    · rw [k] at g; cases g
/-- The rows' keys. -/
def Ks (rows : List (List S25)) : List ByteArray := rows.map fun r => strOfNums (enc r)
def Good (rows : List (List S25)) : Prop := rows.Pairwise Le ∧ ∀ r ∈ rows, OK r
theorem Ks_length (rows : List (List S25)) : (Ks rows).length = rows.length := by unfold Ks; rw [List.length_map]
theorem Ks_at {rows : List (List S25)} {j : Nat} (h : j < rows.length) : rdOf ByteArray.empty (Ks rows) (j : Int) = strOfNums (enc (rows.getD j [])) := by
  unfold rdOf Ks
  rw [Int.toNat_natCast, List.getD_eq_getElem?_getD, List.getElem?_map, List.getD_eq_getElem?_getD, List.getElem?_eq_getElem h]; rfl
theorem L4_at (rows : List (List S25)) (j : Nat) : rd_L4 rows (j : Int) = rows.getD j [] := by unfold rd_L4; rw [Int.toNat_natCast]
theorem Ks_set (rows : List (List S25)) (j : Nat) (r : List S25) : (Ks rows).set j (strOfNums (enc r)) = Ks (rows.set j r) := by
  unfold Ks; rw [List.map_set]
/-- More rounds tell the same. -/
theorem up0 {k m : Nat} (h : k ≤ m) {a b c d e r} (g : unisonlaw02_KeySorted.l0 k a b c d e = some r) : unisonlaw02_KeySorted.l0 m a b c d e = some r := at_rounds (fun j => (unisonlaw02_KeySorted.mono_l j).1 a b c d e) h g
theorem up1 {k m : Nat} (h : k ≤ m) {a b c d e f i r} (g : unisonlaw02_KeySorted.l1 k a b c d e f i = some r) : unisonlaw02_KeySorted.l1 m a b c d e f i = some r := at_rounds (fun j => (unisonlaw02_KeySorted.mono_l j).2.1 a b c d e f i) h g
theorem up2 {k m : Nat} (h : k ≤ m) {a b c d r} (g : unisonlaw02_KeySorted.l2 k a b c d = some r) : unisonlaw02_KeySorted.l2 m a b c d = some r := at_rounds (fun j => (unisonlaw02_KeySorted.mono_l j).2.2 a b c d) h g
theorem pred_nat {i : Nat} (h : i < 1000000000000000) : wrap64 (((i + 1 : Nat) : Int) - 1) = (i : Int) := by unfold wrap64; omega

/-! ### the check -/
theorem pair_le : ∀ {rows : List (List S25)} {i : Nat}, rows.Pairwise Le → i + 1 < rows.length → Le (rows.getD i []) (rows.getD (i + 1) [])
  | [], i, _, h => by simp at h
  | [a], i, _, h => by simp at h
  | a :: b :: t, 0, hp, h => (List.pairwise_cons.1 hp).1 b (List.mem_cons_self ..)
  | a :: b :: t, i + 1, hp, h => by
    have := pair_le (rows := b :: t) (i := i) (List.pairwise_cons.1 hp).2 (by simpa using h)
    simpa using this
theorem getD_ok {rows : List (List S25)} {i : Nat} (h : ∀ r ∈ rows, OK r) (hi : i < rows.length) : OK (rows.getD i []) := by
  rw [List.getD_eq_getElem?_getD, List.getElem?_eq_getElem hi]
  exact h _ (List.getElem_mem hi)
theorem check (rows : List (List S25)) (hg : Good rows) (hl : rows.length ≤ 2147483647) : ∀ (d i : Nat), i + 1 + d = rows.length ∨ (rows = [] ∧ d = 0 ∧ i = 0) → ∀ k, d + 100 ≤ k → unisonlaw02_KeySorted.l2 k true (Ks rows) rows ((i + 1 : Nat) : Int) = some true
  | d, i, hd, 0, hk => by omega
  | 0, i, hd, k + 1, hk => by
    have : ¬ i + 1 < rows.length := by rcases hd with hd | ⟨rfl, _, _⟩ <;> simp <;> omega
    rw [unisonlaw02_KeySorted.l2, if_neg (by omega)]
  | d + 1, i, hd, k + 1, hk => by
    have hd : i + 1 + (d + 1) = rows.length := by rcases hd with hd | ⟨_, h, _⟩ <;> omega
    have h1 : i + 1 < rows.length := by omega
    have o1 := getD_ok hg.2 (show i < rows.length by omega)
    have o2 := getD_ok hg.2 h1
    have le := pair_le hg.1 h1
    obtain ⟨e1, e2⟩ := enc_order o1.2 o2.2
    have l1 := o1.1
    have hn1 : cmpL (rows.getD i []) (rows.getD (i + 1) []) ≠ 1 := by
      intro e
      unfold Le at le
      rw [e2, e] at le
      cases le
    rw [unisonlaw02_KeySorted.l2, if_pos (by omega), pred_nat (by omega), if_pos (by omega), if_pos (by omega), if_pos (by omega), L4_at, L4_at, order_row _ _ (by omega) (by omega), some_bind,
      if_neg (by rcases cmpL_is (rows.getD i []) (rows.getD (i + 1) []) with h | h | h <;> omega), if_pos (by rw [Ks_length]; omega), if_pos (by rw [Ks_length]; omega), Ks_at (by omega), Ks_at h1]
    have e3 : (cmpL (rows.getD i []) (rows.getD (i + 1) []) == 0) = ((strOfNums (enc (rows.getD i []))).toList == (strOfNums (enc (rows.getD (i + 1) []))).toList) := by
      rw [Bool.eq_iff_iff, beq_iff_eq, beq_iff_eq, toList_inj]
      constructor
      · intro h; rw [cmpL_eq h]
      · intro h
        rw [enc_inj o1.2 o2.2 (strOfNums_inj (enc_bytes _) (enc_bytes _) h), cmpL_self]
    rw [e3, bne_self_eq_false, if_neg (by decide), w1 (by omega)]
    exact check rows hg hl d (i + 1) (.inl (by omega)) k (by omega)

/-! ### putting one in -/
theorem swap {α : Type} (A B : List α) (a r : α) : ((A ++ a :: r :: B).set (A.length + 1) a).set A.length r = A ++ r :: a :: B := by
  rw [List.set_append_right _ _ (by omega), show A.length + 1 - A.length = 1 from by omega, List.set_append_right _ _ (Nat.le_refl _), Nat.sub_self]; rfl
theorem getD_mid {α : Type} (A B : List α) (a d : α) : (A ++ a :: B).getD A.length d = a := by
  rw [List.getD_eq_getElem?_getD, List.getElem?_append_right (Nat.le_refl _), Nat.sub_self]; rfl
theorem getD_mid2 {α : Type} (A B : List α) (a b d : α) : (A ++ a :: b :: B).getD (A.length + 1) d = b := by
  rw [List.getD_eq_getElem?_getD, List.getElem?_append_right (by omega), show A.length + 1 - A.length = 1 from by omega]; rfl
theorem insert (l : List (List S25)) (i : Nat) (hi : i < l.length) (hL : l.length ≤ 2147483647) (r : List S25) (hr : OK r) (hli : l.getD i [] = r)
    (next : ∀ rows, Good rows → rows.length ≤ i + 1 → ∃ k, unisonlaw02_KeySorted.l0 k l true (Ks rows) rows ((i + 1 : Nat) : Int) = some true) :
    ∀ (n : Nat) (A B : List (List S25)), A.length = n → (A ++ B).Pairwise Le → (∀ x ∈ A ++ B, OK x) → (∀ b ∈ B, Le r b) → A.length + B.length ≤ i →
    ∃ k, unisonlaw02_KeySorted.l1 k l true (Ks (A ++ r :: B)) (A ++ r :: B) (i : Int) (strOfNums (enc r)) (A.length : Int) = some true := by
  intro n
  induction n with
  | zero =>
    intro A B hA hp ho hB hl
    obtain rfl : A = [] := List.eq_nil_of_length_eq_zero hA
    obtain ⟨k, hk⟩ := next (r :: B) ⟨List.pairwise_cons.2 ⟨hB, hp⟩, fun x hx => by
      rcases List.mem_cons.1 hx with rfl | hx
      · exact hr
      · exact ho x hx⟩ (by simp only [List.length_cons, List.length_nil] at *; omega)
    refine ⟨k + 1, ?_⟩
    rw [unisonlaw02_KeySorted.l1, if_neg (by simp), w1 (by omega)]
    exact hk
  | succ n ih =>
    intro A B hA hp ho hB hl
    obtain ⟨A', a, rfl⟩ : ∃ A' a, A = A' ++ [a] := ⟨A.dropLast, A.getLast (by intro e; rw [e] at hA; simp at hA), (List.dropLast_concat_getLast _).symm⟩
    have hA' : A'.length = n := by rw [List.length_append, List.length_singleton] at hA; omega
    have ho_a : OK a := ho a (by simp)
    have e0 : A' ++ [a] ++ r :: B = A' ++ a :: r :: B := by rw [List.append_assoc]; rfl
    have hlen : (A' ++ [a]).length = A'.length + 1 := by rw [List.length_append, List.length_singleton]
    have hlen2 : (A' ++ a :: r :: B).length = A'.length + B.length + 2 := by rw [List.length_append, List.length_cons, List.length_cons]; omega
    rw [hlen] at hl
    rw [e0, hlen]
    by_cases c : ltI (enc r) (enc a) = true
    · obtain ⟨k, hk⟩ := ih A' (a :: B) hA' (by rw [← List.singleton_append, ← List.append_assoc]; exact hp) (by rw [← List.singleton_append, ← List.append_assoc]; exact ho) (fun b hb => by
        rcases List.mem_cons.1 hb with rfl | hb
        · unfold Le; exact ltI_asymm c
        · exact hB b hb) (by rw [List.length_cons]; omega)
      refine ⟨k + 1, ?_⟩
      rw [unisonlaw02_KeySorted.l1, if_pos (by omega), pred_nat (by omega), if_pos (by omega), if_pos (by rw [Ks_length, hlen2]; omega), if_pos (by omega), if_pos (by rw [Ks_length, hlen2]; omega),
        Ks_at (by rw [hlen2]; omega), Ks_at (by rw [hlen2]; omega), getD_mid, getD_mid2, bytesLess_eq, bytesOf_strOfNums (enc_bytes _), bytesOf_strOfNums (enc_bytes _), if_pos c, if_pos (by rw [hlen2]; omega), if_pos (by rw [hlen2]; omega), if_pos (by omega), if_pos (by omega),
        L4_at, L4_at, getD_mid, hli, Int.toNat_natCast, Int.toNat_natCast, Ks_set, Ks_set, swap]
      exact hk
    · have c' : Le a r := by unfold Le; simpa using c
      have hgood : Good (A' ++ a :: r :: B) := by
        refine ⟨?_, fun x hx => ?_⟩
        · obtain ⟨p1, p2, p3⟩ := List.pairwise_append.1 hp
          obtain ⟨q1, q2, q3⟩ := List.pairwise_append.1 p1
          refine List.pairwise_append.2 ⟨q1, List.pairwise_cons.2 ⟨fun b hb => ?_, List.pairwise_cons.2 ⟨hB, p2⟩⟩, fun x hx b hb => ?_⟩
          · rcases List.mem_cons.1 hb with rfl | hb
            · exact c'
            · exact p3 a (by simp) b hb
          · rcases List.mem_cons.1 hb with rfl | hb
            · exact q3 x hx b (by simp)
            · rcases List.mem_cons.1 hb with rfl | hb
              · exact (q3 x hx a (by simp)).trans c'
              · exact p3 x (by simp [hx]) b hb
        · rcases List.mem_append.1 hx with hx | hx
          · exact ho x (by simp [hx])
          · rcases List.mem_cons.1 hx with rfl | hx
            · exact ho_a
            · rcases List.mem_cons.1 hx with rfl | hx
              · exact hr
              · exact ho x (by simp [hx])
      obtain ⟨k, hk⟩ := next (A' ++ a :: r :: B) hgood (by rw [hlen2]; omega)
      refine ⟨k + 1, ?_⟩
      rw [unisonlaw02_KeySorted.l1, if_pos (by omega), pred_nat (by omega), if_pos (by omega), if_pos (by rw [Ks_length, hlen2]; omega), if_pos (by omega), if_pos (by rw [Ks_length, hlen2]; omega),
        Ks_at (by rw [hlen2]; omega), Ks_at (by rw [hlen2]; omega), getD_mid, getD_mid2, bytesLess_eq, bytesOf_strOfNums (enc_bytes _), bytesOf_strOfNums (enc_bytes _), if_neg c, w1 (by omega)]
      exact hk
theorem all_rows (l : List (List S25)) (hL : l.length ≤ 2147483647) : ∀ (d i : Nat), i + d = l.length → ∀ rows, Good rows → rows.length ≤ i → ∃ k, unisonlaw02_KeySorted.l0 k l true (Ks rows) rows (i : Int) = some true
  | 0, i, hd, rows, hg, hl => by
    refine ⟨rows.length + 200 + 1, ?_⟩
    rw [unisonlaw02_KeySorted.l0, if_neg (by omega)]
    by_cases h0 : rows = []
    · exact check rows hg (by omega) 0 0 (.inr ⟨h0, rfl, rfl⟩) _ (by omega)
    · have := List.length_pos_iff.2 h0
      exact check rows hg (by omega) (rows.length - 1) 0 (.inl (by omega)) _ (by omega)
  | d + 1, i, hd, rows, hg, hl => by
    have hi : i < l.length := by omega
    have next := fun rows' (h : Good rows') (h' : rows'.length ≤ i + 1) => all_rows l hL d (i + 1) (by omega) rows' h h'
    have skip : ∃ k, unisonlaw02_KeySorted.l0 k l true (Ks rows) rows ((i + 1 : Nat) : Int) = some true := next rows hg (by omega)
    by_cases h8 : (l.getD i []).length > 8
    · obtain ⟨k, hk⟩ := skip
      refine ⟨k + 1, ?_⟩
      rw [unisonlaw02_KeySorted.l0, if_pos (by omega), if_pos (by omega), L4_at, if_pos (by omega), w1 (by omega)]
      exact hk
    · by_cases he : (encK (l.getD i [])).2 = 0
      · obtain ⟨ho, ee⟩ := encK_of he
        obtain ⟨k, hk⟩ := insert l i hi hL (l.getD i []) ho rfl next rows.length rows [] rfl (by rw [List.append_nil]; exact hg.1) (by rw [List.append_nil]; exact hg.2) (fun b hb => by cases hb) (by simpa using hl)
        refine ⟨k + 200 + 1, ?_⟩
        rw [unisonlaw02_KeySorted.l0, if_pos (by omega), if_pos (by omega), L4_at, if_neg (by omega), encode_row _ (by omega), some_bind, encode_ref _ (by omega), some_bind, if_pos rfl, if_pos he, if_pos (by rw [Ks_length]; omega), some_bind, if_pos (by omega)]
        have e1 : Ks rows ++ [(encK (l.getD i [])).1] = Ks (rows ++ [l.getD i []]) := by rw [ee]; unfold Ks; rw [List.map_append]; rfl
        have e2 : wrap64 (((Ks rows ++ [(encK (l.getD i [])).1]).length : Int) - 1) = (rows.length : Int) := by
          rw [List.length_append, List.length_singleton, Ks_length]
          exact pred_nat (by omega)
        rw [e2, e1, ee]
        exact up1 (by omega) hk
      · obtain ⟨k, hk⟩ := skip
        refine ⟨k + 200 + 1, ?_⟩
        rw [unisonlaw02_KeySorted.l0, if_pos (by omega), if_pos (by omega), L4_at, if_neg (by omega), encode_row _ (by omega), some_bind, encode_ref _ (by omega), some_bind, if_pos rfl, if_neg he, w1 (by omega)]
        exact up0 (by omega) hk
theorem KeySorted : ∀ (l0 : List (List S25)), ∃ k, unisonlaw02_KeySorted.f k l0 = some true := by
  intro l
  by_cases h : (l.length : Int) > 2147483647
  · refine ⟨0, ?_⟩
    unfold unisonlaw02_KeySorted.f
    rw [if_pos h]
  · obtain ⟨k, hk⟩ := all_rows l (by omega) l.length 0 (by omega) [] ⟨List.Pairwise.nil, fun r hr => by cases hr⟩ (Nat.zero_le _)
    refine ⟨k + 400, ?_⟩
    unfold unisonlaw02_KeySorted.f
    rw [if_neg h, awake_all (by omega), some_bind]
    exact up0 (by omega) hk
end Go.Proofs.YtohknmlcleifpaaDoor.Pure
