/- What the reference reads of a key, the laws' own comparing and waking; no program's steps in sight; no conditions beyond those in each theorem's head. -/
import Derived.Test.YtohknmlcleifpaaDoorPS3
import Derived.Test.YtohknmlcleifpaaDoorPAx8
import Derived.Test.YtohknmlcleifpaaDoorPAx13
namespace Go.Proofs.YtohknmlcleifpaaDoor.PS
open Go.RowKit Go.Proofs.YtohknmlcleifpaaDoorW.PrintWords Go.Proofs.YtohknmlcleifpaaDoorW.PrintLast Go.Proofs.YtohknmlcleifpaaDoorW.PrintMore Go.Proofs.YtohknmlcleifpaaDoorX Go.Proofs.YtohknmlcleifpaaDoorL Go.Proofs.YtohknmlcleifpaaDoor.PA
set_option linter.unusedVariables false
set_option linter.unusedSimpArgs false

/-! ### comparing, waking -/
theorem same_loop {x y : List S25} (hl : x.length = y.length) (hx : x.length < 9223372036854775807) : ∀ (d i : Nat), i + d = x.length → x.take i = y.take i → ∀ k, d + 1 ≤ k →
    unisonlaw02_same.l0 k x y (i : Int) = some (decide (x = y))
  | d, i, hd, hi, 0, hk => by omega
  | 0, i, hd, hi, k + 1, hk => by
    rw [unisonlaw02_same.l0, if_neg (by omega)]
    have e : i = x.length := by omega
    subst e
    rw [List.take_length, hl, List.take_length] at hi
    rw [decide_eq_true hi]
  | d + 1, i, hd, hi, k + 1, hk => by
    rw [unisonlaw02_same.l0, if_pos (by omega), if_pos (by omega), if_pos (by omega), rd_at, rd_at, show wrap64 ((i : Int) + 1) = ((i + 1 : Nat) : Int) from by unfold wrap64; omega]
    by_cases h : x.getD i z25 = y.getD i z25
    · rw [h, if_neg (by simp)]
      exact same_loop hl hx d (i + 1) (by omega) (by rw [take_snoc z25 (by omega), take_snoc z25 (by omega), hi, h]) k (by omega)
    · rw [if_pos (by
        simp only [Bool.or_eq_true, Bool.not_eq_true', beq_eq_false_iff_ne, ne_eq]
        by_cases a : (x.getD i z25).f0 = (y.getD i z25).f0
        · by_cases b : (x.getD i z25).f1 = (y.getD i z25).f1
          · exact .inr (.inr fun c => h (eta _ _ a b (toList_inj.1 c)))
          · exact .inr (.inl b)
        · exact .inl a), decide_eq_false (fun e => h (by rw [e]))]
theorem same_all (x y : List S25) (hx : x.length < 9223372036854775807) {k : Nat} (hk : x.length + 1 ≤ k) : unisonlaw02_same.f k x y = some (decide (x = y)) := by
  unfold unisonlaw02_same.f
  by_cases h : x.length = y.length
  · rw [if_pos (by omega)]
    exact same_loop h hx x.length 0 (by omega) (by simp) k hk
  · rw [if_neg (by omega), decide_eq_false (fun e => h (by rw [e]))]
theorem awake_300 : unisonlaw02_awake.f 300 = some true := by decide +kernel
theorem awake_all {k : Nat} (hk : 300 ≤ k) : unisonlaw02_awake.f k = some true := at_rounds unisonlaw02_awake.mono hk awake_300

/-! ### the reference's value -/
theorem w1 {i : Nat} (h : i < 1000000000000000) : wrap64 ((i : Int) + 1) = ((i + 1 : Nat) : Int) := by unfold wrap64; omega
theorem w2 {i : Nat} (h : i < 1000000000000000) : wrap64 ((i : Int) + 2) = ((i + 2 : Nat) : Int) := by unfold wrap64; omega
theorem bt_drop {x : ByteArray} {i j : Nat} {c : Int} {l : List Int} (hd : (bytesOf x).drop i = l) (hj : l[j]? = some c) : bt x ((i + j : Nat) : Int) = c := by
  rw [bt_eq]; unfold rd
  rw [Int.toNat_natCast, List.getD_eq_getElem?_getD]
  have := congrArg (fun l => l[j]?) hd
  simp only [List.getElem?_drop] at this
  rw [this, hj]; rfl
theorem read_l0_any (x : ByteArray) (v0 v1 : Int) (v2 : ByteArray) : ∀ (d i : Nat) (u : Int), i + d = 9 → i ≤ x.size → ∀ k, d + 1 ≤ k → ∃ (i1 : Int) (n : Nat), unisonref02_read.l0 k x (i : Int) u v0 v1 v2 = some (v0, i1, v2, (n : Int)) ∧ i ≤ n ∧ n ≤ x.size
  | d, i, u, hd, hi, 0, hk => by omega
  | 0, i, u, hd, hi, k + 1, hk => by
    rw [unisonref02_read.l0, if_neg (by omega)]
    exact ⟨_, i, rfl, by omega, hi⟩
  | d + 1, i, u, hd, hi, k + 1, hk => by
    rw [unisonref02_read.l0, if_pos (by omega)]
    by_cases h : i < x.size
    · rw [if_pos (by omega), if_pos (by omega), show wrap64 ((i : Int) + 1) = ((i + 1 : Nat) : Int) from by unfold wrap64; omega]
      obtain ⟨i1, n, e, h1, h2⟩ := read_l0_any x v0 v1 v2 d (i + 1) (IntKind.u64.wrap ((IntKind.u64.wrap (u * 256)) + (IntKind.u64.wrap (bt x i)))) (by omega) (by omega) k (by omega)
      exact ⟨i1, n, e, by omega, h2⟩
    · rw [if_neg (by omega)]
      exact ⟨_, i, rfl, by omega, hi⟩
theorem read_l0 (x : ByteArray) (v0 v1 : Int) (v2 : ByteArray) (hx : 9 ≤ x.size) : ∀ (d i : Nat), i + d = 8 → ∀ k, d + 1 ≤ k →
    unisonref02_read.l0 k x ((i + 1 : Nat) : Int) (nb (((bytesOf x).drop 1).take i) : Int) v0 v1 v2 = some (v0, num8 (((bytesOf x).drop 1).take 8), v2, 9)
  | d, i, hd, 0, hk => by omega
  | 0, i, hd, k + 1, hk => by
    obtain rfl : i = 8 := by omega
    have hlt := nb_lt (((bytesOf_bytes x).drop 1).take 8)
    rw [List.length_take, List.length_drop, bytesOf_length, Nat.min_eq_left (by omega), show 256 ^ 8 = 18446744073709551616 from rfl] at hlt
    rw [unisonref02_read.l0, if_neg (by omega), wrap_u64]
    unfold num8
    congr 3
    unfold wrap64; omega
  | d + 1, i, hd, k + 1, hk => by
    have hi : i < ((bytesOf x).drop 1).length := by rw [List.length_drop, bytesOf_length]; omega
    have hg : bt x ((i + 1 : Nat) : Int) = ((bytesOf x).drop 1)[i] := by
      rw [bt_eq, rd_get (by rw [Int.toNat_natCast, bytesOf_length]; omega), List.getElem_drop]
      congr 1
      rw [Int.toNat_natCast]; omega
    have hb := bt_range x ((i + 1 : Nat) : Int)
    have hlt := nb_lt (((bytesOf_bytes x).drop 1).take i)
    rw [List.length_take, Nat.min_eq_left (by omega)] at hlt
    have hp : 256 ^ i ≤ 256 ^ 7 := Nat.pow_le_pow_right (by decide) (by omega)
    rw [show 256 ^ 7 = 72057594037927936 from rfl] at hp
    rw [unisonref02_read.l0, if_pos (by omega), if_pos (by omega), if_pos (by omega), wrap_u64, wrap_u64, wrap_u64]
    have e : nb (((bytesOf x).drop 1).take (i + 1)) = nb (((bytesOf x).drop 1).take i) * 256 + (bt x ((i + 1 : Nat) : Int)).toNat := by
      rw [List.take_add_one, List.getElem?_eq_getElem hi, ← hg]
      exact nb_snoc _ _
    rw [show ((nb (((bytesOf x).drop 1).take i) : Int) * 256 % 18446744073709551616 + bt x ((i + 1 : Nat) : Int) % 18446744073709551616) % 18446744073709551616 = (nb (((bytesOf x).drop 1).take (i + 1)) : Int) from by rw [e]; omega,
      show wrap64 (((i + 1 : Nat) : Int) + 1) = ((i + 1 + 1 : Nat) : Int) from by unfold wrap64; omega]
    exact read_l0 x v0 v1 v2 hx d (i + 1) (by omega) k (by omega)
theorem read_l1_any (x : ByteArray) (hx : x.size ≤ 140737488351232) (v0 v1 : Int) (v2 : ByteArray) : ∀ (d i : Nat) (u : List Int), d = x.size - i → i ≤ x.size → u.length ≤ i → ∀ k, 2 * d + 2 ≤ k →
    ∃ (t : ByteArray) (n : Nat), unisonref02_read.l1 k x (i : Int) u v0 v1 v2 = some (v0, v1, t, (n : Int)) ∧ i + 2 ≤ n ∧ n ≤ x.size + 2 := by
  intro d
  induction d using Nat.strongRecOn with
  | _ d ih =>
    intro i u hd hi hu k hk
    obtain ⟨k, rfl⟩ : ∃ j, k = j + 1 + 1 := ⟨k - 2, by omega⟩
    have stop : ∀ j, ∃ (t : ByteArray) (n : Nat), unisonref02_read.j2 (j + 1) x (i : Int) u false v0 v1 v2 = some (v0, v1, t, (n : Int)) ∧ i + 2 ≤ n ∧ n ≤ x.size + 2 := fun j => by
      rw [unisonref02_read.j2, if_neg (by decide), w2 (by omega)]
      exact ⟨_, _, rfl, by omega, by omega⟩
    rw [unisonref02_read.l1]
    by_cases h : i < x.size
    · rw [if_pos (by omega), if_pos (by omega)]
      have one : bt x i ≠ 0 → ∃ (t : ByteArray) (n : Nat), unisonref02_read.j2 (k + 1) x (i : Int) u true v0 v1 v2 = some (v0, v1, t, (n : Int)) ∧ i + 2 ≤ n ∧ n ≤ x.size + 2 := fun hz => by
        obtain ⟨t, n, e, h1, h2⟩ := ih (d - 1) (by clear hz stop; omega) (i + 1) (u ++ [bt x i]) (by clear hz stop; omega) (by clear hz stop; omega) (by rw [List.length_append, List.length_singleton]; clear hz stop; omega) k (by clear hz stop; omega)
        rw [unisonref02_read.j2, if_pos rfl, if_pos (by clear hz stop e; omega), if_pos (by clear hz stop e; omega), if_pos (by clear hz stop e; omega), some_bind, if_neg hz, w1 (by clear hz stop e; omega)]
        exact ⟨t, n, e, by clear e hz stop; omega, h2⟩
      by_cases hz : bt x (i : Int) = 0
      · rw [if_pos hz, w1 (by clear one hz stop; omega)]
        by_cases h1 : i + 1 < x.size
        · rw [if_pos (by clear one hz stop; omega), if_pos (by clear one hz stop; omega)]
          by_cases hm : bt x ((i + 1 : Nat) : Int) = 255
          · obtain ⟨t, n, e, h1, h2⟩ := ih (d - 2) (by clear one hz stop hm; omega) (i + 2) (u ++ [bt x i]) (by clear one hz stop hm; omega) (by clear one hz stop hm; omega) (by rw [List.length_append, List.length_singleton]; clear one hz stop hm; omega) k (by clear one hz stop hm; omega)
            rw [show (bt x ((i + 1 : Nat) : Int) == 255) = true from by rw [hm]; rfl, unisonref02_read.j2, if_pos rfl, if_pos (by clear one hz stop hm e; omega), if_pos (by clear one hz stop hm e; omega), if_pos (by clear one hz stop hm e; omega), some_bind, if_pos hz, w1 (by clear one hz stop hm e; omega), w1 (by clear one hz stop hm e; omega)]
            exact ⟨t, n, e, by clear e one hz stop hm; omega, h2⟩
          · rw [beq_eq_false_iff_ne.2 hm]
            exact stop k
        · rw [if_neg (by clear one hz stop; omega)]
          exact stop k
      · rw [if_neg hz]
        exact one hz
    · rw [if_neg (by omega)]
      exact stop k
/-- The reference's text, of a text's own bytes. -/
theorem read_l1 (x : ByteArray) (hx : x.size ≤ 140737488351232) (v0 v1 : Int) (v2 : ByteArray) (r : List Int) : ∀ (w : List Int) (i : Nat) (u : List Int), Bytes w → (bytesOf x).drop i = dz w ++ 0 :: 0 :: r → u.length ≤ i → ∀ k, 2 * w.length + 2 ≤ k →
    unisonref02_read.l1 k x (i : Int) u v0 v1 v2 = some (v0, v1, strOfNums (u ++ w), ((i + (dz w).length + 2 : Nat) : Int))
  | w, i, u, hw, hd, hu, 0, hk => by omega
  | w, i, u, hw, hd, hu, 1, hk => by omega
  | [], i, u, hw, hd, hu, k + 1 + 1, hk => by
    rw [dz, List.nil_append] at hd
    have hl : i + 2 ≤ x.size := by
      have hl := congrArg List.length hd
      simp only [List.length_drop, List.length_cons, bytesOf_length] at hl
      omega
    have g0 : bt x (i : Int) = 0 := bt_drop (j := 0) hd rfl
    have g1 : bt x ((i + 1 : Nat) : Int) = 0 := bt_drop (j := 1) hd rfl
    rw [unisonref02_read.l1, if_pos (by clear g0 g1; omega), if_pos (by clear g0 g1; omega), if_pos g0, w1 (by clear g0 g1; omega), if_pos (by clear g0 g1; omega), if_pos (by clear g0 g1; omega), g1, show ((0 : Int) == 255) = false from rfl, unisonref02_read.j2, if_neg (by decide),
      List.append_nil, w2 (by clear g0 g1; omega), dz]; rfl
  | c :: w, i, u, hw, hd, hu, k + 1 + 1, hk => by
    have hww : Bytes w := fun y hy => hw y (List.mem_cons_of_mem _ hy)
    rw [List.length_cons] at hk
    have hl : i + 2 ≤ x.size := by
      have hl := congrArg List.length hd
      simp only [List.length_drop, List.length_append, List.length_cons, bytesOf_length] at hl
      omega
    rw [dz] at hd ⊢
    by_cases hc : c = 0
    · rw [if_pos hc] at hd ⊢
      have g0 : bt x (i : Int) = 0 := bt_drop (j := 0) hd rfl
      have g1 : bt x ((i + 1 : Nat) : Int) = 255 := bt_drop (j := 1) hd rfl
      have hd2 : (bytesOf x).drop (i + 2) = dz w ++ 0 :: 0 :: r := by
        have := congrArg (List.drop 2) hd
        rw [List.drop_drop] at this
        exact this
      have ih := read_l1 x hx v0 v1 v2 r w (i + 2) (u ++ [0]) hww hd2 (by rw [List.length_append, List.length_singleton]; clear g0 g1; omega) k (by clear g0 g1; omega)
      rw [unisonref02_read.l1, if_pos (by clear g0 g1 ih; omega), if_pos (by clear g0 g1 ih; omega), if_pos g0, w1 (by clear g0 g1 ih; omega), if_pos (by clear g0 g1 ih; omega), if_pos (by clear g0 g1 ih; omega), g1, show ((255 : Int) == 255) = true from rfl, unisonref02_read.j2, if_pos rfl,
        if_pos (by clear g0 g1 ih; omega), if_pos (by clear g0 g1 ih; omega), if_pos (by clear g0 g1 ih; omega), some_bind, if_pos g0, w1 (by clear g0 g1 ih; omega), w1 (by clear g0 g1 ih; omega), g0]
      refine Eq.trans ih ?_
      rw [hc, List.append_assoc, List.length_cons, List.length_cons, show i + 2 + (dz w).length + 2 = i + ((dz w).length + 1 + 1) + 2 from by clear g0 g1 ih; omega]; rfl
    · rw [if_neg hc] at hd ⊢
      have g0 : bt x (i : Int) = c := bt_drop (j := 0) hd rfl
      have hd2 : (bytesOf x).drop (i + 1) = dz w ++ 0 :: 0 :: r := by
        have := congrArg (List.drop 1) hd
        rw [List.drop_drop] at this
        exact this
      have ih := read_l1 x hx v0 v1 v2 r w (i + 1) (u ++ [c]) hww hd2 (by rw [List.length_append, List.length_singleton]; clear g0; omega) k (by clear g0; omega)
      rw [unisonref02_read.l1, if_pos (by clear g0 ih; omega), if_pos (by clear g0 ih; omega), g0, if_neg hc, unisonref02_read.j2, if_pos rfl, if_pos (by clear g0 ih; omega), if_pos (by clear g0 ih; omega), if_pos (by clear g0 ih; omega), some_bind, g0, if_neg hc, w1 (by clear g0 ih; omega)]
      refine Eq.trans ih ?_
      rw [List.append_assoc, List.length_cons, show i + 1 + (dz w).length + 2 = i + ((dz w).length + 1) + 2 from by clear g0 ih; omega]; rfl
theorem read_any {s : ByteArray} (h0 : 0 < s.size) (hs : s.size ≤ 140737488351232) {k : Nat} (hk : 2 * s.size + 20 ≤ k) : ∃ (a b : Int) (t : ByteArray) (n : Nat), unisonref02_read.f k s = some (a, b, t, (n : Int)) ∧ 1 ≤ n ∧ n ≤ s.size + 2 := by
  unfold unisonref02_read.f
  rw [if_pos (by omega)]
  generalize wrap64 (wrap64 (bt s 0) - 1) = c
  by_cases c1 : c = 1
  · rw [if_pos c1]
    obtain ⟨i1, n, e, h1, h2⟩ := read_l0_any s c 0 ⟨#[]⟩ 8 1 0 rfl (by omega) k (by omega)
    exact ⟨_, _, _, n, e, h1, by omega⟩
  · rw [if_neg c1]
    by_cases c2 : c = 2
    · rw [if_pos c2]
      by_cases h1 : 1 < s.size
      · rw [if_pos (by omega)]; exact ⟨_, _, _, 2, rfl, by omega, by omega⟩
      · rw [if_neg (by omega)]; exact ⟨_, _, _, 1, rfl, by omega, by omega⟩
    · rw [if_neg c2]
      by_cases c3 : c = 3
      · rw [if_pos c3]
        obtain ⟨t, n, e, h1, h2⟩ := read_l1_any s hs c 0 ⟨#[]⟩ (s.size - 1) 1 [] rfl (by omega) (by simp) k (by omega)
        exact ⟨_, _, _, n, e, by omega, h2⟩
      · rw [if_neg c3]; exact ⟨_, _, _, 1, rfl, by omega, by omega⟩
/-- The reference reads a value's own bytes as the value. -/
theorem read_ref {s : ByteArray} (hs : s.size ≤ 140737488351232) {v : S25} (hv : right v = true) {r : List Int} (e : bytesOf s = one v ++ r) {k : Nat} (hk : 150 ≤ k) : unisonref02_read.f k s = some (v.f0, v.f1, v.f2, ((one v).length : Int)) := by
  have hl := congrArg List.length e
  rw [bytesOf_length, List.length_append] at hl
  have hp := one_pos v
  have kv := right_kind hv
  have hh := head_bytes (s := s) (by omega)
  have e' := e
  rw [hh, one, List.cons_append] at e'
  obtain ⟨e1, e2⟩ := List.cons.inj e'
  have hd : (bytesOf s).drop 1 = body v ++ r := by rw [e, one, List.cons_append]; rfl
  unfold unisonref02_read.f
  rw [if_pos (by omega), show wrap64 (wrap64 (bt s 0) - 1) = v.f0 from by rw [e1]; unfold wrap64; omega]
  rw [one, List.length_cons] at hl ⊢
  rcases (right_iff v).1 hv with p | p | p | p
  · rw [if_neg (by omega), if_neg (by omega), if_neg (by omega), body0 p.1, p.2.1, empty_of p.2.2]; rfl
  · rw [body1 p.1] at hd hl ⊢
    rw [be_length] at hl ⊢
    have g := read_l0 s v.f0 0 ⟨#[]⟩ (by omega) 8 0 rfl k (by omega)
    rw [hd, List.take_left' (be_length 8 _)] at g
    have g2 : unisonref02_read.l0 k s 1 0 v.f0 0 ⟨#[]⟩ = _ := g
    rw [if_pos p.1, g2, empty_of p.2.2.2]
    unfold num8
    rw [nb_be, Nat.mod_eq_of_lt (by show _ < 18446744073709551616; omega)]
    congr 3
    omega
  · rw [body2 p.1] at hd hl ⊢
    rw [List.length_singleton] at hl ⊢
    have g1 : bt s 1 = v.f1 % 256 := by
      rw [bt_eq]; unfold rd
      rw [show (1 : Int).toNat = 1 from rfl, List.getD_eq_getElem?_getD]
      have := congrArg (fun l => l[0]?) hd
      simp only [List.getElem?_drop] at this
      rw [this]; rfl
    rw [if_neg (by omega), if_pos p.1, if_pos (by omega), g1, empty_of p.2.2, show wrap64 (v.f1 % 256) = v.f1 from by unfold wrap64; omega]; rfl
  · rw [body3 p.1, List.append_assoc] at hd
    rw [body3 p.1] at hl ⊢
    rw [List.length_append] at hl ⊢
    have g := read_l1 s hs v.f0 0 ⟨#[]⟩ r (bytesOf v.f2) 1 [] (bytesOf_bytes _) hd (by simp) k (by rw [bytesOf_length]; omega)
    have g2 : unisonref02_read.l1 k s 1 [] v.f0 0 ⟨#[]⟩ = _ := g
    rw [if_neg (by omega), if_neg (by omega), if_pos p.1, g2, List.nil_append, strOfNums_bytesOf, p.2.1]
    congr 4
    simp only [List.length_cons, List.length_nil]; omega

/-! ### the reference's key -/
/-- What the reference tells of what it read. -/
def fin (s : ByteArray) (acc : List S25) : List S25 × Int := if (encK acc).2 = 0 then (if (encK acc).1.toList = s.toList then (acc, 0) else ([], 20)) else ([], 20)
theorem fin_eq (s : ByteArray) (acc : List S25) {k : Nat} (hk : 80 ≤ k) : ((unisonref02_Encode.f k acc).bind fun bt256 => (if bt256.2 = 0 then (if bt256.1.toList = s.toList then (some (acc, 0)) else (some (([] : List (S25)), 20))) else (some (([] : List (S25)), 20)))) = some (fin s acc) := by
  rw [encode_ref acc hk, some_bind]
  unfold fin
  split
  · split <;> rfl
  · rfl
theorem fin_is (s : ByteArray) (acc : List S25) : (∃ l, fin s acc = (l, 0) ∧ OK l ∧ bytesOf s = enc l) ∨ fin s acc = ([], 20) := by
  unfold fin
  by_cases h : (encK acc).2 = 0
  · rw [if_pos h]
    obtain ⟨ho, he⟩ := encK_of h
    by_cases g : (encK acc).1.toList = s.toList
    · rw [if_pos g]
      refine .inl ⟨acc, rfl, ho, ?_⟩
      rw [toList_inj, he] at g
      rw [← g, bytesOf_strOfNums (enc_bytes _)]
    · rw [if_neg g]; exact .inr rfl
  · rw [if_neg h]; exact .inr rfl
theorem fin_ok {s : ByteArray} {l : List S25} (h : OK l) (e : bytesOf s = enc l) : fin s l = (l, 0) := by
  unfold fin
  rw [encK_ok h, if_pos rfl, if_pos]
  rw [toList_inj]
  apply bytesOf_inj
  rw [bytesOf_strOfNums (enc_bytes _), e]
theorem ref_loop (s : ByteArray) (hs : s.size ≤ 140737488351232) : ∀ (d at_ : Nat) (acc : List S25), acc.length + d = 9 → at_ ≤ s.size + 2 → ∀ k, d + 2 * s.size + 200 ≤ k →
    ∃ acc', unisonref02_Decode.l0 k s acc (at_ : Int) = some (fin s acc') ∧ (∀ l, OK l → bytesOf s = enc l → acc = l.take acc.length → at_ = (enc acc).length → acc' = l)
  | d, at_, acc, hd, ha, 0, hk => by omega
  | d, at_, acc, hd, ha, k + 1, hk => by
    have last : at_ < s.size → acc.length ≤ 8 → ∀ l, OK l → bytesOf s = enc l → acc = l.take acc.length → at_ = (enc acc).length → acc.length < l.length := fun h1 h2 l hl e he hat => by
      refine Nat.lt_of_not_le fun hc => ?_
      rw [List.take_of_length_le hc] at he
      rw [he, ← e, bytesOf_length] at hat
      omega
    rw [unisonref02_Decode.l0]
    by_cases h1 : at_ < s.size
    · rw [if_pos (by omega)]
      by_cases h2 : acc.length ≤ 8
      · have hsz := size_tail (s := s) at_
        rw [if_pos (by omega), if_pos (by omega), if_pos (by omega), Int.toNat_natCast]
        obtain ⟨a, b, t, n, e, hn1, hn2⟩ := read_any (s := s.extract at_ s.size) (by omega) (by omega) (k := k) (by omega)
        rw [hsz] at hn2
        obtain ⟨d, rfl⟩ : ∃ j, d = j + 1 := ⟨d - 1, by omega⟩
        rw [e, some_bind, if_pos (by omega), show wrap64 ((at_ : Int) + (n : Int)) = ((at_ + n : Nat) : Int) from by unfold wrap64; omega]
        obtain ⟨acc', e2, h3⟩ := ref_loop s hs d (at_ + n) (acc ++ [⟨a, b, t⟩]) (by simp only [List.length_append, List.length_cons, List.length_nil]; omega) (by omega) k (by omega)
        refine ⟨acc', e2, fun l hl e3 he hat => ?_⟩
        have hlt := last h1 h2 l hl e3 he hat
        have e4 : bytesOf (s.extract at_ s.size) = one (l.getD acc.length z25) ++ enc (l.drop (acc.length + 1)) := by
          rw [bytesOf_extract_to_end, e3, hat]
          conv => lhs; rw [← List.take_append_drop acc.length l, enc_app, ← he]
          rw [List.drop_left', ← enc_cons]
          · congr 1
            rw [List.drop_eq_getElem_cons hlt, List.getD_eq_getElem?_getD, List.getElem?_eq_getElem hlt]; rfl
          · rfl
        have e5 := read_ref (s := s.extract at_ s.size) (by omega) (hl.2 _ (getD_mem hlt)) e4 (k := k) (by omega)
        rw [e] at e5
        simp only [Option.some.injEq, Prod.mk.injEq] at e5
        obtain ⟨rfl, rfl, rfl, hnn⟩ := e5
        have hnn : n = (one (l.getD acc.length z25)).length := by omega
        have e6 : acc ++ [l.getD acc.length z25] = l.take (acc.length + 1) := by
          rw [take_snoc z25 hlt, ← he]
        refine h3 l hl e3 ?_ ?_
        · rw [List.length_append, List.length_singleton]; exact e6
        · rw [hat, hnn, enc_app]
          show _ = (enc acc ++ enc [l.getD acc.length z25]).length
          rw [List.length_append, enc_cons, List.length_append]; simp [enc]
      · rw [if_neg (by omega), fin_eq s acc (by omega)]
        refine ⟨acc, rfl, fun l hl e he hat => ?_⟩
        have h8 := hl.1
        have := congrArg List.length he
        rw [List.length_take] at this
        omega
    · rw [if_neg (by omega), fin_eq s acc (by omega)]
      refine ⟨acc, rfl, fun l hl e he hat => ?_⟩
      have e2 : enc l = enc acc ++ enc (l.drop acc.length) := by
        conv => lhs; rw [← List.take_append_drop acc.length l, enc_app, ← he]
      have e3 := congrArg List.length e2
      rw [← e, bytesOf_length, List.length_append] at e3
      have e4 := enc_eq_nil (List.eq_nil_of_length_eq_zero (show (enc (l.drop acc.length)).length = 0 by omega))
      have e5 := List.take_append_drop acc.length l
      rw [e4, List.append_nil, ← he] at e5
      exact e5
theorem decode_ref {s : ByteArray} (hs : s.size ≤ 140737488351232) {k : Nat} (hk : 2 * s.size + 300 ≤ k) : ∃ R, unisonref02_Decode.f k s = some R ∧ Rd (bytesOf s) R := by
  unfold unisonref02_Decode.f
  obtain ⟨acc, e, h⟩ := ref_loop s hs 9 0 [] rfl (by omega) k (by omega)
  refine ⟨_, e, ?_⟩
  rcases fin_is s acc with g | g
  · exact .inl g
  · refine .inr ⟨g, fun l hl e2 => ?_⟩
    have := h l hl e2 (by simp) (by simp [enc])
    subst this
    rw [fin_ok hl e2] at g
    simp at g
end Go.Proofs.YtohknmlcleifpaaDoor.PS
