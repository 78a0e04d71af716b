/- Several texts in one (merge.py): LX1, LX2, LXB, LXR, LXQ; no conditions beyond those in each theorem's head. -/
import Derived.Test.YtllehkjebikgpaaGreatDoorMB
import Derived.Test.YtllehkjebikgpaaGreatDoorPL
import Derived.Test.YtllehkjebikgpaaGreatDoorXC
import Derived.Test.YtllehkjebikgpaaGreatDoorLXP
import Derived.Test.YtllehkjebikgpaaGreatDoorPFRScan
section
namespace Go.Proofs.YtllehkjebikgpaaGreatDoor.PS
open Go.RowKit Go.Proofs.YtllehkjebikgpaaGreatDoorW.PrintWords Go.Proofs.YtllehkjebikgpaaGreatDoorW.PrintLast Go.Proofs.YtllehkjebikgpaaGreatDoorW.PrintMore Go.Proofs.YtllehkjebikgpaaGreatDoorX Go.Proofs.YtllehkjebikgpaaGreatDoorL Go.Proofs.YtllehkjebikgpaaGreatDoor.PA
set_option linter.unusedVariables false
set_option linter.unusedSimpArgs false

def bl (s : ByteArray) : List UInt8 := s.data.toList
theorem bl_length (s : ByteArray) : (bl s).length = s.size := (Lib.size_eq s).symm
theorem bl_mk (l : List UInt8) : bl ⟨l.toArray⟩ = l := rfl
theorem bl_inj {s t : ByteArray} (h : bl s = bl t) : s = t := ByteArray.ext (Array.toList_inj.1 h)
theorem mk_bl (s : ByteArray) : (⟨(bl s).toArray⟩ : ByteArray) = s := bl_inj rfl
theorem bl_front (s : ByteArray) (n : Nat) : bl (s.extract 0 n) = (bl s).take n := by
  show (s.extract 0 n).data.toList = _
  rw [Lib.extract_data, Nat.sub_zero, List.drop_zero]; rfl
theorem bl_tail (s : ByteArray) (n : Nat) : bl (s.extract n s.size) = (bl s).drop n := by
  show (s.extract n s.size).data.toList = _
  rw [Lib.extract_data, List.take_of_length_le]
  · rfl
  · rw [List.length_drop, Array.length_toList]; exact Nat.le_refl _
theorem toList_bl (s : ByteArray) : s.toList = bl s := by rw [ByteArray.toList_eq]; rfl
theorem bt_bl {s : ByteArray} {i : Nat} (h : i < (bl s).length) : bt s (i : Int) = (((bl s)[i]'h).toNat : Int) := by
  have h' : i < s.size := by rw [← bl_length]; exact h
  unfold bt
  rw [dif_pos (show (i : Int).toNat < s.size from h')]
  rfl
theorem wn {n : Nat} (m : Nat) (h : n + m ≤ 9223372036854775807) : wrap64 ((n : Int) + (m : Int)) = ((n + m : Nat) : Int) := by rw [wrap64_of (by omega) (by omega)]; omega
theorem wn1 {n : Nat} (h : n + 1 ≤ 9223372036854775807) : wrap64 ((n : Int) + 1) = ((n + 1 : Nat) : Int) := wn 1 h

/-! ### classes -/
def clsI (c : Int) : Int := (lex_classOf.f 6 c).getD 0
theorem class_all : ∀ c : Fin 256, (lex_classOf.f 6 (c.val : Int)).isSome = true := by decide +kernel
theorem class_eq {c : Int} (h0 : 0 ≤ c) (h1 : c ≤ 255) {k : Nat} (hk : 6 ≤ k) : lex_classOf.f k c = some (clsI c) := by
  obtain ⟨r, hr⟩ := Option.isSome_iff_exists.1 (class_all ⟨c.toNat, by omega⟩)
  rw [show ((⟨c.toNat, by omega⟩ : Fin 256).val : Int) = c from by show ((c.toNat : Nat) : Int) = c; omega] at hr
  have := at_rounds (lex_classOf.mono c) hk hr
  rw [this, clsI, hr]; rfl
def cls (c : UInt8) : Int := clsI c.toNat
theorem class_u8 (c : UInt8) {k : Nat} (hk : 6 ≤ k) : lex_classOf.f k (c.toNat : Int) = some (cls c) := class_eq (by omega) (by have := c.toNat_lt; omega) hk
theorem all_u8 {P : UInt8 → Prop} [DecidablePred P] (h : ∀ c : Fin 256, P (UInt8.ofNat c.val)) (c : UInt8) : P c := by
  have := h ⟨c.toNat, c.toNat_lt⟩
  simpa using this
/-- Is it part of a run? -/
def inRun (c : UInt8) : Bool := cls c == 2 || (cls c == 3 || cls c == 4)
def runL (l : List UInt8) : List UInt8 := l.takeWhile inRun
theorem run_loop (s : ByteArray) (hs : s.size ≤ 140737488351232) : ∀ (d i : Nat), i + d = s.size → ∀ k, d + 8 ≤ k → lex_run.l0 k s (i : Int) = some (s.extract 0 (i + (runL ((bl s).drop i)).length))
  | d, i, hd, 0, hk => by omega
  | 0, i, hd, k + 1, hk => by
    rw [lex_run.l0, if_neg (by omega), if_pos (by omega), if_pos (by omega), List.drop_of_length_le (by rw [bl_length]; omega)]
    rfl
  | d + 1, i, hd, k + 1, hk => by
    have hi : i < (bl s).length := by rw [bl_length]; omega
    have hc := class_u8 ((bl s)[i]'hi) (k := k) (by omega)
    have ih := run_loop s hs d (i + 1) (by omega) k (by omega)
    have hw := wn1 (n := i) (by omega)
    rw [lex_run.l0, if_pos (by omega), if_pos (by omega), bt_bl hi, List.drop_eq_getElem_cons hi, runL, List.takeWhile_cons]
    simp only [hc, some_bind, hw, ih]
    have hr : inRun (bl s)[i] = (cls (bl s)[i] == 2 || (cls (bl s)[i] == 3 || cls (bl s)[i] == 4)) := rfl
    rw [hr]
    generalize cls (bl s)[i] = c
    have hgo : ∀ n, i + 1 + n = i + (n + 1) := by omega
    by_cases h2 : c = 2
    · subst h2; simp [runL, hgo]
    · rw [if_neg h2]
      by_cases h3 : c = 3
      · subst h3; simp [runL, hgo]
      · rw [if_neg h3]
        by_cases h4 : c = 4
        · subst h4; simp [runL, hgo]
        · rw [if_neg h4, if_pos (show (i : Int) ≤ (s.size : Int) by omega)]
          simp [h2, h3, h4]
theorem take_run (l : List UInt8) : l.take (runL l).length = runL l := by
  unfold runL
  induction l with
  | nil => rfl
  | cons c r ih =>
    rw [List.takeWhile_cons]
    split
    · rw [List.length_cons, List.take_succ_cons, ih]
    · rfl
theorem run_eq (s : ByteArray) (hs : s.size ≤ 140737488351232) {k : Nat} (hk : s.size + 8 ≤ k) : lex_run.f k s = some ⟨(runL (bl s)).toArray⟩ := by
  have := run_loop s hs s.size 0 (by omega) k (by omega)
  unfold lex_run.f
  rw [show (0 : Int) = ((0 : Nat) : Int) from rfl, this, List.drop_zero, Nat.zero_add]
  congr 1
  apply bl_inj
  rw [bl_front]
  exact take_run (bl s)

/-! ### names -/
def inName (c : UInt8) : Bool := cls c == 3 || (cls c == 2 || c.toNat == 95)
def nameL : List UInt8 → Bool
  | [] => false
  | c :: r => cls c == 3 && r.all inName && decide (r.length < 16)
theorem name_loop (s : ByteArray) (hs : s.size ≤ 140737488351232) : ∀ (d i : Nat), 1 ≤ i → i + d = s.size → ∀ k, d + 8 ≤ k → lex_IsName.l0 k s (s.size : Int) (i : Int) = some (((bl s).drop i).all inName && decide (s.size ≤ 16))
  | d, i, h1, hd, 0, hk => by omega
  | 0, i, h1, hd, k + 1, hk => by
    have hne : ¬ s.toList = [] := by rw [toList_bl]; intro h; have := bl_length s; rw [h] at this; simp at this; omega
    rw [lex_IsName.l0, if_neg (by omega), if_neg hne, List.drop_of_length_le (by rw [bl_length]; omega), List.all_nil, Bool.true_and]
    congr 2
    rw [eq_iff_iff]; omega
  | d + 1, i, h1, hd, k + 1, hk => by
    have hi : i < (bl s).length := by rw [bl_length]; omega
    have hc := class_u8 ((bl s)[i]'hi) (k := k) (by omega)
    have ih := name_loop s hs d (i + 1) (by omega) (by omega) k (by omega)
    have hw := wn1 (n := i) (by omega)
    rw [lex_IsName.l0, if_pos (by omega), if_pos (by omega), if_pos (by omega), bt_bl hi, List.drop_eq_getElem_cons hi, List.all_cons]
    simp only [hc, some_bind, hw, ih]
    have hn : inName (bl s)[i] = (cls (bl s)[i] == 3 || (cls (bl s)[i] == 2 || (bl s)[i].toNat == 95)) := rfl
    rw [hn]
    by_cases h3 : cls (bl s)[i] = 3
    · rw [if_pos h3]; simp [h3]
    · rw [if_neg h3, if_neg (by omega)]
      by_cases h2 : cls (bl s)[i] = 2
      · rw [if_pos h2]; simp [h2]
      · rw [if_neg h2]
        by_cases h9 : (((bl s)[i]).toNat : Int) = 95
        · rw [if_pos h9]
          have : ((bl s)[i]).toNat = 95 := by omega
          simp [this]
        · rw [if_neg h9]
          have : ¬ ((bl s)[i]).toNat = 95 := by omega
          simp [h3, h2, this]
theorem name_eq (s : ByteArray) (hs : s.size ≤ 140737488351232) {k : Nat} (hk : s.size + 9 ≤ k) : lex_IsName.f k s = some (nameL (bl s)) := by
  obtain ⟨k, rfl⟩ : ∃ j, k = j + 1 := ⟨k - 1, by omega⟩
  unfold lex_IsName.f
  have hlen := bl_length s
  cases e : bl s with
  | nil =>
    rw [e] at hlen
    have h0 : s.size = 0 := hlen.symm
    have hnil : s.toList = [] := by rw [toList_bl, e]
    rw [lex_IsName.l0, if_neg (by omega), if_pos hnil]
    rfl
  | cons c r =>
    rw [e, List.length_cons] at hlen
    have hi : 0 < (bl s).length := by rw [bl_length]; omega
    have hc0 : (bl s)[0]'hi = c := by simp [e]
    have hb : bt s 0 = (c.toNat : Int) := by have := bt_bl hi; rw [hc0] at this; exact this
    have hc := class_u8 c (k := k) (by omega)
    have ih := name_loop s hs (s.size - 1) 1 (by omega) (by omega) k (by omega)
    have hw : wrap64 ((0 : Int) + 1) = ((1 : Nat) : Int) := by rw [wrap64_of (by omega) (by omega)]; rfl
    rw [lex_IsName.l0, if_pos (by omega), if_pos (by omega), if_pos (by omega), hb]
    simp only [hc, some_bind, hw, ih]
    rw [nameL]
    by_cases h3 : cls c = 3
    · rw [if_pos h3, e]
      have : (decide (s.size ≤ 16)) = decide (r.length < 16) := by congr 1; rw [eq_iff_iff]; omega
      simp [h3, this]
    · simp [h3]

/-! ### words -/
theorem index_loop (l : List ByteArray) (a : ByteArray) (hl : l.length ≤ 1000) : ∀ (d i : Nat), i + d = l.length → ∀ k, d + 1 ≤ k →
    slices_Index_string_string.l0 k l a (l.length : Int) (i : Int) = some (if ((l.drop i).any fun b => b.toList == a.toList) = true then ((i + (l.drop i).findIdx fun b => b.toList == a.toList : Nat) : Int) else -1)
  | d, i, hd, 0, hk => by omega
  | 0, i, hd, k + 1, hk => by
    rw [slices_Index_string_string.l0, if_neg (by omega), List.drop_of_length_le (by omega)]
    simp
  | d + 1, i, hd, k + 1, hk => by
    have hi : i < l.length := by omega
    have ih := index_loop l a hl d (i + 1) (by omega) k (by omega)
    have hw := wn1 (n := i) (by omega)
    have hr : rdOf ByteArray.empty l (i : Int) = l[i] := by simp [rdOf, List.getD_eq_getElem?_getD, List.getElem?_eq_getElem hi]
    rw [slices_Index_string_string.l0, if_pos (by omega), if_pos (by omega), if_pos (by omega), hr, hw, ih]
    rw [show l.drop i = l[i] :: l.drop (i + 1) from List.drop_eq_getElem_cons hi]
    by_cases h : a.toList = l[i].toList
    · rw [if_pos h]
      have h' : (l[i].toList == a.toList) = true := beq_iff_eq.mpr h.symm
      simp only [List.any_cons, h', Bool.true_or, if_true, List.findIdx_cons, cond_true, Nat.add_zero]
    · rw [if_neg h]
      have h' : (l[i].toList == a.toList) = false := beq_eq_false_iff_ne.mpr (fun e => h e.symm)
      simp only [List.any_cons, h', Bool.false_or, List.findIdx_cons, cond_false]
      split
      · congr 1; omega
      · rfl
def wordsL : List ByteArray := [⟨#[83, 69, 76, 69, 67, 84]⟩, ⟨#[73, 78, 83, 69, 82, 84]⟩, ⟨#[73, 78, 84, 79]⟩, ⟨#[86, 65, 76, 85, 69, 83]⟩, ⟨#[85, 80, 68, 65, 84, 69]⟩, ⟨#[83, 69, 84]⟩, ⟨#[68, 69, 76, 69, 84, 69]⟩, ⟨#[70, 82, 79, 77]⟩, ⟨#[74, 79, 73, 78]⟩, ⟨#[79, 78]⟩, ⟨#[87, 72, 69, 82, 69]⟩, ⟨#[71, 82, 79, 85, 80]⟩, ⟨#[79, 82, 68, 69, 82]⟩, ⟨#[66, 89]⟩, ⟨#[68, 69, 83, 67]⟩, ⟨#[76, 73, 77, 73, 84]⟩, ⟨#[65, 78, 68]⟩, ⟨#[79, 82]⟩, ⟨#[78, 79, 84]⟩, ⟨#[73, 83]⟩, ⟨#[78, 85, 76, 76]⟩, ⟨#[84, 82, 85, 69]⟩, ⟨#[70, 65, 76, 83, 69]⟩, ⟨#[67, 79, 85, 78, 84]⟩, ⟨#[83, 85, 77]⟩, ⟨#[77, 73, 78]⟩, ⟨#[77, 65, 88]⟩]
def wordL (l : List UInt8) : Bool := wordsL.any fun b => b.toList == l
theorem word_eq (s : ByteArray) {k : Nat} (hk : 30 ≤ k) : lex_IsWord.f k s = some (wordL (bl s)) := by
  have h := index_loop wordsL s (by decide) 27 0 rfl k (by omega)
  rw [show ((0 : Nat) : Int) = 0 from rfl] at h
  have e : lex_IsWord.f k s = ((slices_Index_string_string.f k wordsL s).bind fun t => some (decide (t ≥ 0))).bind fun t => some t := rfl
  rw [e]
  unfold slices_Index_string_string.f
  rw [h, some_bind, some_bind, List.drop_zero, toList_bl]
  unfold wordL
  congr 1
  cases hb : (wordsL.any fun b => b.toList == bl s) with
  | true => rw [if_pos rfl, decide_eq_true_iff]; omega
  | false => rw [if_neg (by simp)]; rfl

/-! ### the end of a text -/
/-- How many bytes behind the first mark there are, up to the last one, it too. -/
def qend : List UInt8 → Option Nat
  | [] => none
  | [c] => if c.toNat = 39 then some 1 else none
  | c :: d :: r => if c.toNat = 39 then (if d.toNat = 39 then (qend r).map (· + 2) else some 1) else (qend (d :: r)).map (· + 1)
theorem qend_not {c : UInt8} (h : ¬ c.toNat = 39) (r : List UInt8) : qend (c :: r) = (qend r).map (· + 1) := by
  cases r with
  | nil => simp [qend, h]
  | cons d r => rw [qend, if_neg h]
theorem quoted_loop (s : ByteArray) (hs : s.size ≤ 140737488351232) : ∀ (d i : Nat), s.size ≤ i + d → ∀ k, d + 2 ≤ k →
    lex_quoted.l0 k s (i : Int) = some (match qend ((bl s).drop i) with | some n => s.extract 0 (i + n) | none => ⟨#[]⟩)
  | d, i, hd, 0, hk => by omega
  | d, i, hd, k + 1, hk => by
    by_cases hi : i < s.size
    · obtain ⟨d, rfl⟩ : ∃ j, d = j + 1 := ⟨d - 1, by omega⟩
      have hi' : i < (bl s).length := by rw [bl_length]; exact hi
      have hw := wn1 (n := i) (by omega)
      rw [lex_quoted.l0, if_pos (by omega), if_pos (by omega), bt_bl hi', List.drop_eq_getElem_cons hi', hw]
      by_cases hq : (((bl s)[i]).toNat : Int) = 39
      · rw [if_pos hq]
        have hq' : ((bl s)[i]).toNat = 39 := by omega
        by_cases hj : i + 1 < s.size
        · have hj' : i + 1 < (bl s).length := by rw [bl_length]; exact hj
          have hw2 := wn1 (n := i + 1) (by omega)
          have ih := quoted_loop s hs d (i + 1 + 1) (by omega) k (by omega)
          rw [if_pos (by omega), if_pos (by omega), bt_bl hj', hw2, ih]
          rw [show (bl s).drop (i + 1) = (bl s)[i + 1] :: (bl s).drop (i + 1 + 1) from List.drop_eq_getElem_cons hj', qend, if_pos hq']
          by_cases hr : (((bl s)[i + 1]).toNat : Int) = 39
          · rw [if_pos hr, if_pos (show ((bl s)[i + 1]).toNat = 39 by omega)]
            cases qend ((bl s).drop (i + 1 + 1)) with
            | none => rfl
            | some n => simp only [Option.map_some]; congr 2; omega
          · rw [if_neg hr, if_pos (by omega), if_neg (show ¬ ((bl s)[i + 1]).toNat = 39 by omega)]
            rfl
        · rw [if_neg (by omega), if_pos (by omega), if_pos (by omega), List.drop_of_length_le (by rw [bl_length]; omega), qend, if_pos hq']
          rfl
      · have ih := quoted_loop s hs d (i + 1) (by omega) k (by omega)
        rw [if_neg hq, ih, qend_not (by omega)]
        cases qend ((bl s).drop (i + 1)) with
        | none => rfl
        | some n => simp only [Option.map_some]; congr 2; omega
    · rw [lex_quoted.l0, if_neg (by omega), List.drop_of_length_le (by rw [bl_length]; omega)]
      rfl
theorem qend_le : ∀ (n : Nat) (l : List UInt8), l.length ≤ n → ∀ m, qend l = some m → 1 ≤ m ∧ m ≤ l.length
  | _, [], _, m, h => by simp [qend] at h
  | _, [c], _, m, h => by
    rw [qend] at h
    split at h
    · cases h; simp
    · cases h
  | 0, c :: d :: r, h, _, _ => by simp at h
  | n + 1, c :: d :: r, hl, m, h => by
    have hl' : (d :: r).length ≤ n := by simpa using hl
    rw [qend] at h
    split at h
    · split at h
      · obtain ⟨x, hx, rfl⟩ := Option.map_eq_some_iff.1 h
        have := qend_le n r (by simp at hl'; omega) x hx
        simp; omega
      · cases h; simp
    · obtain ⟨x, hx, rfl⟩ := Option.map_eq_some_iff.1 h
      have := qend_le n (d :: r) hl' x hx
      simp at this ⊢; omega
theorem quoted_eq (s : ByteArray) (hs : s.size ≤ 140737488351232) {k : Nat} (hk : s.size + 2 ≤ k) : lex_quoted.f k s = some (match qend ((bl s).drop 1) with | some n => ⟨((bl s).take (1 + n)).toArray⟩ | none => ⟨#[]⟩) := by
  have := quoted_loop s hs s.size 1 (by omega) k (by omega)
  unfold lex_quoted.f
  rw [show (1 : Int) = ((1 : Nat) : Int) from rfl, this]
  congr 1
  split
  · apply bl_inj; rw [bl_front]; rfl
  · rfl

/-! ### signs -/
def sgn : List UInt8 → Nat
  | c :: d :: _ => if (c.toNat = 60 ∧ (d.toNat = 62 ∨ d.toNat = 61)) ∨ (c.toNat = 62 ∧ d.toNat = 61) then 2 else 1
  | _ => 1
theorem sign_eq (s : ByteArray) (h0 : 0 < s.size) {k : Nat} (hk : 10 ≤ k) : lex_signOf.f k s = some ⟨((bl s).take (sgn (bl s))).toArray⟩ := by
  obtain ⟨k, rfl⟩ : ∃ j, k = j + 1 + 1 + 1 + 1 := ⟨k - 4, by omega⟩
  have hlen := bl_length s
  have e1 : (s.extract 0 1) = ⟨((bl s).take 1).toArray⟩ := by apply bl_inj; rw [bl_front]; rfl
  unfold lex_signOf.f
  rw [some_bind]
  have hp : ∀ x y : UInt8, strings_HasPrefix.f s ⟨#[x, y]⟩ = some (([x, y] : List UInt8).isPrefixOf (bl s)) := fun _ _ => rfl
  have step : ∀ (i : Nat) (x y : UInt8) (j : Nat), i < 3 → rdOf ByteArray.empty ([(⟨#[60, 62]⟩ : ByteArray), (⟨#[60, 61]⟩ : ByteArray), (⟨#[62, 61]⟩ : ByteArray)] : List ByteArray) (i : Int) = ⟨#[x, y]⟩ →
      lex_signOf.l0 (j + 1) s ([(⟨#[60, 62]⟩ : ByteArray), (⟨#[60, 61]⟩ : ByteArray), (⟨#[62, 61]⟩ : ByteArray)] : List ByteArray) 3 (i : Int) = if ([x, y] : List UInt8).isPrefixOf (bl s) = true then some ⟨#[x, y]⟩ else lex_signOf.l0 j s ([(⟨#[60, 62]⟩ : ByteArray), (⟨#[60, 61]⟩ : ByteArray), (⟨#[62, 61]⟩ : ByteArray)] : List ByteArray) 3 ((i + 1 : Nat) : Int) := fun i x y j hi hr => by
    rw [lex_signOf.l0]
    rw [if_pos (show (i : Int) < 3 by omega), if_pos (by omega), if_pos (show (i : Int) < (([(⟨#[60, 62]⟩ : ByteArray), (⟨#[60, 61]⟩ : ByteArray), (⟨#[62, 61]⟩ : ByteArray)] : List ByteArray).length : Int) by show (i : Int) < 3; omega), hr, hp, some_bind, wn1 (by omega)]
  have h0' := step 0 60 62 (k + 1 + 1 + 1) (by omega) rfl
  have h1' := step 1 60 61 (k + 1 + 1) (by omega) rfl
  have h2' := step 2 62 61 (k + 1) (by omega) rfl
  have h3' : lex_signOf.l0 (k + 1) s ([(⟨#[60, 62]⟩ : ByteArray), (⟨#[60, 61]⟩ : ByteArray), (⟨#[62, 61]⟩ : ByteArray)] : List ByteArray) 3 ((3 : Nat) : Int) = some (s.extract 0 1) := by
    rw [lex_signOf.l0, if_neg (by omega), if_pos (by omega), if_pos (by omega)]
  show lex_signOf.l0 (k + 1 + 1 + 1 + 1) s _ 3 ((0 : Nat) : Int) = _
  rw [h0', h1', h2', h3', e1]
  have hne : bl s ≠ [] := fun e => by rw [e] at hlen; simp at hlen; omega
  clear h0' h1' h2' h3' step hp e1 hlen
  revert hne
  generalize bl s = l
  intro hne
  match l, hne with
  | [c], _ => simp [sgn, List.isPrefixOf]
  | c :: d :: r, _ =>
    have u : ∀ (x : UInt8) (n : Nat), (x.toNat = n) ↔ x.toNat = n := fun _ _ => Iff.rfl
    have q : ∀ (x : UInt8) (n : Nat) (hn : n < 256), (UInt8.ofNat n == x) = decide (x.toNat = n) := fun x n hn => by
      rw [Bool.eq_iff_iff, beq_iff_eq, decide_eq_true_iff, ← UInt8.toNat_inj, UInt8.toNat_ofNat']
      omega
    have q60 := q c 60 (by decide); have q62 := q c 62 (by decide); have p62 := q d 62 (by decide); have p61 := q d 61 (by decide)
    have r60 : c.toNat = 60 → c = 60 := fun h => UInt8.toNat_inj.1 h
    have r62 : c.toNat = 62 → c = 62 := fun h => UInt8.toNat_inj.1 h
    have s62 : d.toNat = 62 → d = 62 := fun h => UInt8.toNat_inj.1 h
    have s61 : d.toNat = 61 → d = 61 := fun h => UInt8.toNat_inj.1 h
    simp only [List.isPrefixOf, Bool.and_true]
    rw [show ((60 : UInt8) == c) = decide (c.toNat = 60) from q60, show ((62 : UInt8) == c) = decide (c.toNat = 62) from q62, show ((62 : UInt8) == d) = decide (d.toNat = 62) from p62, show ((61 : UInt8) == d) = decide (d.toNat = 61) from p61]
    simp only [sgn]
    by_cases a : c.toNat = 60
    · obtain rfl := r60 a
      by_cases b : d.toNat = 62
      · obtain rfl := s62 b; simp
      · by_cases b' : d.toNat = 61
        · obtain rfl := s61 b'; simp
        · simp [b, b']
    · by_cases a' : c.toNat = 62
      · obtain rfl := r62 a'
        by_cases b' : d.toNat = 61
        · obtain rfl := s61 b'; simp
        · simp [b']
      · simp [a, a']
end Go.Proofs.YtllehkjebikgpaaGreatDoor.PS
end
section
namespace Go.Proofs.YtllehkjebikgpaaGreatDoor.PS
open Go.RowKit Go.Proofs.YtllehkjebikgpaaGreatDoorSh Go.Proofs.YtllehkjebikgpaaGreatDoorW.PrintWords Go.Proofs.YtllehkjebikgpaaGreatDoorW.PrintLast Go.Proofs.YtllehkjebikgpaaGreatDoorW.PrintMore Go.Proofs.YtllehkjebikgpaaGreatDoorX Go.Proofs.YtllehkjebikgpaaGreatDoorL Go.Proofs.YtllehkjebikgpaaGreatDoor.PA
set_option linter.unusedVariables false
set_option linter.unusedSimpArgs false

def numL (w : List UInt8) : Int × Bool := (atoiN w, atoiOk w && (decide (0 ≤ atoiN w) && (decide (atoiN w ≤ 4611686018427387904) && (Lib.itoa (atoiN w) == w))))
theorem number_eq (s : ByteArray) (hs : s.size ≤ 100000000000) : lex_number.f s = some (numL (bl s)) := by
  unfold lex_number.f
  rw [if_pos hs]; rfl
def litL (q : List UInt8) : Option (List UInt8) := (value_Parse.f ⟨q.toArray⟩).bind fun r => if r.2.2.2 = 0 then some (bl r.2.2.1) else none
theorem fin_some (s : ByteArray) (v0 v1 : Int) (v2 : ByteArray) : ∃ r, fin s v0 v1 v2 = some r := by
  unfold fin
  obtain ⟨p, hp⟩ := print_some v0 v1 v2
  rw [hp]; exact ⟨_, rfl⟩
theorem parse_some (s : ByteArray) (hs : s.size ≤ 100000000000) : ∃ r, value_Parse.f s = some r := by
  unfold value_Parse.f
  rw [if_pos hs]
  split
  · exact fin_some ..
  · split
    · exact fin_some ..
    · split
      · split
        · exact fin_some ..
        · exact ⟨_, rfl⟩
      · split
        · exact fin_some ..
        · exact fin_some ..
/-- The token at the begin of a list: what it is, its length, what is wrong. -/
def tokL : List UInt8 → (Int × Int × List UInt8) × Nat × Int
  | [] => ((0, 0, []), 0, 0)
  | c :: r =>
    if cls c = 2 then (if (numL (runL (c :: r))).2 = true then ((2, (numL (runL (c :: r))).1, []), (runL (c :: r)).length, 0) else ((0, 0, []), 0, 101))
    else if cls c = 3 ∨ cls c = 4 then (if wordL (runL (c :: r)) = true then ((4, 0, runL (c :: r)), (runL (c :: r)).length, 0) else if nameL (runL (c :: r)) = true then ((3, 0, runL (c :: r)), (runL (c :: r)).length, 0) else ((0, 0, []), 0, 102))
    else if cls c = 5 then (if nameL (runL r) = true then ((6, 0, runL r), (runL r).length + 1, 0) else ((0, 0, []), 0, 102))
    else if cls c = 6 then (match (qend r).bind fun n => (litL ((c :: r).take (1 + n))).map fun t => (t, 1 + n) with
      | some (t, n) => ((5, 0, t), n, 0)
      | none => ((0, 0, []), 0, 103))
    else if cls c = 7 ∨ cls c = 8 then ((7, 0, (c :: r).take (sgn (c :: r))), ((c :: r).take (sgn (c :: r))).length, 0)
    else ((0, 0, []), 0, 100)
theorem tw_le (p : UInt8 → Bool) : ∀ l : List UInt8, (l.takeWhile p).length ≤ l.length
  | [] => Nat.le_refl _
  | c :: l => by
    have := tw_le p l
    rw [List.takeWhile_cons]
    split
    · simp; exact this
    · simp
theorem runL_le (l : List UInt8) : (runL l).length ≤ l.length := tw_le _ _
theorem runL_pos {c : UInt8} {r : List UInt8} (h : inRun c = true) : 1 ≤ (runL (c :: r)).length := by
  unfold runL
  rw [List.takeWhile_cons, if_pos h]; simp
theorem size_mk' (l : List UInt8) : (⟨l.toArray⟩ : ByteArray).size = l.length := by rw [Lib.size_eq]
theorem mk_toList_nil {l : List UInt8} : (⟨l.toArray⟩ : ByteArray).toList = [] ↔ l = [] := by rw [toList_bl, bl_mk]
set_option maxHeartbeats 1000000 in
theorem token_eq (s : ByteArray) (hs : s.size ≤ 1000000) (h0 : 0 < s.size) {k : Nat} (hk : s.size + 60 ≤ k) :
    lex_token.f k s = some ((tokL (bl s)).1.1, (tokL (bl s)).1.2.1, ⟨(tokL (bl s)).1.2.2.toArray⟩, 0, ((tokL (bl s)).2.1 : Int), (tokL (bl s)).2.2) := by
  obtain ⟨k, rfl⟩ : ∃ j, k = j + 1 := ⟨k - 1, by omega⟩
  have hlen := bl_length s
  unfold lex_token.f
  rw [run_eq s (by omega) (by omega), some_bind, if_pos (by omega)]
  cases e : bl s with
  | nil => rw [e] at hlen; simp at hlen; omega
  | cons c r =>
    have hi : 0 < (bl s).length := by rw [bl_length]; omega
    have hc0 : (bl s)[0]'hi = c := by simp [e]
    have hb : bt s 0 = (c.toNat : Int) := by have := bt_bl hi; rw [hc0] at this; exact this
    have hrl := runL_le (c :: r)
    rw [e, List.length_cons] at hlen
    rw [List.length_cons] at hrl
    have hw := size_mk' (runL (c :: r))
    rw [hb, class_u8 c (by omega), some_bind, tokL]
    by_cases h2 : cls c = 2
    · rw [if_pos h2, if_pos h2, number_eq _ (by rw [hw]; omega), some_bind, bl_mk, hw]
      by_cases hn : (numL (runL (c :: r))).2 = true
      · rw [if_pos hn, if_pos hn]
      · rw [if_neg hn, if_neg hn]; rfl
    · rw [if_neg h2, if_neg h2]
      have hword : ∀ {k}, 40 ≤ k → lex_IsWord.f k (⟨(runL (c :: r)).toArray⟩ : ByteArray) = some (wordL (runL (c :: r))) := fun h => by rw [word_eq _ (by omega), bl_mk]
      have hname : lex_IsName.f k (⟨(runL (c :: r)).toArray⟩ : ByteArray) = some (nameL (runL (c :: r))) := by rw [name_eq _ (by rw [hw]; omega) (by rw [hw]; omega), bl_mk]
      have run : ∀ y, lex_token.j0 (k + 1) s (⟨(runL (c :: r)).toArray⟩ : ByteArray) y true = some (
          (if wordL (runL (c :: r)) = true then ((4, 0, ⟨(runL (c :: r)).toArray⟩, 0, ((runL (c :: r)).length : Int), 0) : Int × Int × ByteArray × Int × Int × Int) else if nameL (runL (c :: r)) = true then (3, 0, ⟨(runL (c :: r)).toArray⟩, 0, ((runL (c :: r)).length : Int), 0) else (0, 0, ⟨#[]⟩, 0, 0, 102))) := fun y => by
        rw [lex_token.j0, if_pos rfl, hword (by omega), some_bind, hname, some_bind, hw]
        cases wordL (runL (c :: r)) <;> cases nameL (runL (c :: r)) <;> rfl
      by_cases h3 : cls c = 3
      · have h34 : cls c = 3 ∨ cls c = 4 := .inl h3
        rw [if_pos h3, show (cls c == 3) = true from beq_iff_eq.mpr h3, run]
        simp only [if_pos h34]
        cases wordL (runL (c :: r)) <;> cases nameL (runL (c :: r)) <;> rfl
      · rw [if_neg h3]
        by_cases h4 : cls c = 4
        · have h34 : cls c = 3 ∨ cls c = 4 := .inr h4
          rw [show (cls c == 4) = true from beq_iff_eq.mpr h4, run]
          simp only [if_pos h34]
          cases wordL (runL (c :: r)) <;> cases nameL (runL (c :: r)) <;> rfl
        · have h34 : ¬ (cls c = 3 ∨ cls c = 4) := by rintro (h | h); exact h3 h; exact h4 h
          rw [show (cls c == 4) = false from beq_eq_false_iff_ne.mpr h4, lex_token.j0, if_neg (by decide)]
          simp only [if_neg h34]
          by_cases h5 : cls c = 5
          · have hx : bl (s.extract 1 s.size) = r := by rw [bl_tail, e]; rfl
            have hxs : (s.extract 1 s.size).size ≤ 140737488351232 := by rw [ByteArray.size_extract]; omega
            have hrl' := runL_le r
            have hw' := size_mk' (runL r)
            have hxk : (s.extract 1 s.size).size + 8 ≤ k := by rw [ByteArray.size_extract]; omega
            rw [if_pos h5, if_pos h5, if_pos (by omega), run_eq _ hxs hxk, some_bind, hx, name_eq _ (by rw [hw']; omega) (by rw [hw']; omega), some_bind, bl_mk, hw']
            by_cases hn : nameL (runL r) = true
            · rw [if_pos hn, if_pos hn, wn1 (by omega)]
            · rw [if_neg hn, if_neg hn]; rfl
          · rw [if_neg h5, if_neg h5]
            by_cases h6 : cls c = 6
            · rw [if_pos h6, if_pos h6, quoted_eq s (by omega) (by omega), some_bind, e, List.drop_succ_cons, List.drop_zero]
              cases hq : qend r with
              | none =>
                show (lex_literal.f _).bind _ = _
                unfold lex_literal.f
                rw [if_pos (by rw [toList_bl]; rfl), some_bind, if_neg (by decide)]
                rfl
              | some n =>
                show (lex_literal.f _).bind _ = _
                have hqr := qend_le r.length r (Nat.le_refl _) n hq
                have hl : ((c :: r).take (1 + n)).length = 1 + n := by rw [List.length_take, List.length_cons]; omega
                have hz := size_mk' ((c :: r).take (1 + n))
                rw [hl] at hz
                obtain ⟨p, hp⟩ := parse_some (⟨((c :: r).take (1 + n)).toArray⟩ : ByteArray) (by rw [hz]; omega)
                unfold lex_literal.f
                rw [if_neg (by rw [mk_toList_nil]; intro h; rw [h] at hl; simp at hl; omega), hp, some_bind, some_bind, hz, some_bind, litL, hp, some_bind]
                by_cases he : p.2.2.2 = 0
                · rw [if_pos he, if_pos he]
                  show _ = some ((5 : Int), (0 : Int), (⟨(bl p.2.2.1).toArray⟩ : ByteArray), (0 : Int), ((1 + n : Nat) : Int), (0 : Int))
                  rw [mk_bl]
                · rw [if_neg he, if_neg he]; rfl
            · rw [if_neg h6, if_neg h6]
              have hz := size_mk' ((c :: r).take (sgn (c :: r)))
              have hsg : ∀ {j}, 10 ≤ j → lex_signOf.f j s = some ⟨((c :: r).take (sgn (c :: r))).toArray⟩ := fun h => by rw [sign_eq s h0 h, e]
              by_cases h7 : cls c = 7
              · rw [if_pos h7, if_pos (.inl h7), hsg (by omega), some_bind, hz]
              · rw [if_neg h7]
                by_cases h8 : cls c = 8
                · rw [if_pos h8, if_pos (.inr h8), hsg (by omega), some_bind, hz]
                · rw [if_neg h8, if_neg (by rintro (h | h); exact h7 h; exact h8 h)]; rfl
theorem sgn_range (l : List UInt8) : 1 ≤ sgn l ∧ sgn l ≤ 2 := by
  unfold sgn
  split
  · split <;> omega
  · omega
theorem inRun_of {c : UInt8} (h : cls c = 2 ∨ cls c = 3 ∨ cls c = 4) : inRun c = true := by
  unfold inRun
  rcases h with h | h | h <;> simp [h]
/-- A token has some bytes, and lies within the list. -/
theorem tok_size (c : UInt8) (r : List UInt8) (h : (tokL (c :: r)).2.2 = 0) : 1 ≤ (tokL (c :: r)).2.1 ∧ (tokL (c :: r)).2.1 ≤ r.length + 1 := by
  have hrl := runL_le (c :: r)
  have hrl' := runL_le r
  rw [List.length_cons] at hrl
  rw [tokL] at h ⊢
  by_cases h2 : cls c = 2
  · have := runL_pos (r := r) (inRun_of (.inl h2))
    rw [if_pos h2] at h ⊢
    split at h
    · next hn => rw [if_pos hn]; exact ⟨this, hrl⟩
    · exact absurd h (by decide)
  · rw [if_neg h2] at h ⊢
    by_cases h3 : cls c = 3 ∨ cls c = 4
    · have := runL_pos (r := r) (inRun_of (.inr h3))
      rw [if_pos h3] at h ⊢
      split at h
      · next hn => rw [if_pos hn]; exact ⟨this, hrl⟩
      · next hn =>
        rw [if_neg hn]
        split at h
        · next hm => rw [if_pos hm]; exact ⟨this, hrl⟩
        · exact absurd h (by decide)
    · rw [if_neg h3] at h ⊢
      by_cases h5 : cls c = 5
      · rw [if_pos h5] at h ⊢
        split at h
        · next hn => rw [if_pos hn]; exact ⟨by show 1 ≤ (runL r).length + 1; omega, by show (runL r).length + 1 ≤ _; omega⟩
        · exact absurd h (by decide)
      · rw [if_neg h5] at h ⊢
        by_cases h6 : cls c = 6
        · rw [if_pos h6] at h ⊢
          split at h
          · next t n hn =>
            obtain ⟨m, hm, hx⟩ := Option.bind_eq_some_iff.1 hn
            obtain ⟨y, _, hy⟩ := Option.map_eq_some_iff.1 hx
            have := qend_le r.length r (Nat.le_refl _) m hm
            cases hy
            show 1 ≤ 1 + m ∧ 1 + m ≤ _
            omega
          · exact absurd h (by decide)
        · rw [if_neg h6] at h ⊢
          by_cases h7 : cls c = 7 ∨ cls c = 8
          · rw [if_pos h7]
            have := sgn_range (c :: r)
            show 1 ≤ ((c :: r).take (sgn (c :: r))).length ∧ ((c :: r).take (sgn (c :: r))).length ≤ _
            rw [List.length_take, List.length_cons]; omega
          · rw [if_neg h7] at h; exact absurd h (by decide)

/-! ### remarks -/
def isRem (l : List UInt8) : Bool := ([45, 45] : List UInt8).isPrefixOf l
def remN (l : List UInt8) : Nat := (l.takeWhile fun c => !(c == 10)).length
theorem remN_le (l : List UInt8) : remN l ≤ l.length := tw_le _ _
theorem rem_pos {l : List UInt8} (h : isRem l = true) : 2 ≤ remN l := by
  obtain ⟨t, rfl⟩ := List.isPrefixOf_iff_prefix.1 h
  unfold remN
  simp
theorem index_rem : ∀ l : List UInt8, (Lib.indexByte l 10 < 0 ∧ remN l = l.length) ∨ (Lib.indexByte l 10 = (remN l : Int))
  | [] => .inl ⟨by rw [Lib.indexByte]; decide, rfl⟩
  | c :: l => by
    rw [Lib.indexByte]
    unfold remN
    rw [List.takeWhile_cons]
    by_cases h : (c == 10) = true
    · rw [if_pos h, h]; exact .inr rfl
    · have h' := Bool.eq_false_iff.mpr h
      rw [if_neg h, h']
      have hge := Lib.indexByte_ge l 10
      rcases index_rem l with ⟨a, b⟩ | a
      · rw [if_pos (by rw [beq_iff_eq]; omega)]
        exact .inl ⟨by omega, by unfold remN at b; simp [b]⟩
      · have : 0 ≤ (remN l : Int) := by omega
        rw [if_neg (by rw [beq_iff_eq]; omega)]
        exact .inr (by rw [a]; unfold remN; simp)

/-! ### Scan -/
def mkT (t : Int × Int × List UInt8) (i : Nat) : S28 := ⟨t.1, t.2.1, ⟨t.2.2.toArray⟩, (i : Int)⟩
def endT (i : Nat) : S28 := ⟨1, 0, ⟨#[]⟩, (i : Int)⟩
/-- What is told of a list of bytes that begins at a place: the tokens ahead of what is wrong, if something is. -/
inductive Run : List UInt8 → Nat → List S28 → Option (Nat × Int) → Prop
  | fin (i : Nat) : Run [] i [endT i] none
  | blank {c : UInt8} {r : List UInt8} {i : Nat} {ts : List S28} {e : Option (Nat × Int)} (h : cls c = 1) (hr : Run r (i + 1) ts e) : Run (c :: r) i ts e
  | rem {l : List UInt8} {i : Nat} {ts : List S28} {e : Option (Nat × Int)} (h : isRem l = true) (hr : Run (l.drop (remN l)) (i + remN l) ts e) : Run l i ts e
  | bad {c : UInt8} {r : List UInt8} {i : Nat} (h : cls c ≠ 1) (hm : isRem (c :: r) = false) (he : (tokL (c :: r)).2.2 ≠ 0) : Run (c :: r) i [] (some (i, (tokL (c :: r)).2.2))
  | tok {c : UInt8} {r : List UInt8} {i : Nat} {ts : List S28} {e : Option (Nat × Int)} (h : cls c ≠ 1) (hm : isRem (c :: r) = false) (he : (tokL (c :: r)).2.2 = 0)
      (hr : Run ((c :: r).drop (tokL (c :: r)).2.1) (i + (tokL (c :: r)).2.1) ts e) : Run (c :: r) i (mkT (tokL (c :: r)).1 i :: ts) e
def resOf (acc ts : List S28) : Option (Nat × Int) → List S28 × Int × Int
  | none => (acc ++ ts, 0, 0)
  | some (n, x) => ([], (n : Int), x)
theorem run_total : ∀ (n : Nat) (l : List UInt8), l.length ≤ n → ∀ i, ∃ ts e, Run l i ts e
  | _, [], _, i => ⟨_, _, .fin i⟩
  | 0, c :: r, h, _ => by simp at h
  | n + 1, c :: r, h, i => by
    have h' : r.length ≤ n := by simpa using h
    by_cases h1 : cls c = 1
    · obtain ⟨ts, e, hr⟩ := run_total n r h' (i + 1)
      exact ⟨_, _, .blank h1 hr⟩
    · cases hm : isRem (c :: r) with
      | true =>
        have hp := rem_pos hm
        obtain ⟨ts, e, hr⟩ := run_total n ((c :: r).drop (remN (c :: r))) (by rw [List.length_drop, List.length_cons]; omega) (i + remN (c :: r))
        exact ⟨_, _, .rem hm hr⟩
      | false =>
        by_cases he : (tokL (c :: r)).2.2 = 0
        · have hz := tok_size c r he
          obtain ⟨ts, e, hr⟩ := run_total n ((c :: r).drop (tokL (c :: r)).2.1) (by rw [List.length_drop, List.length_cons]; omega) (i + (tokL (c :: r)).2.1)
          exact ⟨_, _, .tok h1 hm he hr⟩
        · exact ⟨_, _, .bad h1 hm he⟩
theorem cls_dash : cls 45 = 7 := by decide +kernel
theorem rem_not_blank {c : UInt8} {r : List UInt8} (h : isRem (c :: r) = true) : cls c ≠ 1 := by
  obtain ⟨t, ht⟩ := List.isPrefixOf_iff_prefix.1 h
  injection ht with h1 h2
  subst h1
  rw [cls_dash]; decide
theorem scan_run {l : List UInt8} {i : Nat} {ts : List S28} {e : Option (Nat × Int)} (h : Run l i ts e) : ∀ (s : ByteArray) (acc : List S28) (k : Nat), (bl s).drop i = l → i + l.length = s.size → s.size ≤ 1000 →
    acc.length + l.length ≤ 1000 → l.length + 1100 ≤ k → lex_Scan.l0 k s acc i = some (resOf acc ts e) := by
  induction h with
  | fin i =>
    intro s acc k hd hl hs ha hk
    obtain ⟨k, rfl⟩ : ∃ j, k = j + 1 := ⟨k - 1, by omega⟩
    have : i = s.size := by simpa using hl
    rw [lex_Scan.l0, if_pos this, if_pos (by simp at ha; omega)]
    rfl
  | @blank c r i ts e h hr ih =>
    intro s acc k hd hl hs ha hk
    obtain ⟨k, rfl⟩ : ∃ j, k = j + 1 := ⟨k - 1, by omega⟩
    rw [List.length_cons] at hl ha hk
    have hi : i < (bl s).length := by rw [bl_length]; omega
    have hc : (bl s)[i] = c ∧ (bl s).drop (i + 1) = r := by
      rw [List.drop_eq_getElem_cons hi] at hd
      injection hd with h1 h2
      exact ⟨h1, h2⟩
    rw [lex_Scan.l0, if_neg (by omega), if_pos (by omega), bt_bl hi, hc.1, class_u8 c (by omega), some_bind, if_pos h]
    exact ih s acc k hc.2 (by omega) hs (by omega) (by omega)
  | @rem l i ts e h hr ih =>
    intro s acc k hd hl hs ha hk
    obtain ⟨k, rfl⟩ : ∃ j, k = j + 1 := ⟨k - 1, by omega⟩
    have hp := rem_pos h
    have hle := remN_le l
    match l, h, hr, ih, hd, hl, ha, hk, hp, hle with
    | [], _, _, _, _, _, _, _, hp, _ => exact absurd hp (by decide)
    | c :: r, h, hr, ih, hd, hl, ha, hk, hp, hle =>
      have hnb := rem_not_blank h
      have hlen : (c :: r).length = r.length + 1 := List.length_cons
      have hi : i < (bl s).length := by rw [bl_length]; omega
      have hc : (bl s)[i] = c := by
        rw [List.drop_eq_getElem_cons hi] at hd
        injection hd with h1 h2
      have hx : (s.extract i s.size).data.toList = c :: r := by rw [← hd]; exact bl_tail s i
      have hdd : (bl s).drop (i + remN (c :: r)) = (c :: r).drop (remN (c :: r)) := by rw [← hd, List.drop_drop]
      have := ih s acc k hdd (by rw [List.length_drop]; omega) hs (by rw [List.length_drop]; omega) (by rw [List.length_drop]; omega)
      rw [lex_Scan.l0, if_neg (by omega), if_pos (by omega), bt_bl hi, hc, class_u8 c (by omega), some_bind, if_neg hnb, hx, if_pos (show Lib.hasPrefix (c :: r) [45, 45] = true from h)]
      rcases index_rem (c :: r) with ⟨a, b⟩ | a
      · rw [if_pos a]
        rw [b, show i + (c :: r).length = s.size from hl] at this
        exact this
      · rw [if_neg (by rw [a]; omega), a, Int.toNat_natCast]
        exact this
  | @bad c r i h hm he =>
    intro s acc k hd hl hs ha hk
    obtain ⟨k, rfl⟩ : ∃ j, k = j + 1 := ⟨k - 1, by omega⟩
    rw [List.length_cons] at hl ha hk
    have hi : i < (bl s).length := by rw [bl_length]; omega
    have hc : (bl s)[i] = c := by
      rw [List.drop_eq_getElem_cons hi] at hd
      injection hd with h1 h2
    have hx : (s.extract i s.size).data.toList = c :: r := by rw [← hd]; exact bl_tail s i
    have hxs : (s.extract i s.size).size = s.size - i := by rw [ByteArray.size_extract]; omega
    have ht := token_eq (s.extract i s.size) (by omega) (by omega) (k := k) (by omega)
    rw [show bl (s.extract i s.size) = c :: r from hx] at ht
    rw [lex_Scan.l0, if_neg (by omega), if_pos (by omega), bt_bl hi, hc, class_u8 c (by omega), some_bind, if_neg h, hx, if_neg (show ¬ Lib.hasPrefix (c :: r) [45, 45] = true from by rw [show Lib.hasPrefix (c :: r) [45, 45] = isRem (c :: r) from rfl, hm]; decide), ht, some_bind, if_neg he]
    rfl
  | @tok c r i ts e h hm he hr ih =>
    intro s acc k hd hl hs ha hk
    obtain ⟨k, rfl⟩ : ∃ j, k = j + 1 := ⟨k - 1, by omega⟩
    rw [List.length_cons] at hl ha hk
    have hz := tok_size c r he
    have hi : i < (bl s).length := by rw [bl_length]; omega
    have hc : (bl s)[i] = c := by
      rw [List.drop_eq_getElem_cons hi] at hd
      injection hd with h1 h2
    have hx : (s.extract i s.size).data.toList = c :: r := by rw [← hd]; exact bl_tail s i
    have hxs : (s.extract i s.size).size = s.size - i := by rw [ByteArray.size_extract]; omega
    have ht := token_eq (s.extract i s.size) (by omega) (by omega) (k := k) (by omega)
    rw [show bl (s.extract i s.size) = c :: r from hx] at ht
    have hdd : (bl s).drop (i + (tokL (c :: r)).2.1) = (c :: r).drop (tokL (c :: r)).2.1 := by rw [← hd, List.drop_drop]
    have := ih s (acc ++ [mkT (tokL (c :: r)).1 i]) k hdd (by rw [List.length_drop, List.length_cons]; omega) hs (by rw [List.length_append, List.length_drop, List.length_cons]; simp; omega) (by rw [List.length_drop, List.length_cons]; omega)
    rw [lex_Scan.l0, if_neg (by omega), if_pos (by omega), bt_bl hi, hc, class_u8 c (by omega), some_bind, if_neg h, hx, if_neg (show ¬ Lib.hasPrefix (c :: r) [45, 45] = true from by rw [show Lib.hasPrefix (c :: r) [45, 45] = isRem (c :: r) from rfl, hm]; decide), ht, some_bind, if_pos he, if_pos ⟨by omega, by show (0 : Int) ≤ ((tokL (c :: r)).2.1 : Int); omega, by show ((tokL (c :: r)).2.1 : Int) ≤ 1000; omega⟩, Int.toNat_natCast]
    rw [show (⟨(tokL (c :: r)).1.1, (tokL (c :: r)).1.2.1, ⟨(tokL (c :: r)).1.2.2.toArray⟩, (i : Int)⟩ : S28) = mkT (tokL (c :: r)).1 i from rfl, this]
    cases e with
    | none => unfold resOf; rw [List.append_assoc]; rfl
    | some p => rfl
theorem scan_of {s : ByteArray} {ts : List S28} {e : Option (Nat × Int)} (h : Run (bl s) 0 ts e) (hs : s.size ≤ 1000) {k : Nat} (hk : 2100 ≤ k) : lex_Scan.f k s = some (resOf [] ts e) := by
  have hl := bl_length s
  unfold lex_Scan.f
  rw [if_pos hs]
  exact scan_run h s [] k (List.drop_zero) (by omega) hs (by simp; omega) (by omega)
theorem scan_long {s : ByteArray} (hs : ¬ s.size ≤ 1000) (k : Nat) : lex_Scan.f k s = some ([], 0, 2) := by
  unfold lex_Scan.f
  rw [if_neg hs]
theorem scan_all (s : ByteArray) (hs : s.size ≤ 1000) : ∃ ts e, Run (bl s) 0 ts e := run_total _ _ (Nat.le_refl _) 0
end Go.Proofs.YtllehkjebikgpaaGreatDoor.PS
end
section
namespace Go.Proofs.YtllehkjebikgpaaGreatDoor.PS
open Go.RowKit Go.Proofs.YtllehkjebikgpaaGreatDoorSh Go.Proofs.YtllehkjebikgpaaGreatDoorW.PrintWords Go.Proofs.YtllehkjebikgpaaGreatDoorW.PrintLast Go.Proofs.YtllehkjebikgpaaGreatDoorW.PrintMore Go.Proofs.YtllehkjebikgpaaGreatDoorX Go.Proofs.YtllehkjebikgpaaGreatDoorL Go.Proofs.YtllehkjebikgpaaGreatDoor.PA
set_option linter.unusedVariables false
set_option linter.unusedSimpArgs false

/-! ### literals have no control bytes -/
theorem hexB_pr : ∀ d : Fin 16, 32 ≤ (hexB d.val).toNat := by decide
theorem qb_pr (c : UInt8) : ∀ b ∈ qb c, 32 ≤ b.toNat := by
  intro b hb
  unfold qb at hb
  have hc := c.toNat_lt
  split at hb
  · simp only [List.mem_cons, List.not_mem_nil, or_false] at hb
    rcases hb with rfl | rfl | rfl
    · decide
    · exact hexB_pr ⟨c.toNat / 16, by omega⟩
    · exact hexB_pr ⟨c.toNat % 16, by omega⟩
  · split at hb
    · simp only [List.mem_cons, List.not_mem_nil, or_false] at hb
      rcases hb with rfl | rfl <;> decide
    · simp only [List.mem_cons, List.not_mem_nil, or_false] at hb
      subst hb; omega
theorem fin_text {s : ByteArray} {t : ByteArray} {r : Int × Int × ByteArray × Int} (h : fin s 3 0 t = some r) (he : r.2.2.2 = 0) : bl s = YtllehkjebikgpaaGreatDoorX.quoted (bl t) ++ [39] := by
  unfold fin value_Print.f at h
  obtain ⟨p, hp, h⟩ := Option.bind_eq_some_iff.1 h
  obtain ⟨b, hb, hp⟩ := Option.bind_eq_some_iff.1 hp
  have h := Option.some.inj h
  have hp := Option.some.inj hp
  by_cases c : p.2 = 0 ∧ p.1 = s
  · cases b with
    | false => rw [if_neg (by decide)] at hp; rw [← hp] at c; exact absurd c.1 (by decide)
    | true =>
      rw [if_pos rfl, if_neg (by decide), if_neg (by decide), if_pos rfl] at hp
      rw [← c.2, ← hp]; rfl
  · rw [if_neg c] at h; rw [← h] at he; exact absurd he (by decide)
/-- A text's literal is what Print writes. -/
theorem lit_printed {q : List UInt8} {t : List UInt8} (hq : 1 < q.length) (h0 : ∃ r, q = 39 :: r) (h : litL q = some t) : q = YtllehkjebikgpaaGreatDoorX.quoted t ++ [39] := by
  obtain ⟨r, rfl⟩ := h0
  unfold litL at h
  obtain ⟨p, hp, h⟩ := Option.bind_eq_some_iff.1 h
  split at h
  · next he =>
    obtain rfl := Option.some.inj h
    unfold value_Parse.f at hp
    split at hp
    · have hT : ¬ (⟨(39 :: r).toArray⟩ : ByteArray).toList = [84, 82, 85, 69] := by rw [toList_bl, bl_mk]; intro e; exact absurd (List.cons.inj e).1 (by decide)
      have hF : ¬ (⟨(39 :: r).toArray⟩ : ByteArray).toList = [70, 65, 76, 83, 69] := by rw [toList_bl, bl_mk]; intro e; exact absurd (List.cons.inj e).1 (by decide)
      have hb : bt (⟨(39 :: r).toArray⟩ : ByteArray) 0 = 39 := by
        have hi : 0 < (bl (⟨(39 :: r).toArray⟩ : ByteArray)).length := by rw [bl_mk]; simp
        have := bt_bl hi
        rw [show ((0 : Nat) : Int) = 0 from rfl] at this
        rw [this]; rfl
      rw [if_neg hT, if_neg hF, dif_pos ⟨by rw [size_mk']; exact hq, hb⟩] at hp
      split at hp
      · next l _ =>
        have := fin_text hp he
        rw [bl_mk] at this
        have h2 : bl p.2.2.1 = l := by
          unfold fin at hp
          obtain ⟨z, hz, hp⟩ := Option.bind_eq_some_iff.1 hp
          have hp := Option.some.inj hp
          by_cases c : z.2 = 0 ∧ z.1 = (⟨(39 :: r).toArray⟩ : ByteArray)
          · rw [if_pos c] at hp; rw [← hp]; rfl
          · rw [if_neg c] at hp; rw [← hp] at he; exact absurd he (by decide)
        rw [h2, this]; rfl
      · have := Option.some.inj hp
        rw [← this] at he; exact absurd he (by decide)
    · cases hp
  · cases h
theorem lit_ctl {r : List UInt8} {b : UInt8} (hb : b ∈ r) (h32 : b.toNat < 32) : litL (39 :: r) = none := by
  cases h : litL (39 :: r) with
  | none => rfl
  | some t =>
    exfalso
    have hr : 1 < (39 :: r).length := by
      cases r with
      | nil => cases hb
      | cons _ _ => simp
    have e := lit_printed hr ⟨r, rfl⟩ h
    have hm : b ∈ YtllehkjebikgpaaGreatDoorX.quoted t ++ [39] := by rw [← e]; exact List.mem_cons_of_mem _ hb
    unfold YtllehkjebikgpaaGreatDoorX.quoted at hm
    rcases List.mem_append.1 hm with hm | hm
    · rcases List.mem_cons.1 hm with rfl | hm
      · exact absurd h32 (by decide)
      · obtain ⟨c, _, hc⟩ := List.mem_flatMap.1 hm
        have := qb_pr c b hc
        omega
    · rcases List.mem_cons.1 hm with rfl | hm
      · exact absurd h32 (by decide)
      · cases hm

/-! ### ends of texts -/
theorem qend_app {b : UInt8} (hb : ¬ b.toNat = 39) (t : List UInt8) : ∀ (n : Nat) (l : List UInt8), l.length ≤ n → ∀ m, qend l = some m → qend (l ++ b :: t) = some m
  | _, [], _, m, h => by simp [qend] at h
  | _, [c], _, m, h => by
    rw [qend] at h
    split at h
    · next hc =>
      show qend (c :: b :: t) = some m
      rw [qend, if_pos hc, if_neg hb]; exact h
    · cases h
  | 0, c :: d :: r, h, _, _ => by simp at h
  | n + 1, c :: d :: r, hl, m, h => by
    have hl' : (d :: r).length ≤ n := by simpa using hl
    show qend (c :: d :: (r ++ b :: t)) = some m
    rw [qend] at h ⊢
    split at h
    · next hc =>
      rw [if_pos hc]
      split at h
      · next hd =>
        rw [if_pos hd]
        obtain ⟨x, hx, rfl⟩ := Option.map_eq_some_iff.1 h
        rw [qend_app hb t n r (by simp at hl'; omega) x hx]; rfl
      · next hd => rw [if_neg hd]; exact h
    · next hc =>
      rw [if_neg hc]
      obtain ⟨x, hx, rfl⟩ := Option.map_eq_some_iff.1 h
      have := qend_app hb t n (d :: r) hl' x hx
      rw [show d :: r ++ b :: t = d :: (r ++ b :: t) from rfl] at this
      rw [this]; rfl
/-- Where a text has no end of its own, an end beyond it lies beyond what stands between. -/
theorem qend_far {b : UInt8} (hb : ¬ b.toNat = 39) (t : List UInt8) : ∀ (n : Nat) (l : List UInt8), l.length ≤ n → qend l = none → ∀ m, qend (l ++ b :: t) = some m → l.length < m
  | _, [], _, _, m, h => by
    have h : qend (b :: t) = some m := h
    have := qend_le _ _ (Nat.le_refl _) m h
    show 0 < m
    omega
  | _, [c], _, h0, m, h => by
    rw [qend] at h0
    split at h0
    · cases h0
    · next hc =>
      have h : qend (c :: b :: t) = some m := h
      rw [qend, if_neg hc] at h
      obtain ⟨x, hx, rfl⟩ := Option.map_eq_some_iff.1 h
      have := qend_le _ _ (Nat.le_refl _) x hx
      show 1 < x + 1
      omega
  | 0, c :: d :: r, h, _, _, _ => by simp at h
  | n + 1, c :: d :: r, hl, h0, m, h => by
    have hl' : (d :: r).length ≤ n := by simpa using hl
    have h : qend (c :: d :: (r ++ b :: t)) = some m := h
    rw [qend] at h h0
    split at h0
    · next hc =>
      rw [if_pos hc] at h
      split at h0
      · next hd =>
        rw [if_pos hd] at h
        obtain ⟨x, hx, rfl⟩ := Option.map_eq_some_iff.1 h
        have := qend_far hb t n r (by simp at hl'; omega) (by simpa using h0) x hx
        simp; omega
      · cases h0
    · next hc =>
      rw [if_neg hc] at h
      obtain ⟨x, hx, rfl⟩ := Option.map_eq_some_iff.1 h
      have := qend_far hb t n (d :: r) hl' (by simpa using h0) x hx
      simp at this ⊢; omega
theorem qend_cut (z : List UInt8) (hz : ∀ b y, z = b :: y → ¬ b.toNat = 39) : ∀ (n : Nat) (l : List UInt8), l.length ≤ n → ∀ m, qend l = some m → qend (l.take m ++ z) = some m
  | _, [], _, m, h => by simp [qend] at h
  | _, [c], _, m, h => by
    rw [qend] at h
    split at h
    · next hc =>
      cases h
      show qend (c :: z) = some 1
      cases z with
      | nil => rw [qend, if_pos hc]
      | cons b y => rw [qend, if_pos hc, if_neg (hz b y rfl)]
    · cases h
  | 0, c :: d :: r, h, _, _ => by simp at h
  | n + 1, c :: d :: r, hl, m, h => by
    have hl' : (d :: r).length ≤ n := by simpa using hl
    rw [qend] at h
    split at h
    · next hc =>
      split at h
      · next hd =>
        obtain ⟨x, hx, rfl⟩ := Option.map_eq_some_iff.1 h
        show qend (c :: d :: (r.take x ++ z)) = some (x + 2)
        rw [qend, if_pos hc, if_pos hd, qend_cut z hz n r (by simp at hl'; omega) x hx]; rfl
      · cases h
        show qend (c :: z) = some 1
        cases z with
        | nil => rw [qend, if_pos hc]
        | cons b y => rw [qend, if_pos hc, if_neg (hz b y rfl)]
    · next hc =>
      obtain ⟨x, hx, rfl⟩ := Option.map_eq_some_iff.1 h
      have := qend_cut z hz n (d :: r) hl' x hx
      show qend (c :: ((d :: r).take x ++ z)) = some (x + 1)
      rw [qend_not hc, this]; rfl

/-! ### runs -/
theorem runL_app {b : UInt8} (hb : inRun b = false) (t : List UInt8) : ∀ l : List UInt8, runL (l ++ b :: t) = runL l
  | [] => by
    show (b :: t).takeWhile inRun = []
    rw [List.takeWhile_cons, hb]; rfl
  | c :: l => by
    show (c :: (l ++ b :: t)).takeWhile inRun = (c :: l).takeWhile inRun
    rw [List.takeWhile_cons, List.takeWhile_cons]
    have := runL_app hb t l
    unfold runL at this
    rw [this]
theorem runL_self (z : List UInt8) (hz : ∀ b y, z = b :: y → inRun b = false) : ∀ l : List UInt8, runL (runL l ++ z) = runL l
  | [] => by
    cases z with
    | nil => rfl
    | cons b y =>
      show (b :: y).takeWhile inRun = []
      rw [List.takeWhile_cons, hz b y rfl]; rfl
  | c :: l => by
    have ih := runL_self z hz l
    unfold runL at ih ⊢
    rw [List.takeWhile_cons]
    split
    · next h =>
      rw [List.cons_append, List.takeWhile_cons, h, if_pos rfl, ih]
    · cases z with
      | nil => rfl
      | cons b y =>
        show (b :: y).takeWhile inRun = []
        rw [List.takeWhile_cons, hz b y rfl]; rfl
theorem nl_run : inRun 10 = false := by decide +kernel
theorem sgn_nl (c : UInt8) (r t : List UInt8) : sgn (c :: r ++ 10 :: t) = sgn (c :: r) := by
  cases r with
  | nil => simp [sgn]
  | cons d r => rfl
theorem take_sgn (c : UInt8) (r t : List UInt8) : (c :: r ++ 10 :: t).take (sgn (c :: r ++ 10 :: t)) = (c :: r).take (sgn (c :: r)) := by
  rw [sgn_nl]
  cases r with
  | nil => rfl
  | cons d r =>
    rw [List.take_append_of_le_length]
    have := sgn_range (c :: d :: r)
    simp; omega
theorem cls6 : ∀ c : Fin 256, (clsI (c.val : Int) = 6 ↔ c.val = 39) := by decide +kernel
theorem cls_quote {c : UInt8} : cls c = 6 ↔ c = 39 := by
  rw [show cls c = clsI ((⟨c.toNat, c.toNat_lt⟩ : Fin 256).val : Int) from rfl, cls6]
  exact ⟨fun h => UInt8.toNat_inj.1 h, fun h => by rw [h]; rfl⟩
/-- A line's end behind a source changes no token of it. -/
theorem tok_join (c : UInt8) (r t : List UInt8) : tokL (c :: r ++ 10 :: t) = tokL (c :: r) := by
  show tokL (c :: (r ++ 10 :: t)) = _
  have e1 : runL (c :: (r ++ 10 :: t)) = runL (c :: r) := runL_app nl_run t (c :: r)
  have e2 := runL_app nl_run t r
  have e3 : (c :: (r ++ 10 :: t)).take (sgn (c :: (r ++ 10 :: t))) = (c :: r).take (sgn (c :: r)) := take_sgn c r t
  have e4 : cls c = 6 → ((qend (r ++ 10 :: t)).bind fun n => (litL ((c :: (r ++ 10 :: t)).take (1 + n))).map fun t => (t, 1 + n)) = ((qend r).bind fun n => (litL ((c :: r).take (1 + n))).map fun t => (t, 1 + n)) := fun h6 => by
    obtain rfl := cls_quote.1 h6
    cases hq : qend r with
    | some n =>
      have := qend_le _ _ (Nat.le_refl _) n hq
      rw [qend_app (by decide) t _ r (Nat.le_refl _) n hq, some_bind, some_bind]
      rw [show (39 :: (r ++ 10 :: t) : List UInt8) = 39 :: r ++ 10 :: t from rfl, List.take_append_of_le_length (by rw [List.length_cons]; omega)]
    | none =>
      cases hq2 : qend (r ++ 10 :: t) with
      | none => rfl
      | some n =>
        have hf := qend_far (by decide) t _ r (Nat.le_refl _) hq n hq2
        rw [some_bind, show (none : Option Nat).bind _ = (none : Option (List UInt8 × Nat)) from rfl]
        rw [show 1 + n = n + 1 by omega, List.take_succ_cons, lit_ctl (b := 10) ?_ (by decide)]
        · rfl
        · obtain ⟨m, rfl⟩ : ∃ m, n = r.length + (m + 1) := ⟨n - r.length - 1, by omega⟩
          rw [List.take_append]
          apply List.mem_append_right
          rw [show r.length + (m + 1) - r.length = m + 1 by omega, List.take_succ_cons]
          exact List.mem_cons_self
  rw [tokL, tokL, e1, e2, e3]
  by_cases h6 : cls c = 6
  · rw [e4 h6]
  · simp only [if_neg h6]
theorem rem_join (c : UInt8) (r t : List UInt8) : isRem (c :: r ++ 10 :: t) = isRem (c :: r) := by
  unfold isRem
  cases r with
  | nil => simp [List.isPrefixOf]
  | cons d r => rfl
end Go.Proofs.YtllehkjebikgpaaGreatDoor.PS
end
section
namespace Go.Proofs.YtllehkjebikgpaaGreatDoor.PS
open Go.RowKit Go.Proofs.YtllehkjebikgpaaGreatDoorSh Go.Proofs.YtllehkjebikgpaaGreatDoorW.PrintWords Go.Proofs.YtllehkjebikgpaaGreatDoorW.PrintLast Go.Proofs.YtllehkjebikgpaaGreatDoorW.PrintMore Go.Proofs.YtllehkjebikgpaaGreatDoorX Go.Proofs.YtllehkjebikgpaaGreatDoorL Go.Proofs.YtllehkjebikgpaaGreatDoor.PA
set_option linter.unusedVariables false
set_option linter.unusedSimpArgs false

theorem run_at {l : List UInt8} {i : Nat} {ts : List S28} {e : Option (Nat × Int)} (h : Run l i ts e) : ∀ t ∈ ts, (i : Int) ≤ t.f3 ∧ t.f3 ≤ (i : Int) + (l.length : Int) := by
  induction h with
  | fin i =>
    intro t ht
    rcases List.mem_cons.1 ht with rfl | ht
    · show (i : Int) ≤ (i : Int) ∧ (i : Int) ≤ (i : Int) + 0; omega
    · cases ht
  | blank h hr ih =>
    intro t ht
    have := ih t ht
    rw [List.length_cons]; omega
  | @rem l i ts e h hr ih =>
    intro t ht
    have := ih t ht
    have := remN_le l
    rw [List.length_drop] at *
    omega
  | bad h hm he => intro t ht; cases ht
  | @tok c r i ts e h hm he hr ih =>
    intro t ht
    have hz := tok_size c r he
    rcases List.mem_cons.1 ht with rfl | ht
    · show (i : Int) ≤ (i : Int) ∧ (i : Int) ≤ _; omega
    · have := ih t ht
      rw [List.length_drop, List.length_cons] at this
      rw [List.length_cons]; omega
theorem run_err {l : List UInt8} {i : Nat} {ts : List S28} {e : Option (Nat × Int)} (h : Run l i ts e) : ∀ n x, e = some (n, x) → i ≤ n ∧ n ≤ i + l.length ∧ x ≠ 0 := by
  induction h with
  | fin i => intro n x e; cases e
  | blank h hr ih =>
    intro n x e
    have := ih n x e
    rw [List.length_cons]; omega
  | @rem l i ts e h hr ih =>
    intro n x e
    have := ih n x e
    have := remN_le l
    rw [List.length_drop] at *
    omega
  | bad h hm he => intro n x e; cases e; exact ⟨Nat.le_refl _, by omega, he⟩
  | @tok c r i ts e h hm he hr ih =>
    intro n x ee
    have hz := tok_size c r he
    have := ih n x ee
    rw [List.length_drop, List.length_cons] at this
    rw [List.length_cons]; omega
theorem run_ne {l : List UInt8} {i : Nat} {ts : List S28} {e : Option (Nat × Int)} (h : Run l i ts e) : e = none → ts ≠ [] := by
  induction h with
  | fin i => intro _ h; cases h
  | blank h hr ih => exact ih
  | rem h hr ih => exact ih
  | bad h hm he => intro e; cases e
  | tok h hm he hr ih => intro _ h; cases h
def sh (d : Nat) (t : S28) : S28 := ⟨t.f0, t.f1, t.f2, t.f3 + (d : Int)⟩
theorem sh_mk (t : Int × Int × List UInt8) (i d : Nat) : sh d (mkT t i) = mkT t (i + d) := by
  unfold sh mkT
  simp
theorem run_shift {l : List UInt8} {i : Nat} {ts : List S28} {e : Option (Nat × Int)} (h : Run l i ts e) (d : Nat) : Run l (i + d) (ts.map (sh d)) (e.map fun p => (p.1 + d, p.2)) := by
  induction h with
  | fin i =>
    have : [endT i].map (sh d) = [endT (i + d)] := by simp [sh, endT]
    rw [this]; exact .fin _
  | @blank c r i ts e h hr ih => exact .blank h (by rw [show i + d + 1 = i + 1 + d by omega]; exact ih)
  | @rem l i ts e h hr ih => exact .rem h (by rw [show i + d + remN l = i + remN l + d by omega]; exact ih)
  | bad h hm he => exact .bad h hm he
  | @tok c r i ts e h hm he hr ih =>
    rw [List.map_cons, sh_mk]
    exact .tok h hm he (by rw [show i + d + (tokL (c :: r)).2.1 = i + (tokL (c :: r)).2.1 + d by omega]; exact ih)

/-! ### two sources, a line's end between them -/
theorem cls_nl : cls 10 = 1 := by decide +kernel
theorem remN_app (t : List UInt8) : ∀ l : List UInt8, remN (l ++ 10 :: t) = remN l
  | [] => by unfold remN; simp
  | c :: l => by
    have ih := remN_app t l
    unfold remN at ih ⊢
    rw [List.cons_append, List.takeWhile_cons, List.takeWhile_cons]
    split
    · rw [List.length_cons, List.length_cons, ih]
    · rfl
def jT (ts us : List S28) : Option (Nat × Int) → List S28
  | none => ts.dropLast ++ us
  | some _ => ts
def jE (e' : Option (Nat × Int)) : Option (Nat × Int) → Option (Nat × Int)
  | none => e'
  | some x => some x
theorem join_run {l : List UInt8} {i : Nat} {ts : List S28} {e : Option (Nat × Int)} (h : Run l i ts e) : ∀ (t : List UInt8) (us : List S28) (e' : Option (Nat × Int)), Run t (i + l.length + 1) us e' → Run (l ++ 10 :: t) i (jT ts us e) (jE e' e) := by
  induction h with
  | fin i => intro t us e' ht; exact .blank cls_nl ht
  | @blank c r i ts e h hr ih =>
    intro t us e' ht
    exact .blank h (ih t us e' (by rw [List.length_cons] at ht; rw [show i + 1 + r.length + 1 = i + (r.length + 1) + 1 by omega]; exact ht))
  | @rem l i ts e h hr ih =>
    intro t us e' ht
    have hle := remN_le l
    have hp := rem_pos h
    match l, h, hr, ih, ht, hle, hp with
    | [], _, _, _, _, _, hp => exact absurd hp (by decide)
    | c :: r, h, hr, ih, ht, hle, hp =>
      refine .rem (by rw [rem_join]; exact h) ?_
      rw [remN_app, List.drop_append_of_le_length hle]
      exact ih t us e' (by rw [List.length_drop, show i + remN (c :: r) + ((c :: r).length - remN (c :: r)) + 1 = i + (c :: r).length + 1 by omega]; exact ht)
  | @bad c r i h hm he =>
    intro t us e' ht
    have ej := tok_join c r t
    have := Run.bad (i := i) (r := r ++ 10 :: t) h (by rw [show c :: (r ++ 10 :: t) = c :: r ++ 10 :: t from rfl, rem_join]; exact hm) (by rw [show c :: (r ++ 10 :: t) = c :: r ++ 10 :: t from rfl, ej]; exact he)
    rw [show c :: (r ++ 10 :: t) = c :: r ++ 10 :: t from rfl, ej] at this
    exact this
  | @tok c r i ts e h hm he hr ih =>
    intro t us e' ht
    have ej := tok_join c r t
    have hz := tok_size c r he
    rw [List.length_cons] at ht
    have hI := ih t us e' (by rw [List.length_drop, List.length_cons, show i + (tokL (c :: r)).2.1 + (r.length + 1 - (tokL (c :: r)).2.1) + 1 = i + (r.length + 1) + 1 by omega]; exact ht)
    have := Run.tok (i := i) (r := r ++ 10 :: t) (ts := jT ts us e) (e := jE e' e) h (by rw [show c :: (r ++ 10 :: t) = c :: r ++ 10 :: t from rfl, rem_join]; exact hm) (by rw [show c :: (r ++ 10 :: t) = c :: r ++ 10 :: t from rfl, ej]; exact he)
      (by rw [show c :: (r ++ 10 :: t) = c :: r ++ 10 :: t from rfl, ej, List.drop_append_of_le_length (by rw [List.length_cons]; exact hz.2)]; exact hI)
    rw [show c :: (r ++ 10 :: t) = c :: r ++ 10 :: t from rfl, ej] at this
    have ek : jT (mkT (tokL (c :: r)).1 i :: ts) us e = mkT (tokL (c :: r)).1 i :: jT ts us e := by
      cases e with
      | some x => rfl
      | none =>
        have hne := run_ne hr rfl
        unfold jT
        rw [List.dropLast_cons_of_ne_nil hne]; rfl
    rw [ek]; exact this
end Go.Proofs.YtllehkjebikgpaaGreatDoor.PS
end
section
namespace Go.Proofs.YtllehkjebikgpaaGreatDoor.PS
open Go.RowKit Go.Proofs.YtllehkjebikgpaaGreatDoorSh Go.Proofs.YtllehkjebikgpaaGreatDoorW.PrintWords Go.Proofs.YtllehkjebikgpaaGreatDoorW.PrintLast Go.Proofs.YtllehkjebikgpaaGreatDoorW.PrintMore Go.Proofs.YtllehkjebikgpaaGreatDoorX Go.Proofs.YtllehkjebikgpaaGreatDoorL Go.Proofs.YtllehkjebikgpaaGreatDoor.PA
open Go.Proofs.YtllehkjebikgpaaGreatDoor.PV (digit_toNat dec_head mag_dec atoi_itoa parse_both)
set_option linter.unusedVariables false
set_option linter.unusedSimpArgs false

theorem small_all : ∀ c : Fin 256, unisonref10_small.f (c.val : Int) = some (clsI (c.val : Int) == 3) := by decide +kernel
theorem digit_all : ∀ c : Fin 256, unisonref10_digit.f (c.val : Int) = some (clsI (c.val : Int) == 2) := by decide +kernel
theorem part_all : ∀ c : Fin 256, unisonref10_part.f (c.val : Int) = some (clsI (c.val : Int) == 2 || (clsI (c.val : Int) == 3 || clsI (c.val : Int) == 4)) := by decide +kernel
theorem small_u8 (c : UInt8) : unisonref10_small.f (c.toNat : Int) = some (cls c == 3) := small_all ⟨c.toNat, c.toNat_lt⟩
theorem digit_u8 (c : UInt8) : unisonref10_digit.f (c.toNat : Int) = some (cls c == 2) := digit_all ⟨c.toNat, c.toNat_lt⟩
theorem part_u8 (c : UInt8) : unisonref10_part.f (c.toNat : Int) = some (inRun c) := part_all ⟨c.toNat, c.toNat_lt⟩
theorem bl_midS (s : ByteArray) (a b : Nat) : bl (s.extract a b) = ((bl s).drop a).take (b - a) := by
  show (s.extract a b).data.toList = _
  rw [Lib.extract_data]; rfl
theorem wnk {n m : Nat} (h : n + m ≤ 9223372036854775807) : wrap64 ((n : Int) + (m : Int)) = ((n + m : Nat) : Int) := by rw [wrap64_of (by omega) (by omega)]; omega

/-! ### runs -/
theorem rrun_loop (s : ByteArray) (hs : s.size ≤ 100000) (a : Nat) : ∀ (d i : Nat), i + d = s.size → a ≤ i → ∀ k, d + 1 ≤ k → unisonref10_run.l0 k s (a : Int) (i : Int) = some (s.extract a (i + (runL ((bl s).drop i)).length))
  | d, i, hd, ha, 0, hk => by omega
  | 0, i, hd, ha, k + 1, hk => by
    rw [unisonref10_run.l0, if_neg (by omega), if_pos (by omega), if_pos (by omega), if_pos (by omega), List.drop_of_length_le (by rw [bl_length]; omega)]
    rfl
  | d + 1, i, hd, ha, k + 1, hk => by
    have hi : i < (bl s).length := by rw [bl_length]; omega
    have ih := rrun_loop s hs a d (i + 1) (by omega) (by omega) k (by omega)
    rw [unisonref10_run.l0, if_pos (by omega), if_pos (by omega), bt_bl hi, part_u8, some_bind, List.drop_eq_getElem_cons hi, runL, List.takeWhile_cons]
    by_cases h : inRun (bl s)[i] = true
    · rw [if_pos h, if_pos h, wn1 (by omega), ih, List.length_cons]
      congr 2; unfold runL; omega
    · rw [if_neg h, if_neg h, if_pos (by omega), if_pos (by omega), if_pos (by omega)]
      rfl
theorem rrun_eq (s : ByteArray) (hs : s.size ≤ 100000) (a : Nat) (ha : a ≤ s.size) {k : Nat} (hk : s.size + 2 ≤ k) : unisonref10_run.f k s (a : Int) = some ⟨(runL ((bl s).drop a)).toArray⟩ := by
  unfold unisonref10_run.f
  rw [rrun_loop s hs a (s.size - a) a (by omega) (Nat.le_refl _) k (by omega)]
  congr 1
  apply bl_inj
  rw [bl_midS, show a + (runL ((bl s).drop a)).length - a = (runL ((bl s).drop a)).length by omega, take_run]
  rfl

/-! ### names, words -/
theorem rname_loop (s : ByteArray) (hs : s.size ≤ 140737488351232) : ∀ (d i : Nat), 1 ≤ i → i + d = s.size → ∀ k, d + 8 ≤ k → unisonref10_IsName.l0 k s (i : Int) = some (((bl s).drop i).all inName)
  | d, i, h1, hd, 0, hk => by omega
  | 0, i, h1, hd, k + 1, hk => by
    rw [unisonref10_IsName.l0, if_neg (by omega), List.drop_of_length_le (by rw [bl_length]; omega), List.all_nil]
  | d + 1, i, h1, hd, k + 1, hk => by
    have hi : i < (bl s).length := by rw [bl_length]; omega
    have ih := rname_loop s hs d (i + 1) (by omega) (by omega) k (by omega)
    have hw := wn1 (n := i) (by omega)
    rw [unisonref10_IsName.l0, if_pos (by omega), if_pos (by omega), bt_bl hi, List.drop_eq_getElem_cons hi, List.all_cons, small_u8, digit_u8]
    simp only [some_bind, hw, ih]
    have hn : inName (bl s)[i] = (cls (bl s)[i] == 3 || (cls (bl s)[i] == 2 || (bl s)[i].toNat == 95)) := rfl
    rw [hn]
    by_cases h3 : cls (bl s)[i] = 3
    · simp [h3]
    · rw [if_neg (by simpa using h3), if_neg (by omega)]
      by_cases h2 : cls (bl s)[i] = 2
      · simp [h2]
      · rw [if_neg (by simpa using h2)]
        by_cases h9 : (((bl s)[i]).toNat : Int) = 95
        · rw [if_pos h9]
          have : ((bl s)[i]).toNat = 95 := by omega
          simp [this]
        · rw [if_neg h9]
          have : ¬ ((bl s)[i]).toNat = 95 := by omega
          simp [h3, h2, this]
theorem rname_eq (s : ByteArray) (hs : s.size ≤ 140737488351232) {k : Nat} (hk : s.size + 20 ≤ k) : unisonref10_IsName.f k s = some (nameL (bl s)) := by
  obtain ⟨k, rfl⟩ : ∃ j, k = j + 1 + 1 := ⟨k - 2, by omega⟩
  unfold unisonref10_IsName.f
  have hlen := bl_length s
  cases e : bl s with
  | nil =>
    rw [e] at hlen
    have h0 : s.size = 0 := hlen.symm
    rw [if_pos (by omega), unisonref10_IsName.j0, if_pos rfl]
    rfl
  | cons c r =>
    rw [e, List.length_cons] at hlen
    rw [if_neg (by omega), unisonref10_IsName.j0, nameL]
    by_cases h16 : s.size ≤ 16
    · have d16 : decide (r.length < 16) = true := decide_eq_true (by omega)
      rw [if_neg (by rw [decide_eq_true_iff]; omega), d16, Bool.and_true]
      have hi : 0 < (bl s).length := by rw [bl_length]; omega
      have hc0 : (bl s)[0]'hi = c := by simp [e]
      have hb : bt s 0 = (c.toNat : Int) := by have := bt_bl hi; rw [hc0] at this; exact this
      have ih := rname_loop s hs (s.size - 1) 1 (by omega) (by omega) k (by omega)
      have hw : wrap64 ((0 : Int) + 1) = ((1 : Nat) : Int) := by rw [wrap64_of (by omega) (by omega)]; rfl
      rw [unisonref10_IsName.l0, if_pos (by omega), if_pos (by omega), hb, small_u8, digit_u8]
      simp only [some_bind, hw, ih]
      by_cases h3 : cls c = 3
      · rw [e]; simp [h3]
      · simp [h3]
    · have d16 : decide (r.length < 16) = false := decide_eq_false (by omega)
      rw [if_pos (by rw [decide_eq_true_iff]; omega), d16, Bool.and_false]
theorem rword_loop (s : ByteArray) (l : List ByteArray) (hl : l.length ≤ 1000) : ∀ (d i : Nat), i + d = l.length → ∀ k, d + 1 ≤ k → unisonref10_IsWord.l0 k s l (i : Int) = some ((l.drop i).any fun b => b.toList == bl s)
  | d, i, hd, 0, hk => by omega
  | 0, i, hd, k + 1, hk => by
    rw [unisonref10_IsWord.l0, if_neg (by omega), List.drop_of_length_le (by omega), List.any_nil]
  | d + 1, i, hd, k + 1, hk => by
    have hi : i < l.length := by omega
    have ih := rword_loop s l hl d (i + 1) (by omega) k (by omega)
    have hw := wn1 (n := i) (by omega)
    have hr : rdOf ByteArray.empty l (i : Int) = l[i] := by simp [rdOf, List.getD_eq_getElem?_getD, List.getElem?_eq_getElem hi]
    rw [unisonref10_IsWord.l0, if_pos (by omega), if_pos (by omega), hr, hw, ih, show l.drop i = l[i] :: l.drop (i + 1) from List.drop_eq_getElem_cons hi, toList_bl s, List.any_cons]
    by_cases h : l[i].toList = bl s
    · rw [if_pos h, beq_iff_eq.mpr h]; rfl
    · rw [if_neg h, beq_eq_false_iff_ne.mpr h]; rfl
theorem rword_eq (s : ByteArray) {k : Nat} (hk : 30 ≤ k) : unisonref10_IsWord.f k s = some (wordL (bl s)) := rword_loop s wordsL (by decide) 27 0 rfl k (by omega)

/-! ### numbers -/
def okN (w : List UInt8) : Prop := ∃ u : Nat, u ≤ 4611686018427387904 ∧ w = Lib.decDigits u
/-- A number's value, digit by digit. -/
def vl (a : Nat) (l : List UInt8) : Nat := l.foldl (fun a c => a * 10 + (c.toNat - 48)) a
theorem vl_app (l m : List UInt8) (a : Nat) : vl a (l ++ m) = vl (vl a l) m := List.foldl_append ..
theorem vl_one (a : Nat) (c : UInt8) : vl a [c] = a * 10 + (c.toNat - 48) := rfl
theorem vl_ge (l : List UInt8) : ∀ a : Nat, a ≤ vl a l := by
  induction l with
  | nil => intro a; exact Nat.le_refl _
  | cons c l ih =>
    intro a
    have h := ih (a * 10 + (c.toNat - 48))
    have e : vl a (c :: l) = vl (a * 10 + (c.toNat - 48)) l := rfl
    rw [e]
    exact Nat.le_trans (by omega) h
theorem take_one {l : List UInt8} (h : 0 < l.length) : l.take 1 = [l[0]] := by
  cases l with
  | nil => simp at h
  | cons x y => rfl
theorem ten_wrap {n x : Nat} (h : 10 * n + x ≤ 9223372036854775807) : wrap64 (wrap64 (10 * (n : Int)) + (x : Int)) = ((10 * n + x : Nat) : Int) := by
  rw [wrap64_of (n := 10 * (n : Int)) (by omega) (by omega), wrap64_of (by omega) (by omega)]; omega
theorem byte_digit (c : UInt8) (h : 48 ≤ c.toNat ∧ c.toNat ≤ 57) : ((c.toNat : Int) - 48) % 256 = ((c.toNat - 48 : Nat) : Int) := by omega
theorem vl_dec (u : Nat) : vl 0 (Lib.decDigits u) = u := by
  induction u using Nat.strongRecOn with
  | _ u ih =>
    rw [Lib.decDigits]
    by_cases h : u < 10
    · rw [dif_pos h]
      rw [vl_one, digit_toNat h]; omega
    · rw [dif_neg h, vl_app, ih (u / 10) (by omega)]
      rw [vl_one, digit_toNat (by omega)]; omega
theorem cls_digit : ∀ c : Fin 256, (clsI (c.val : Int) = 2 ↔ 48 ≤ c.val ∧ c.val ≤ 57) := by decide +kernel
theorem cls2 {c : UInt8} : cls c = 2 ↔ 48 ≤ c.toNat ∧ c.toNat ≤ 57 := cls_digit ⟨c.toNat, c.toNat_lt⟩
theorem dec_all (u : Nat) : ∀ c ∈ Lib.decDigits u, cls c = 2 := by
  induction u using Nat.strongRecOn with
  | _ u ih =>
    intro c hc
    rw [Lib.decDigits] at hc
    have hd : ∀ d : Nat, d < 10 → cls (UInt8.ofNat (48 + d)) = 2 := fun d h => by
      rw [cls2, digit_toNat h]; omega
    by_cases h : u < 10
    · rw [dif_pos h] at hc
      rcases List.mem_cons.1 hc with rfl | hc
      · exact hd u h
      · cases hc
    · rw [dif_neg h] at hc
      rcases List.mem_append.1 hc with hc | hc
      · exact ih (u / 10) (by omega) c hc
      · rcases List.mem_cons.1 hc with rfl | hc
        · exact hd (u % 10) (by omega)
        · cases hc
/-- No number of more than one digit begins with nothing. -/
theorem dec_lead (u : Nat) : ∀ r, Lib.decDigits u = 48 :: r → u = 0 := by
  induction u using Nat.strongRecOn with
  | _ u ih =>
    intro r h
    rw [Lib.decDigits] at h
    by_cases h10 : u < 10
    · rw [dif_pos h10] at h
      injection h with h _
      have := congrArg UInt8.toNat h
      rw [digit_toNat h10] at this
      have h48 : (48 : UInt8).toNat = 48 := rfl
      omega
    · rw [dif_neg h10] at h
      obtain ⟨c, l, e, hc⟩ := dec_head (u / 10)
      rw [e] at h
      injection h with h1 h2
      subst h1
      have := ih (u / 10) (by omega) l e
      omega
theorem dec_snoc {n d : Nat} (hn : 1 ≤ n) (hd : d < 10) : Lib.decDigits (10 * n + d) = Lib.decDigits n ++ [UInt8.ofNat (48 + d)] := by
  conv => lhs; rw [Lib.decDigits]
  rw [dif_neg (by omega), show (10 * n + d) / 10 = n by omega, show (10 * n + d) % 10 = d by omega]
theorem num_not (w : ByteArray) (i : Nat) (hi : i < (bl w).length) (h : ¬ cls ((bl w)[i]) = 2) : ¬ okN (bl w) := by
  rintro ⟨u, _, e⟩
  have hm : (bl w)[i] ∈ bl w := List.getElem_mem hi
  have hm2 : (bl w)[i] ∈ Lib.decDigits u := by rw [← e]; exact hm
  exact h (dec_all u _ hm2)
/-- What the document's number tells. -/
def NumIs (w : List UInt8) (r : Int × Bool) : Prop := (∃ u : Nat, u ≤ 4611686018427387904 ∧ w = Lib.decDigits u ∧ r = ((u : Int), true)) ∨ (¬ okN w ∧ r = (0, false))
theorem num_loop' (w : ByteArray) (hw : w.size ≤ 100000) : ∀ (d i n : Nat), i + d = w.size → 1 ≤ i → (bl w).take i = Lib.decDigits n → n ≤ 4611686018427387904 → ∀ k, 2 * d + 2 ≤ k → ∃ r, unisonref10_number.l0 k w (n : Int) (i : Int) = some r ∧ NumIs (bl w) r
  | d, i, n, hd, h1, hp, hn, 0, hk => by omega
  | d, i, n, hd, h1, hp, hn, 1, hk => by omega
  | 0, i, n, hd, h1, hp, hn, k + 2, hk => by
    refine ⟨((n : Int), true), ?_, .inl ⟨n, hn, ?_, rfl⟩⟩
    · rw [unisonref10_number.l0, if_neg (by omega)]
    · rw [← hp, List.take_of_length_le (by rw [bl_length]; omega)]
  | d + 1, i, n, hd, h1, hp, hn, k + 2, hk => by
    have hi : i < (bl w).length := by rw [bl_length]; omega
    have bad : ∀ k, unisonref10_number.j1 (k + 1) w (n : Int) (i : Int) true = some (0, false) := fun k => by rw [unisonref10_number.j1, if_pos rfl]
    rw [unisonref10_number.l0, if_pos (by omega), if_pos (by omega), bt_bl hi, digit_u8, some_bind]
    by_cases h2 : cls (bl w)[i] = 2
    · rw [if_pos (by simpa using h2)]
      have hdig := cls2.1 h2
      have h0 : 0 < (bl w).length := by omega
      have lead : n = 0 → i = 1 ∧ (bl w)[0] = 48 := fun h => by
        subst h
        rw [show Lib.decDigits 0 = [48] from by rw [Lib.decDigits]; rfl] at hp
        have := congrArg List.length hp
        rw [List.length_take] at this
        have hi1 : i = 1 := by simp at this; omega
        subst hi1
        refine ⟨rfl, ?_⟩
        rw [take_one h0] at hp
        injection hp
      have go : n ≠ 0 → ∃ r, unisonref10_number.j1 (k + 1) w (n : Int) (i : Int) false = some r ∧ NumIs (bl w) r := fun hn0 => by
        have hm := byte_digit (bl w)[i] hdig
        obtain ⟨x, hx⟩ : ∃ x : Nat, x = ((bl w)[i]).toNat - 48 := ⟨_, rfl⟩
        have hx9 : x < 10 := by omega
        have hxc : (bl w)[i] = UInt8.ofNat (48 + x) := UInt8.toNat_inj.1 (by rw [digit_toNat hx9]; omega)
        rw [unisonref10_number.j1, if_neg (by decide), if_pos (by omega), if_pos (by omega), bt_bl hi, hm, ← hx]
        have htk : (bl w).take (i + 1) = Lib.decDigits (10 * n + x) := by
          rw [dec_snoc (by omega) hx9, ← hp, ← hxc, List.take_succ_eq_append_getElem hi]
        by_cases hov : (n : Int) > (4611686018427387904 - (x : Int)) / 10
        · rw [if_pos hov]
          refine ⟨_, rfl, .inr ⟨?_, rfl⟩⟩
          rintro ⟨u, hu, e⟩
          have hv := vl_dec u
          rw [← e, ← List.take_append_drop (i + 1) (bl w), vl_app, htk, vl_dec] at hv
          have := vl_ge ((bl w).drop (i + 1)) (10 * n + x)
          omega
        · have nxt := num_loop' w hw d (i + 1) (10 * n + x) (by omega) (by omega) htk (by omega) k (by omega)
          have hi9 : i + 1 ≤ 9223372036854775807 := by omega
          rw [if_neg hov, ten_wrap (by omega), wn1 hi9]
          exact nxt
      by_cases hi1 : i = 1
      · subst hi1
        have hb0 : bt w 0 = (((bl w)[0]).toNat : Int) := bt_bl h0
        rw [if_pos (show ((1 : Nat) : Int) = 1 from rfl), if_pos (by omega), hb0]
        by_cases h48 : (bl w)[0] = 48
        · rw [h48, show (((48 : UInt8).toNat : Int) == 48) = true from rfl, bad]
          refine ⟨_, rfl, .inr ⟨?_, rfl⟩⟩
          rintro ⟨u, hu, e⟩
          have hcons : bl w = 48 :: (bl w).drop 1 := by
            cases hb : bl w with
            | nil => rw [hb] at h0; simp at h0
            | cons x y => simp only [hb, List.getElem_cons_zero] at h48; rw [h48]; rfl
          rw [hcons] at e
          have hu0 := dec_lead u _ e.symm
          subst hu0
          rw [show Lib.decDigits 0 = [48] from by rw [Lib.decDigits]; rfl] at e
          injection e with _ e
          have := congrArg List.length e
          rw [List.length_drop] at this
          simp at this; omega
        · have hne : ¬ (((bl w)[0]).toNat : Int) = 48 := fun h => h48 (UInt8.toNat_inj.1 (by rw [show (48 : UInt8).toNat = 48 from rfl]; omega))
          rw [show ((((bl w)[0]).toNat : Int) == 48) = false from beq_eq_false_iff_ne.mpr hne]
          exact go (fun h => h48 (lead h).2)
      · rw [if_neg (by omega)]
        exact go (fun h => hi1 (lead h).1)
    · rw [if_neg (by simpa using h2), bad]
      exact ⟨_, rfl, .inr ⟨num_not w i hi h2, rfl⟩⟩
theorem rnumber (w : ByteArray) (hw : w.size ≤ 100000) (h0 : 0 < w.size) {k : Nat} (hk : 2 * w.size + 10 ≤ k) : ∃ r, unisonref10_number.f k w = some r ∧ NumIs (bl w) r := by
  obtain ⟨k, rfl⟩ : ∃ j, k = j + 2 := ⟨k - 2, by omega⟩
  have hi : 0 < (bl w).length := by rw [bl_length]; omega
  have hb0 : bt w 0 = (((bl w)[0]).toNat : Int) := bt_bl hi
  unfold unisonref10_number.f
  rw [unisonref10_number.l0, if_pos (by omega), if_pos (by omega), hb0, digit_u8, some_bind]
  by_cases h2 : cls (bl w)[0] = 2
  · have hdig := cls2.1 h2
    have hm := byte_digit (bl w)[0] hdig
    obtain ⟨x, hx⟩ : ∃ x : Nat, x = ((bl w)[0]).toNat - 48 := ⟨_, rfl⟩
    have hx9 : x < 10 := by omega
    have hxc : (bl w)[0] = UInt8.ofNat (48 + x) := UInt8.toNat_inj.1 (by rw [digit_toNat hx9]; omega)
    rw [if_pos (by simpa using h2), if_neg (by decide), unisonref10_number.j1, if_neg (by decide), if_pos (by omega), if_pos (by omega), hb0, hm, ← hx, if_neg (by omega)]
    have nxt := num_loop' w hw (w.size - 1) 1 x (by omega) (by omega) (by rw [Lib.decDigits, dif_pos hx9, ← hxc, take_one hi]) (by omega) k (by omega)
    have hw1 : wrap64 (wrap64 (10 * (0 : Int)) + (x : Int)) = ((x : Nat) : Int) := by
      rw [wrap64_of (n := 10 * (0 : Int)) (by omega) (by omega), wrap64_of (by omega) (by omega)]; omega
    have hw2 : wrap64 ((0 : Int) + 1) = ((1 : Nat) : Int) := by rw [wrap64_of (by omega) (by omega)]; rfl
    rw [hw1, hw2]
    exact nxt
  · rw [if_neg (by simpa using h2), unisonref10_number.j1, if_pos rfl]
    exact ⟨_, rfl, .inr ⟨num_not w 0 hi h2, rfl⟩⟩
/-- The program's number and the document's are one. -/
theorem num_same {w : List UInt8} {r : Int × Bool} (h : NumIs w r) : (numL w).2 = r.2 ∧ (r.2 = true → (numL w).1 = r.1) := by
  rcases h with ⟨u, hu, rfl, rfl⟩ | ⟨hn, rfl⟩
  · have hit : Lib.itoa (u : Int) = Lib.decDigits u := by unfold Lib.itoa; rw [if_neg (by omega)]; rfl
    have hN := atoi_itoa (n := (u : Int)) (by omega) (by omega)
    rw [hit] at hN
    have hO : atoiOk (Lib.decDigits u) = true := by
      have := mag_dec u (by omega)
      obtain ⟨c, l, e, g0, g1⟩ := dec_head u
      unfold atoiOk
      rw [e] at this ⊢
      simp only [Lib.atoiAll]
      rw [if_neg (by omega), this]
      have h45 : ¬ c.toNat = 45 := by omega
      simp only [h45, not_false_eq_true, true_and, false_and, if_false]
      rw [if_neg (by omega)]
    refine ⟨?_, fun _ => hN⟩
    unfold numL
    rw [hN, hO, decide_eq_true (by omega), decide_eq_true (by omega), hit]; simp
  · refine ⟨?_, fun h => by cases h⟩
    cases hx : (numL w).2 with
    | false => rfl
    | true =>
      exfalso
      unfold numL at hx
      simp only [Bool.and_eq_true, decide_eq_true_eq, beq_iff_eq] at hx
      obtain ⟨_, h0, h1, h2⟩ := hx
      refine hn ⟨(atoiN w).toNat, by omega, ?_⟩
      rw [← h2]
      conv => lhs; unfold Lib.itoa
      rw [if_neg (by omega), h2]

/-! ### ends of texts -/
theorem rtext_loop (s : ByteArray) (hs : s.size ≤ 100000) (a : Nat) : ∀ (d i : Nat), s.size ≤ i + d → a ≤ i → ∀ k, d + 2 ≤ k →
    unisonref10_text.l0 k s (a : Int) (i : Int) = some (match qend ((bl s).drop i) with | some n => (s.extract a (i + n), true) | none => (⟨#[]⟩, false))
  | d, i, hd, ha, 0, hk => by omega
  | d, i, hd, ha, k + 1, hk => by
    by_cases hi : i < s.size
    · obtain ⟨d, rfl⟩ : ∃ j, d = j + 1 := ⟨d - 1, by omega⟩
      have hi' : i < (bl s).length := by rw [bl_length]; exact hi
      rw [unisonref10_text.l0, if_pos (by omega), if_pos (by omega), bt_bl hi', List.drop_eq_getElem_cons hi', wn1 (n := i) (by omega)]
      by_cases hq : (((bl s)[i]).toNat : Int) = 39
      · rw [if_pos hq]
        have hq' : ((bl s)[i]).toNat = 39 := by omega
        by_cases hj : i + 1 < s.size
        · have hj' : i + 1 < (bl s).length := by rw [bl_length]; exact hj
          have ih := rtext_loop s hs a d (i + 1 + 1) (by omega) (by omega) k (by omega)
          rw [if_pos (by omega), if_pos (by omega), bt_bl hj', show wrap64 ((i : Int) + 2) = ((i + 1 + 1 : Nat) : Int) from wnk (n := i) (m := 2) (by omega), ih]
          rw [show (bl s).drop (i + 1) = (bl s)[i + 1] :: (bl s).drop (i + 1 + 1) from List.drop_eq_getElem_cons hj', qend, if_pos hq']
          by_cases hr : (((bl s)[i + 1]).toNat : Int) = 39
          · rw [if_pos hr, if_pos (show ((bl s)[i + 1]).toNat = 39 by omega)]
            cases qend ((bl s).drop (i + 1 + 1)) with
            | none => rfl
            | some n => simp only [Option.map_some]; congr 3; omega
          · rw [if_neg hr, if_pos (by omega), if_pos (by omega), if_pos (by omega), if_neg (show ¬ ((bl s)[i + 1]).toNat = 39 by omega)]
            rfl
        · rw [if_neg (by omega), if_pos (by omega), if_pos (by omega), if_pos (by omega), List.drop_of_length_le (by rw [bl_length]; omega), qend, if_pos hq']
          rfl
      · have ih := rtext_loop s hs a d (i + 1) (by omega) (by omega) k (by omega)
        rw [if_neg hq, ih, qend_not (by omega)]
        cases qend ((bl s).drop (i + 1)) with
        | none => rfl
        | some n => simp only [Option.map_some]; congr 3; omega
    · rw [unisonref10_text.l0, if_neg (by omega), List.drop_of_length_le (by rw [bl_length]; omega)]
      rfl

/-! ### signs -/
def signsL : List UInt8 := [59, 44, 40, 41, 46, 42, 43, 45, 47, 37, 61, 60, 62]
theorem cls_sign : ∀ c : Fin 256, (clsI (c.val : Int) = 7 ∨ clsI (c.val : Int) = 8) ↔ UInt8.ofNat c.val ∈ signsL := by decide +kernel
theorem cls78 {c : UInt8} : (cls c = 7 ∨ cls c = 8) ↔ c ∈ signsL := by
  have := cls_sign ⟨c.toNat, c.toNat_lt⟩
  rw [show UInt8.ofNat (⟨c.toNat, c.toNat_lt⟩ : Fin 256).val = c from by simp] at this
  exact this
theorem rsign_loop (s : ByteArray) (hs : s.size ≤ 100000) (a : Nat) (has : a < s.size) (c : UInt8) (hga : bt s (a : Int) = (c.toNat : Int)) : ∀ (d i : Nat), i + d = 13 → ∀ k, d + 1 ≤ k →
    unisonref10_sign.l0 k s (a : Int) ⟨signsL.toArray⟩ (i : Int) = some (if c ∈ signsL.drop i then ⟨#[c]⟩ else ⟨#[]⟩)
  | d, i, hd, 0, hk => by omega
  | 0, i, hd, k + 1, hk => by
    have hz : (⟨signsL.toArray⟩ : ByteArray).size = 13 := rfl
    rw [unisonref10_sign.l0, hz, if_neg (by omega), List.drop_of_length_le (by show 13 ≤ i; omega), if_neg (by simp)]
  | d + 1, i, hd, k + 1, hk => by
    have hz : (⟨signsL.toArray⟩ : ByteArray).size = 13 := rfl
    have hi : i < (bl ⟨signsL.toArray⟩).length := by show i < 13; omega
    have hi2 : i < signsL.length := by show i < 13; omega
    have ih := rsign_loop s hs a has c hga d (i + 1) (by omega) k (by omega)
    have hg : bt (⟨signsL.toArray⟩ : ByteArray) (i : Int) = ((signsL[i]'hi2).toNat : Int) := bt_bl hi
    have hi9 : i + 1 ≤ 9223372036854775807 := by omega
    rw [unisonref10_sign.l0, hz, if_pos (by omega), if_pos (by omega), if_pos (by omega), if_pos (by omega), wn1 hi9, ih, show signsL.drop i = signsL[i] :: signsL.drop (i + 1) from List.drop_eq_getElem_cons hi2]
    by_cases h : bt (⟨signsL.toArray⟩ : ByteArray) (i : Int) = bt s (a : Int)
    · rw [if_pos h]
      rw [hg, hga] at h
      have he : signsL[i] = c := UInt8.toNat_inj.1 (by omega)
      rw [if_pos (by omega), if_pos (by omega), if_pos (by rw [he]; exact List.mem_cons_self)]
      congr 1
      apply bl_inj
      rw [bl_midS, Int.toNat_natCast, Int.toNat_natCast, show i + 1 - i = 1 by omega]
      show (signsL.drop i).take 1 = [c]
      rw [List.drop_eq_getElem_cons hi2, ← he]; rfl
    · rw [if_neg h]
      rw [hg, hga] at h
      have hne : ¬ c = signsL[i] := fun e => h (by rw [e])
      simp only [List.mem_cons, hne, false_or]
theorem rsign (s : ByteArray) (hs : s.size ≤ 100000) (a : Nat) (ha : a < s.size) (c : UInt8) (r : List UInt8) (hd : (bl s).drop a = c :: r) {k : Nat} (hk : 30 ≤ k) :
    unisonref10_sign.f k s (a : Int) = some (if c ∈ signsL then ⟨((c :: r).take (sgn (c :: r))).toArray⟩ else ⟨#[]⟩) := by
  obtain ⟨k, rfl⟩ : ∃ j, k = j + 1 + 1 := ⟨k - 2, by omega⟩
  have ha' : a < (bl s).length := by rw [bl_length]; exact ha
  have hc : (bl s)[a] = c := by
    rw [List.drop_eq_getElem_cons ha'] at hd
    injection hd
  have hl := rsign_loop s hs a ha c (by have := bt_bl ha'; rw [hc] at this; exact this) 13 0 rfl k (by omega)
  rw [show ((0 : Nat) : Int) = 0 from rfl, List.drop_zero] at hl
  have one : sgn (c :: r) = 1 → unisonref10_sign.l0 k s (a : Int) ⟨signsL.toArray⟩ 0 = some (if c ∈ signsL then ⟨((c :: r).take (sgn (c :: r))).toArray⟩ else ⟨#[]⟩) := fun h => by rw [hl, h]; rfl
  have lst : (⟨#[59, 44, 40, 41, 46, 42, 43, 45, 47, 37, 61, 60, 62]⟩ : ByteArray) = ⟨signsL.toArray⟩ := rfl
  unfold unisonref10_sign.f
  rw [wn1 (by omega)]
  have hrl : r.length = s.size - a - 1 := by
    have := congrArg List.length hd
    rw [List.length_drop, bl_length, List.length_cons] at this
    omega
  cases r with
  | nil =>
    simp only [List.length_nil] at hrl
    rw [if_neg (by omega), unisonref10_sign.j0, if_neg (by rw [toList_bl]; intro h; cases h), if_neg (by rw [toList_bl]; intro h; cases h), show ((⟨#[]⟩ : ByteArray).toList == ([62, 61] : List UInt8)) = false from by rw [toList_bl]; rfl, unisonref10_sign.j1, if_neg (by decide), lst]
    exact one rfl
  | cons d r =>
    simp only [List.length_cons] at hrl
    have hw2 : wrap64 ((a : Int) + 2) = ((a + 2 : Nat) : Int) := wnk (n := a) (m := 2) (by omega)
    have hx : bl (s.extract a (a + 2)) = [c, d] := by rw [bl_midS, hd, show a + 2 - a = 2 by omega]; rfl
    rw [hw2, if_pos (by omega), if_pos (by omega), if_pos (by omega), if_pos (by omega), Int.toNat_natCast, Int.toNat_natCast, unisonref10_sign.j0, toList_bl, hx]
    have two : (c.toNat = 60 ∧ (d.toNat = 62 ∨ d.toNat = 61)) ∨ (c.toNat = 62 ∧ d.toNat = 61) → unisonref10_sign.j1 (k + 1) s (a : Int) (s.extract a (a + 2)) true = some (if c ∈ signsL then ⟨((c :: d :: r).take (sgn (c :: d :: r))).toArray⟩ else ⟨#[]⟩) := fun h => by
      have hsg : sgn (c :: d :: r) = 2 := by rw [sgn, if_pos h]
      have hcm : c ∈ signsL := by
        rcases h with ⟨h, _⟩ | ⟨h, _⟩
        · rw [show c = 60 from UInt8.toNat_inj.1 h]; decide
        · rw [show c = 62 from UInt8.toNat_inj.1 h]; decide
      rw [unisonref10_sign.j1, if_pos rfl, if_pos hcm, hsg]
      congr 1
      apply bl_inj
      rw [hx]; rfl
    have inj2 : ∀ x y : UInt8, ([c, d] : List UInt8) = [x, y] ↔ c.toNat = x.toNat ∧ d.toNat = y.toNat := fun x y => by
      constructor
      · intro h; injection h with h1 h2; injection h2 with h2; subst h1; subst h2; exact ⟨rfl, rfl⟩
      · rintro ⟨h1, h2⟩; rw [UInt8.toNat_inj.1 h1, UInt8.toNat_inj.1 h2]
    by_cases h1 : ([c, d] : List UInt8) = [60, 62]
    · have := (inj2 60 62).1 h1
      rw [if_pos h1]; exact two (.inl ⟨this.1, .inl this.2⟩)
    · rw [if_neg h1]
      by_cases h2 : ([c, d] : List UInt8) = [60, 61]
      · have := (inj2 60 61).1 h2
        rw [if_pos h2]; exact two (.inl ⟨this.1, .inr this.2⟩)
      · rw [if_neg h2]
        by_cases h3 : ([c, d] : List UInt8) = [62, 61]
        · have := (inj2 62 61).1 h3
          rw [beq_iff_eq.mpr h3]; exact two (.inr ⟨this.1, this.2⟩)
        · rw [beq_eq_false_iff_ne.mpr h3, unisonref10_sign.j1, if_neg (by decide), lst]
          refine one ?_
          rw [sgn, if_neg]
          rintro (⟨x, y | y⟩ | ⟨x, y⟩)
          · exact h1 ((inj2 60 62).2 ⟨x, y⟩)
          · exact h2 ((inj2 60 61).2 ⟨x, y⟩)
          · exact h3 ((inj2 62 61).2 ⟨x, y⟩)
end Go.Proofs.YtllehkjebikgpaaGreatDoor.PS
end
