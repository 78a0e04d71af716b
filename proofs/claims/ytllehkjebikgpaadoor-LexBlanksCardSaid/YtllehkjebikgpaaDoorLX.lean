/- Several texts in one (merge.py): LX1, LX2, LX3; no conditions beyond those in each theorem's head. -/
import Derived.Test.YtllehkjebikgpaaDoorMB
import Derived.Test.YtllehkjebikgpaaDoorPL
import Derived.Test.YtllehkjebikgpaaDoorXC
import Derived.Test.YtllehkjebikgpaaDoorMD
section
namespace Go.Proofs.YtllehkjebikgpaaDoor.PS
open Go.RowKit Go.Proofs.YtllehkjebikgpaaDoorW.PrintWords Go.Proofs.YtllehkjebikgpaaDoorW.PrintLast Go.Proofs.YtllehkjebikgpaaDoorW.PrintMore Go.Proofs.YtllehkjebikgpaaDoorX Go.Proofs.YtllehkjebikgpaaDoorL Go.Proofs.YtllehkjebikgpaaDoor.PA
set_option linter.unusedVariables false
set_option linter.unusedSimpArgs false

def bl (s : ByteArray) : List UInt8 := s.data.toList
theorem bl_length (s : ByteArray) : (bl s).length = s.size := (Lib.size_eq s).symm
theorem bl_mk (l : List UInt8) : bl ⟨l.toArray⟩ = l := rfl
theorem bl_inj {s t : ByteArray} (h : bl s = bl t) : s = t := ByteArray.ext (Array.toList_inj.1 h)
theorem mk_bl (s : ByteArray) : (⟨(bl s).toArray⟩ : ByteArray) = s := bl_inj rfl
theorem bl_front (s : ByteArray) (n : Nat) : bl (s.extract 0 n) = (bl s).take n := by
  show (s.extract 0 n).data.toList = _
  rw [Lib.extract_data, Nat.sub_zero, List.drop_zero]; rfl
theorem bl_tail (s : ByteArray) (n : Nat) : bl (s.extract n s.size) = (bl s).drop n := by
  show (s.extract n s.size).data.toList = _
  rw [Lib.extract_data, List.take_of_length_le]
  · rfl
  · rw [List.length_drop, Array.length_toList]; exact Nat.le_refl _
theorem toList_bl (s : ByteArray) : s.toList = bl s := by rw [ByteArray.toList_eq]; rfl
theorem bt_bl {s : ByteArray} {i : Nat} (h : i < (bl s).length) : bt s (i : Int) = (((bl s)[i]'h).toNat : Int) := by
  have h' : i < s.size := by rw [← bl_length]; exact h
  unfold bt
  rw [dif_pos (show (i : Int).toNat < s.size from h')]
  rfl
theorem wn {n : Nat} (m : Nat) (h : n + m ≤ 9223372036854775807) : wrap64 ((n : Int) + (m : Int)) = ((n + m : Nat) : Int) := by rw [wrap64_of (by omega) (by omega)]; omega
theorem wn1 {n : Nat} (h : n + 1 ≤ 9223372036854775807) : wrap64 ((n : Int) + 1) = ((n + 1 : Nat) : Int) := wn 1 h

/-! ### classes -/
def clsI (c : Int) : Int := (lex_classOf.f 6 c).getD 0
theorem class_all : ∀ c : Fin 256, (lex_classOf.f 6 (c.val : Int)).isSome = true := by decide +kernel
theorem class_eq {c : Int} (h0 : 0 ≤ c) (h1 : c ≤ 255) {k : Nat} (hk : 6 ≤ k) : lex_classOf.f k c = some (clsI c) := by
  obtain ⟨r, hr⟩ := Option.isSome_iff_exists.1 (class_all ⟨c.toNat, by omega⟩)
  rw [show ((⟨c.toNat, by omega⟩ : Fin 256).val : Int) = c from by show ((c.toNat : Nat) : Int) = c; omega] at hr
  have := at_rounds (lex_classOf.mono c) hk hr
  rw [this, clsI, hr]; rfl
def cls (c : UInt8) : Int := clsI c.toNat
theorem class_u8 (c : UInt8) {k : Nat} (hk : 6 ≤ k) : lex_classOf.f k (c.toNat : Int) = some (cls c) := class_eq (by omega) (by have := c.toNat_lt; omega) hk
theorem all_u8 {P : UInt8 → Prop} [DecidablePred P] (h : ∀ c : Fin 256, P (UInt8.ofNat c.val)) (c : UInt8) : P c := by
  have := h ⟨c.toNat, c.toNat_lt⟩
  simpa using this
/-- Is it part of a run? -/
def inRun (c : UInt8) : Bool := cls c == 2 || (cls c == 3 || cls c == 4)
def runL (l : List UInt8) : List UInt8 := l.takeWhile inRun
theorem run_loop (s : ByteArray) (hs : s.size ≤ 140737488351232) : ∀ (d i : Nat), i + d = s.size → ∀ k, d + 8 ≤ k → lex_run.l0 k s (i : Int) = some (s.extract 0 (i + (runL ((bl s).drop i)).length))
  | d, i, hd, 0, hk => by omega
  | 0, i, hd, k + 1, hk => by
    rw [lex_run.l0, if_neg (by omega), if_pos (by omega), if_pos (by omega), List.drop_of_length_le (by rw [bl_length]; omega)]
    rfl
  | d + 1, i, hd, k + 1, hk => by
    have hi : i < (bl s).length := by rw [bl_length]; omega
    have hc := class_u8 ((bl s)[i]'hi) (k := k) (by omega)
    have ih := run_loop s hs d (i + 1) (by omega) k (by omega)
    have hw := wn1 (n := i) (by omega)
    rw [lex_run.l0, if_pos (by omega), if_pos (by omega), bt_bl hi, List.drop_eq_getElem_cons hi, runL, List.takeWhile_cons]
    simp only [hc, some_bind, hw, ih]
    have hr : inRun (bl s)[i] = (cls (bl s)[i] == 2 || (cls (bl s)[i] == 3 || cls (bl s)[i] == 4)) := rfl
    rw [hr]
    generalize cls (bl s)[i] = c
    have hgo : ∀ n, i + 1 + n = i + (n + 1) := by omega
    by_cases h2 : c = 2
    · subst h2; simp [runL, hgo]
    · rw [if_neg h2]
      by_cases h3 : c = 3
      · subst h3; simp [runL, hgo]
      · rw [if_neg h3]
        by_cases h4 : c = 4
        · subst h4; simp [runL, hgo]
        · rw [if_neg h4, if_pos (show (i : Int) ≤ (s.size : Int) by omega)]
          simp [h2, h3, h4]
theorem take_run (l : List UInt8) : l.take (runL l).length = runL l := by
  unfold runL
  induction l with
  | nil => rfl
  | cons c r ih =>
    rw [List.takeWhile_cons]
    split
    · rw [List.length_cons, List.take_succ_cons, ih]
    · rfl
theorem run_eq (s : ByteArray) (hs : s.size ≤ 140737488351232) {k : Nat} (hk : s.size + 8 ≤ k) : lex_run.f k s = some ⟨(runL (bl s)).toArray⟩ := by
  have := run_loop s hs s.size 0 (by omega) k (by omega)
  unfold lex_run.f
  rw [show (0 : Int) = ((0 : Nat) : Int) from rfl, this, List.drop_zero, Nat.zero_add]
  congr 1
  apply bl_inj
  rw [bl_front]
  exact take_run (bl s)

/-! ### names -/
def inName (c : UInt8) : Bool := cls c == 3 || (cls c == 2 || c.toNat == 95)
def nameL : List UInt8 → Bool
  | [] => false
  | c :: r => cls c == 3 && r.all inName && decide (r.length < 16)
theorem name_loop (s : ByteArray) (hs : s.size ≤ 140737488351232) : ∀ (d i : Nat), 1 ≤ i → i + d = s.size → ∀ k, d + 8 ≤ k → lex_IsName.l0 k s (s.size : Int) (i : Int) = some (((bl s).drop i).all inName && decide (s.size ≤ 16))
  | d, i, h1, hd, 0, hk => by omega
  | 0, i, h1, hd, k + 1, hk => by
    have hne : ¬ s.toList = [] := by rw [toList_bl]; intro h; have := bl_length s; rw [h] at this; simp at this; omega
    rw [lex_IsName.l0, if_neg (by omega), if_neg hne, List.drop_of_length_le (by rw [bl_length]; omega), List.all_nil, Bool.true_and]
    congr 2
    rw [eq_iff_iff]; omega
  | d + 1, i, h1, hd, k + 1, hk => by
    have hi : i < (bl s).length := by rw [bl_length]; omega
    have hc := class_u8 ((bl s)[i]'hi) (k := k) (by omega)
    have ih := name_loop s hs d (i + 1) (by omega) (by omega) k (by omega)
    have hw := wn1 (n := i) (by omega)
    rw [lex_IsName.l0, if_pos (by omega), if_pos (by omega), if_pos (by omega), bt_bl hi, List.drop_eq_getElem_cons hi, List.all_cons]
    simp only [hc, some_bind, hw, ih]
    have hn : inName (bl s)[i] = (cls (bl s)[i] == 3 || (cls (bl s)[i] == 2 || (bl s)[i].toNat == 95)) := rfl
    rw [hn]
    by_cases h3 : cls (bl s)[i] = 3
    · rw [if_pos h3]; simp [h3]
    · rw [if_neg h3, if_neg (by omega)]
      by_cases h2 : cls (bl s)[i] = 2
      · rw [if_pos h2]; simp [h2]
      · rw [if_neg h2]
        by_cases h9 : (((bl s)[i]).toNat : Int) = 95
        · rw [if_pos h9]
          have : ((bl s)[i]).toNat = 95 := by omega
          simp [this]
        · rw [if_neg h9]
          have : ¬ ((bl s)[i]).toNat = 95 := by omega
          simp [h3, h2, this]
theorem name_eq (s : ByteArray) (hs : s.size ≤ 140737488351232) {k : Nat} (hk : s.size + 9 ≤ k) : lex_IsName.f k s = some (nameL (bl s)) := by
  obtain ⟨k, rfl⟩ : ∃ j, k = j + 1 := ⟨k - 1, by omega⟩
  unfold lex_IsName.f
  have hlen := bl_length s
  cases e : bl s with
  | nil =>
    rw [e] at hlen
    have h0 : s.size = 0 := hlen.symm
    have hnil : s.toList = [] := by rw [toList_bl, e]
    rw [lex_IsName.l0, if_neg (by omega), if_pos hnil]
    rfl
  | cons c r =>
    rw [e, List.length_cons] at hlen
    have hi : 0 < (bl s).length := by rw [bl_length]; omega
    have hc0 : (bl s)[0]'hi = c := by simp [e]
    have hb : bt s 0 = (c.toNat : Int) := by have := bt_bl hi; rw [hc0] at this; exact this
    have hc := class_u8 c (k := k) (by omega)
    have ih := name_loop s hs (s.size - 1) 1 (by omega) (by omega) k (by omega)
    have hw : wrap64 ((0 : Int) + 1) = ((1 : Nat) : Int) := by rw [wrap64_of (by omega) (by omega)]; rfl
    rw [lex_IsName.l0, if_pos (by omega), if_pos (by omega), if_pos (by omega), hb]
    simp only [hc, some_bind, hw, ih]
    rw [nameL]
    by_cases h3 : cls c = 3
    · rw [if_pos h3, e]
      have : (decide (s.size ≤ 16)) = decide (r.length < 16) := by congr 1; rw [eq_iff_iff]; omega
      simp [h3, this]
    · simp [h3]

/-! ### words -/
theorem index_loop (l : List ByteArray) (a : ByteArray) (hl : l.length ≤ 1000) : ∀ (d i : Nat), i + d = l.length → ∀ k, d + 1 ≤ k →
    slices_Index_string_string.l0 k l a (l.length : Int) (i : Int) = some (if ((l.drop i).any fun b => b.toList == a.toList) = true then ((i + (l.drop i).findIdx fun b => b.toList == a.toList : Nat) : Int) else -1)
  | d, i, hd, 0, hk => by omega
  | 0, i, hd, k + 1, hk => by
    rw [slices_Index_string_string.l0, if_neg (by omega), List.drop_of_length_le (by omega)]
    simp
  | d + 1, i, hd, k + 1, hk => by
    have hi : i < l.length := by omega
    have ih := index_loop l a hl d (i + 1) (by omega) k (by omega)
    have hw := wn1 (n := i) (by omega)
    have hr : rdOf ByteArray.empty l (i : Int) = l[i] := by simp [rdOf, List.getD_eq_getElem?_getD, List.getElem?_eq_getElem hi]
    rw [slices_Index_string_string.l0, if_pos (by omega), if_pos (by omega), if_pos (by omega), hr, hw, ih]
    rw [show l.drop i = l[i] :: l.drop (i + 1) from List.drop_eq_getElem_cons hi]
    by_cases h : a.toList = l[i].toList
    · rw [if_pos h]
      have h' : (l[i].toList == a.toList) = true := beq_iff_eq.mpr h.symm
      simp only [List.any_cons, h', Bool.true_or, if_true, List.findIdx_cons, cond_true, Nat.add_zero]
    · rw [if_neg h]
      have h' : (l[i].toList == a.toList) = false := beq_eq_false_iff_ne.mpr (fun e => h e.symm)
      simp only [List.any_cons, h', Bool.false_or, List.findIdx_cons, cond_false]
      split
      · congr 1; omega
      · rfl
def wordsL : List ByteArray := [⟨#[83, 69, 76, 69, 67, 84]⟩, ⟨#[73, 78, 83, 69, 82, 84]⟩, ⟨#[73, 78, 84, 79]⟩, ⟨#[86, 65, 76, 85, 69, 83]⟩, ⟨#[85, 80, 68, 65, 84, 69]⟩, ⟨#[83, 69, 84]⟩, ⟨#[68, 69, 76, 69, 84, 69]⟩, ⟨#[70, 82, 79, 77]⟩, ⟨#[74, 79, 73, 78]⟩, ⟨#[79, 78]⟩, ⟨#[87, 72, 69, 82, 69]⟩, ⟨#[71, 82, 79, 85, 80]⟩, ⟨#[79, 82, 68, 69, 82]⟩, ⟨#[66, 89]⟩, ⟨#[68, 69, 83, 67]⟩, ⟨#[76, 73, 77, 73, 84]⟩, ⟨#[65, 78, 68]⟩, ⟨#[79, 82]⟩, ⟨#[78, 79, 84]⟩, ⟨#[73, 83]⟩, ⟨#[78, 85, 76, 76]⟩, ⟨#[84, 82, 85, 69]⟩, ⟨#[70, 65, 76, 83, 69]⟩, ⟨#[67, 79, 85, 78, 84]⟩, ⟨#[83, 85, 77]⟩, ⟨#[77, 73, 78]⟩, ⟨#[77, 65, 88]⟩]
def wordL (l : List UInt8) : Bool := wordsL.any fun b => b.toList == l
theorem word_eq (s : ByteArray) {k : Nat} (hk : 30 ≤ k) : lex_IsWord.f k s = some (wordL (bl s)) := by
  have h := index_loop wordsL s (by decide) 27 0 rfl k (by omega)
  rw [show ((0 : Nat) : Int) = 0 from rfl] at h
  have e : lex_IsWord.f k s = ((slices_Index_string_string.f k wordsL s).bind fun t => some (decide (t ≥ 0))).bind fun t => some t := rfl
  rw [e]
  unfold slices_Index_string_string.f
  rw [h, some_bind, some_bind, List.drop_zero, toList_bl]
  unfold wordL
  congr 1
  cases hb : (wordsL.any fun b => b.toList == bl s) with
  | true => rw [if_pos rfl, decide_eq_true_iff]; omega
  | false => rw [if_neg (by simp)]; rfl

/-! ### the end of a text -/
/-- How many bytes behind the first mark there are, up to the last one, it too. -/
def qend : List UInt8 → Option Nat
  | [] => none
  | [c] => if c.toNat = 39 then some 1 else none
  | c :: d :: r => if c.toNat = 39 then (if d.toNat = 39 then (qend r).map (· + 2) else some 1) else (qend (d :: r)).map (· + 1)
theorem qend_not {c : UInt8} (h : ¬ c.toNat = 39) (r : List UInt8) : qend (c :: r) = (qend r).map (· + 1) := by
  cases r with
  | nil => simp [qend, h]
  | cons d r => rw [qend, if_neg h]
theorem quoted_loop (s : ByteArray) (hs : s.size ≤ 140737488351232) : ∀ (d i : Nat), s.size ≤ i + d → ∀ k, d + 2 ≤ k →
    lex_quoted.l0 k s (i : Int) = some (match qend ((bl s).drop i) with | some n => s.extract 0 (i + n) | none => ⟨#[]⟩)
  | d, i, hd, 0, hk => by omega
  | d, i, hd, k + 1, hk => by
    by_cases hi : i < s.size
    · obtain ⟨d, rfl⟩ : ∃ j, d = j + 1 := ⟨d - 1, by omega⟩
      have hi' : i < (bl s).length := by rw [bl_length]; exact hi
      have hw := wn1 (n := i) (by omega)
      rw [lex_quoted.l0, if_pos (by omega), if_pos (by omega), bt_bl hi', List.drop_eq_getElem_cons hi', hw]
      by_cases hq : (((bl s)[i]).toNat : Int) = 39
      · rw [if_pos hq]
        have hq' : ((bl s)[i]).toNat = 39 := by omega
        by_cases hj : i + 1 < s.size
        · have hj' : i + 1 < (bl s).length := by rw [bl_length]; exact hj
          have hw2 := wn1 (n := i + 1) (by omega)
          have ih := quoted_loop s hs d (i + 1 + 1) (by omega) k (by omega)
          rw [if_pos (by omega), if_pos (by omega), bt_bl hj', hw2, ih]
          rw [show (bl s).drop (i + 1) = (bl s)[i + 1] :: (bl s).drop (i + 1 + 1) from List.drop_eq_getElem_cons hj', qend, if_pos hq']
          by_cases hr : (((bl s)[i + 1]).toNat : Int) = 39
          · rw [if_pos hr, if_pos (show ((bl s)[i + 1]).toNat = 39 by omega)]
            cases qend ((bl s).drop (i + 1 + 1)) with
            | none => rfl
            | some n => simp only [Option.map_some]; congr 2; omega
          · rw [if_neg hr, if_pos (by omega), if_neg (show ¬ ((bl s)[i + 1]).toNat = 39 by omega)]
            rfl
        · rw [if_neg (by omega), if_pos (by omega), if_pos (by omega), List.drop_of_length_le (by rw [bl_length]; omega), qend, if_pos hq']
          rfl
      · have ih := quoted_loop s hs d (i + 1) (by omega) k (by omega)
        rw [if_neg hq, ih, qend_not (by omega)]
        cases qend ((bl s).drop (i + 1)) with
        | none => rfl
        | some n => simp only [Option.map_some]; congr 2; omega
    · rw [lex_quoted.l0, if_neg (by omega), List.drop_of_length_le (by rw [bl_length]; omega)]
      rfl
theorem qend_le : ∀ (n : Nat) (l : List UInt8), l.length ≤ n → ∀ m, qend l = some m → 1 ≤ m ∧ m ≤ l.length
  | _, [], _, m, h => by simp [qend] at h
  | _, [c], _, m, h => by
    rw [qend] at h
    split at h
    · cases h; simp
    · cases h
  | 0, c :: d :: r, h, _, _ => by simp at h
  | n + 1, c :: d :: r, hl, m, h => by
    have hl' : (d :: r).length ≤ n := by simpa using hl
    rw [qend] at h
    split at h
    · split at h
      · obtain ⟨x, hx, rfl⟩ := Option.map_eq_some_iff.1 h
        have := qend_le n r (by simp at hl'; omega) x hx
        simp; omega
      · cases h; simp
    · obtain ⟨x, hx, rfl⟩ := Option.map_eq_some_iff.1 h
      have := qend_le n (d :: r) hl' x hx
      simp at this ⊢; omega
theorem quoted_eq (s : ByteArray) (hs : s.size ≤ 140737488351232) {k : Nat} (hk : s.size + 2 ≤ k) : lex_quoted.f k s = some (match qend ((bl s).drop 1) with | some n => ⟨((bl s).take (1 + n)).toArray⟩ | none => ⟨#[]⟩) := by
  have := quoted_loop s hs s.size 1 (by omega) k (by omega)
  unfold lex_quoted.f
  rw [show (1 : Int) = ((1 : Nat) : Int) from rfl, this]
  congr 1
  split
  · apply bl_inj; rw [bl_front]; rfl
  · rfl

/-! ### signs -/
def sgn : List UInt8 → Nat
  | c :: d :: _ => if (c.toNat = 60 ∧ (d.toNat = 62 ∨ d.toNat = 61)) ∨ (c.toNat = 62 ∧ d.toNat = 61) then 2 else 1
  | _ => 1
theorem sign_eq (s : ByteArray) (h0 : 0 < s.size) {k : Nat} (hk : 10 ≤ k) : lex_signOf.f k s = some ⟨((bl s).take (sgn (bl s))).toArray⟩ := by
  obtain ⟨k, rfl⟩ : ∃ j, k = j + 1 + 1 + 1 + 1 := ⟨k - 4, by omega⟩
  have hlen := bl_length s
  have e1 : (s.extract 0 1) = ⟨((bl s).take 1).toArray⟩ := by apply bl_inj; rw [bl_front]; rfl
  unfold lex_signOf.f
  rw [some_bind]
  have hp : ∀ x y : UInt8, strings_HasPrefix.f s ⟨#[x, y]⟩ = some (([x, y] : List UInt8).isPrefixOf (bl s)) := fun _ _ => rfl
  have step : ∀ (i : Nat) (x y : UInt8) (j : Nat), i < 3 → rdOf ByteArray.empty ([(⟨#[60, 62]⟩ : ByteArray), (⟨#[60, 61]⟩ : ByteArray), (⟨#[62, 61]⟩ : ByteArray)] : List ByteArray) (i : Int) = ⟨#[x, y]⟩ →
      lex_signOf.l0 (j + 1) s ([(⟨#[60, 62]⟩ : ByteArray), (⟨#[60, 61]⟩ : ByteArray), (⟨#[62, 61]⟩ : ByteArray)] : List ByteArray) 3 (i : Int) = if ([x, y] : List UInt8).isPrefixOf (bl s) = true then some ⟨#[x, y]⟩ else lex_signOf.l0 j s ([(⟨#[60, 62]⟩ : ByteArray), (⟨#[60, 61]⟩ : ByteArray), (⟨#[62, 61]⟩ : ByteArray)] : List ByteArray) 3 ((i + 1 : Nat) : Int) := fun i x y j hi hr => by
    rw [lex_signOf.l0]
    rw [if_pos (show (i : Int) < 3 by omega), if_pos (by omega), if_pos (show (i : Int) < (([(⟨#[60, 62]⟩ : ByteArray), (⟨#[60, 61]⟩ : ByteArray), (⟨#[62, 61]⟩ : ByteArray)] : List ByteArray).length : Int) by show (i : Int) < 3; omega), hr, hp, some_bind, wn1 (by omega)]
  have h0' := step 0 60 62 (k + 1 + 1 + 1) (by omega) rfl
  have h1' := step 1 60 61 (k + 1 + 1) (by omega) rfl
  have h2' := step 2 62 61 (k + 1) (by omega) rfl
  have h3' : lex_signOf.l0 (k + 1) s ([(⟨#[60, 62]⟩ : ByteArray), (⟨#[60, 61]⟩ : ByteArray), (⟨#[62, 61]⟩ : ByteArray)] : List ByteArray) 3 ((3 : Nat) : Int) = some (s.extract 0 1) := by
    rw [lex_signOf.l0, if_neg (by omega), if_pos (by omega), if_pos (by omega)]
  show lex_signOf.l0 (k + 1 + 1 + 1 + 1) s _ 3 ((0 : Nat) : Int) = _
  rw [h0', h1', h2', h3', e1]
  have hne : bl s ≠ [] := fun e => by rw [e] at hlen; simp at hlen; omega
  clear h0' h1' h2' h3' step hp e1 hlen
  revert hne
  generalize bl s = l
  intro hne
  match l, hne with
  | [c], _ => simp [sgn, List.isPrefixOf]
  | c :: d :: r, _ =>
    have u : ∀ (x : UInt8) (n : Nat), (x.toNat = n) ↔ x.toNat = n := fun _ _ => Iff.rfl
    have q : ∀ (x : UInt8) (n : Nat) (hn : n < 256), (UInt8.ofNat n == x) = decide (x.toNat = n) := fun x n hn => by
      rw [Bool.eq_iff_iff, beq_iff_eq, decide_eq_true_iff, ← UInt8.toNat_inj, UInt8.toNat_ofNat']
      omega
    have q60 := q c 60 (by decide); have q62 := q c 62 (by decide); have p62 := q d 62 (by decide); have p61 := q d 61 (by decide)
    have r60 : c.toNat = 60 → c = 60 := fun h => UInt8.toNat_inj.1 h
    have r62 : c.toNat = 62 → c = 62 := fun h => UInt8.toNat_inj.1 h
    have s62 : d.toNat = 62 → d = 62 := fun h => UInt8.toNat_inj.1 h
    have s61 : d.toNat = 61 → d = 61 := fun h => UInt8.toNat_inj.1 h
    simp only [List.isPrefixOf, Bool.and_true]
    rw [show ((60 : UInt8) == c) = decide (c.toNat = 60) from q60, show ((62 : UInt8) == c) = decide (c.toNat = 62) from q62, show ((62 : UInt8) == d) = decide (d.toNat = 62) from p62, show ((61 : UInt8) == d) = decide (d.toNat = 61) from p61]
    simp only [sgn]
    by_cases a : c.toNat = 60
    · obtain rfl := r60 a
      by_cases b : d.toNat = 62
      · obtain rfl := s62 b; simp
      · by_cases b' : d.toNat = 61
        · obtain rfl := s61 b'; simp
        · simp [b, b']
    · by_cases a' : c.toNat = 62
      · obtain rfl := r62 a'
        by_cases b' : d.toNat = 61
        · obtain rfl := s61 b'; simp
        · simp [b']
      · simp [a, a']
end Go.Proofs.YtllehkjebikgpaaDoor.PS
end
section
namespace Go.Proofs.YtllehkjebikgpaaDoor.PS
open Go.RowKit Go.Proofs.YtllehkjebikgpaaDoorSh Go.Proofs.YtllehkjebikgpaaDoorW.PrintWords Go.Proofs.YtllehkjebikgpaaDoorW.PrintLast Go.Proofs.YtllehkjebikgpaaDoorW.PrintMore Go.Proofs.YtllehkjebikgpaaDoorX Go.Proofs.YtllehkjebikgpaaDoorL Go.Proofs.YtllehkjebikgpaaDoor.PA
set_option linter.unusedVariables false
set_option linter.unusedSimpArgs false

def numL (w : List UInt8) : Int × Bool := (atoiN w, atoiOk w && (decide (0 ≤ atoiN w) && (decide (atoiN w ≤ 4611686018427387904) && (Lib.itoa (atoiN w) == w))))
theorem number_eq (s : ByteArray) (hs : s.size ≤ 100000000000) : lex_number.f s = some (numL (bl s)) := by
  unfold lex_number.f
  rw [if_pos hs]; rfl
def litL (q : List UInt8) : Option (List UInt8) := (value_Parse.f ⟨q.toArray⟩).bind fun r => if r.2.2.2 = 0 then some (bl r.2.2.1) else none
theorem fin_some (s : ByteArray) (v0 v1 : Int) (v2 : ByteArray) : ∃ r, fin s v0 v1 v2 = some r := by
  unfold fin
  obtain ⟨p, hp⟩ := print_some v0 v1 v2
  rw [hp]; exact ⟨_, rfl⟩
theorem parse_some (s : ByteArray) (hs : s.size ≤ 100000000000) : ∃ r, value_Parse.f s = some r := by
  unfold value_Parse.f
  rw [if_pos hs]
  split
  · exact fin_some ..
  · split
    · exact fin_some ..
    · split
      · split
        · exact fin_some ..
        · exact ⟨_, rfl⟩
      · split
        · exact fin_some ..
        · exact fin_some ..
/-- The token at the begin of a list: what it is, its length, what is wrong. -/
def tokL : List UInt8 → (Int × Int × List UInt8) × Nat × Int
  | [] => ((0, 0, []), 0, 0)
  | c :: r =>
    if cls c = 2 then (if (numL (runL (c :: r))).2 = true then ((2, (numL (runL (c :: r))).1, []), (runL (c :: r)).length, 0) else ((0, 0, []), 0, 101))
    else if cls c = 3 ∨ cls c = 4 then (if wordL (runL (c :: r)) = true then ((4, 0, runL (c :: r)), (runL (c :: r)).length, 0) else if nameL (runL (c :: r)) = true then ((3, 0, runL (c :: r)), (runL (c :: r)).length, 0) else ((0, 0, []), 0, 102))
    else if cls c = 5 then (if nameL (runL r) = true then ((6, 0, runL r), (runL r).length + 1, 0) else ((0, 0, []), 0, 102))
    else if cls c = 6 then (match (qend r).bind fun n => (litL ((c :: r).take (1 + n))).map fun t => (t, 1 + n) with
      | some (t, n) => ((5, 0, t), n, 0)
      | none => ((0, 0, []), 0, 103))
    else if cls c = 7 ∨ cls c = 8 then ((7, 0, (c :: r).take (sgn (c :: r))), ((c :: r).take (sgn (c :: r))).length, 0)
    else ((0, 0, []), 0, 100)
theorem tw_le (p : UInt8 → Bool) : ∀ l : List UInt8, (l.takeWhile p).length ≤ l.length
  | [] => Nat.le_refl _
  | c :: l => by
    have := tw_le p l
    rw [List.takeWhile_cons]
    split
    · simp; exact this
    · simp
theorem runL_le (l : List UInt8) : (runL l).length ≤ l.length := tw_le _ _
theorem runL_pos {c : UInt8} {r : List UInt8} (h : inRun c = true) : 1 ≤ (runL (c :: r)).length := by
  unfold runL
  rw [List.takeWhile_cons, if_pos h]; simp
theorem size_mk' (l : List UInt8) : (⟨l.toArray⟩ : ByteArray).size = l.length := by rw [Lib.size_eq]
theorem mk_toList_nil {l : List UInt8} : (⟨l.toArray⟩ : ByteArray).toList = [] ↔ l = [] := by rw [toList_bl, bl_mk]
set_option maxHeartbeats 1000000 in
theorem token_eq (s : ByteArray) (hs : s.size ≤ 1000000) (h0 : 0 < s.size) {k : Nat} (hk : s.size + 60 ≤ k) :
    lex_token.f k s = some ((tokL (bl s)).1.1, (tokL (bl s)).1.2.1, ⟨(tokL (bl s)).1.2.2.toArray⟩, 0, ((tokL (bl s)).2.1 : Int), (tokL (bl s)).2.2) := by
  obtain ⟨k, rfl⟩ : ∃ j, k = j + 1 := ⟨k - 1, by omega⟩
  have hlen := bl_length s
  unfold lex_token.f
  rw [run_eq s (by omega) (by omega), some_bind, if_pos (by omega)]
  cases e : bl s with
  | nil => rw [e] at hlen; simp at hlen; omega
  | cons c r =>
    have hi : 0 < (bl s).length := by rw [bl_length]; omega
    have hc0 : (bl s)[0]'hi = c := by simp [e]
    have hb : bt s 0 = (c.toNat : Int) := by have := bt_bl hi; rw [hc0] at this; exact this
    have hrl := runL_le (c :: r)
    rw [e, List.length_cons] at hlen
    rw [List.length_cons] at hrl
    have hw := size_mk' (runL (c :: r))
    rw [hb, class_u8 c (by omega), some_bind, tokL]
    by_cases h2 : cls c = 2
    · rw [if_pos h2, if_pos h2, number_eq _ (by rw [hw]; omega), some_bind, bl_mk, hw]
      by_cases hn : (numL (runL (c :: r))).2 = true
      · rw [if_pos hn, if_pos hn]
      · rw [if_neg hn, if_neg hn]; rfl
    · rw [if_neg h2, if_neg h2]
      have hword : ∀ {k}, 40 ≤ k → lex_IsWord.f k (⟨(runL (c :: r)).toArray⟩ : ByteArray) = some (wordL (runL (c :: r))) := fun h => by rw [word_eq _ (by omega), bl_mk]
      have hname : lex_IsName.f k (⟨(runL (c :: r)).toArray⟩ : ByteArray) = some (nameL (runL (c :: r))) := by rw [name_eq _ (by rw [hw]; omega) (by rw [hw]; omega), bl_mk]
      have run : ∀ y, lex_token.j0 (k + 1) s (⟨(runL (c :: r)).toArray⟩ : ByteArray) y true = some (
          (if wordL (runL (c :: r)) = true then ((4, 0, ⟨(runL (c :: r)).toArray⟩, 0, ((runL (c :: r)).length : Int), 0) : Int × Int × ByteArray × Int × Int × Int) else if nameL (runL (c :: r)) = true then (3, 0, ⟨(runL (c :: r)).toArray⟩, 0, ((runL (c :: r)).length : Int), 0) else (0, 0, ⟨#[]⟩, 0, 0, 102))) := fun y => by
        rw [lex_token.j0, if_pos rfl, hword (by omega), some_bind, hname, some_bind, hw]
        cases wordL (runL (c :: r)) <;> cases nameL (runL (c :: r)) <;> rfl
      by_cases h3 : cls c = 3
      · have h34 : cls c = 3 ∨ cls c = 4 := .inl h3
        rw [if_pos h3, show (cls c == 3) = true from beq_iff_eq.mpr h3, run]
        simp only [if_pos h34]
        cases wordL (runL (c :: r)) <;> cases nameL (runL (c :: r)) <;> rfl
      · rw [if_neg h3]
        by_cases h4 : cls c = 4
        · have h34 : cls c = 3 ∨ cls c = 4 := .inr h4
          rw [show (cls c == 4) = true from beq_iff_eq.mpr h4, run]
          simp only [if_pos h34]
          cases wordL (runL (c :: r)) <;> cases nameL (runL (c :: r)) <;> rfl
        · have h34 : ¬ (cls c = 3 ∨ cls c = 4) := by rintro (h | h); exact h3 h; exact h4 h
          rw [show (cls c == 4) = false from beq_eq_false_iff_ne.mpr h4, lex_token.j0, if_neg (by decide)]
          simp only [if_neg h34]
          by_cases h5 : cls c = 5
          · have hx : bl (s.extract 1 s.size) = r := by rw [bl_tail, e]; rfl
            have hxs : (s.extract 1 s.size).size ≤ 140737488351232 := by rw [ByteArray.size_extract]; omega
            have hrl' := runL_le r
            have hw' := size_mk' (runL r)
            have hxk : (s.extract 1 s.size).size + 8 ≤ k := by rw [ByteArray.size_extract]; omega
            rw [if_pos h5, if_pos h5, if_pos (by omega), run_eq _ hxs hxk, some_bind, hx, name_eq _ (by rw [hw']; omega) (by rw [hw']; omega), some_bind, bl_mk, hw']
            by_cases hn : nameL (runL r) = true
            · rw [if_pos hn, if_pos hn, wn1 (by omega)]
            · rw [if_neg hn, if_neg hn]; rfl
          · rw [if_neg h5, if_neg h5]
            by_cases h6 : cls c = 6
            · rw [if_pos h6, if_pos h6, quoted_eq s (by omega) (by omega), some_bind, e, List.drop_succ_cons, List.drop_zero]
              cases hq : qend r with
              | none =>
                show (lex_literal.f _).bind _ = _
                unfold lex_literal.f
                rw [if_pos (by rw [toList_bl]; rfl), some_bind, if_neg (by decide)]
                rfl
              | some n =>
                show (lex_literal.f _).bind _ = _
                have hqr := qend_le r.length r (Nat.le_refl _) n hq
                have hl : ((c :: r).take (1 + n)).length = 1 + n := by rw [List.length_take, List.length_cons]; omega
                have hz := size_mk' ((c :: r).take (1 + n))
                rw [hl] at hz
                obtain ⟨p, hp⟩ := parse_some (⟨((c :: r).take (1 + n)).toArray⟩ : ByteArray) (by rw [hz]; omega)
                unfold lex_literal.f
                rw [if_neg (by rw [mk_toList_nil]; intro h; rw [h] at hl; simp at hl; omega), hp, some_bind, some_bind, hz, some_bind, litL, hp, some_bind]
                by_cases he : p.2.2.2 = 0
                · rw [if_pos he, if_pos he]
                  show _ = some ((5 : Int), (0 : Int), (⟨(bl p.2.2.1).toArray⟩ : ByteArray), (0 : Int), ((1 + n : Nat) : Int), (0 : Int))
                  rw [mk_bl]
                · rw [if_neg he, if_neg he]; rfl
            · rw [if_neg h6, if_neg h6]
              have hz := size_mk' ((c :: r).take (sgn (c :: r)))
              have hsg : ∀ {j}, 10 ≤ j → lex_signOf.f j s = some ⟨((c :: r).take (sgn (c :: r))).toArray⟩ := fun h => by rw [sign_eq s h0 h, e]
              by_cases h7 : cls c = 7
              · rw [if_pos h7, if_pos (.inl h7), hsg (by omega), some_bind, hz]
              · rw [if_neg h7]
                by_cases h8 : cls c = 8
                · rw [if_pos h8, if_pos (.inr h8), hsg (by omega), some_bind, hz]
                · rw [if_neg h8, if_neg (by rintro (h | h); exact h7 h; exact h8 h)]; rfl
theorem sgn_range (l : List UInt8) : 1 ≤ sgn l ∧ sgn l ≤ 2 := by
  unfold sgn
  split
  · split <;> omega
  · omega
theorem inRun_of {c : UInt8} (h : cls c = 2 ∨ cls c = 3 ∨ cls c = 4) : inRun c = true := by
  unfold inRun
  rcases h with h | h | h <;> simp [h]
/-- A token has some bytes, and lies within the list. -/
theorem tok_size (c : UInt8) (r : List UInt8) (h : (tokL (c :: r)).2.2 = 0) : 1 ≤ (tokL (c :: r)).2.1 ∧ (tokL (c :: r)).2.1 ≤ r.length + 1 := by
  have hrl := runL_le (c :: r)
  have hrl' := runL_le r
  rw [List.length_cons] at hrl
  rw [tokL] at h ⊢
  by_cases h2 : cls c = 2
  · have := runL_pos (r := r) (inRun_of (.inl h2))
    rw [if_pos h2] at h ⊢
    split at h
    · next hn => rw [if_pos hn]; exact ⟨this, hrl⟩
    · exact absurd h (by decide)
  · rw [if_neg h2] at h ⊢
    by_cases h3 : cls c = 3 ∨ cls c = 4
    · have := runL_pos (r := r) (inRun_of (.inr h3))
      rw [if_pos h3] at h ⊢
      split at h
      · next hn => rw [if_pos hn]; exact ⟨this, hrl⟩
      · next hn =>
        rw [if_neg hn]
        split at h
        · next hm => rw [if_pos hm]; exact ⟨this, hrl⟩
        · exact absurd h (by decide)
    · rw [if_neg h3] at h ⊢
      by_cases h5 : cls c = 5
      · rw [if_pos h5] at h ⊢
        split at h
        · next hn => rw [if_pos hn]; exact ⟨by show 1 ≤ (runL r).length + 1; omega, by show (runL r).length + 1 ≤ _; omega⟩
        · exact absurd h (by decide)
      · rw [if_neg h5] at h ⊢
        by_cases h6 : cls c = 6
        · rw [if_pos h6] at h ⊢
          split at h
          · next t n hn =>
            obtain ⟨m, hm, hx⟩ := Option.bind_eq_some_iff.1 hn
            obtain ⟨y, _, hy⟩ := Option.map_eq_some_iff.1 hx
            have := qend_le r.length r (Nat.le_refl _) m hm
            cases hy
            show 1 ≤ 1 + m ∧ 1 + m ≤ _
            omega
          · exact absurd h (by decide)
        · rw [if_neg h6] at h ⊢
          by_cases h7 : cls c = 7 ∨ cls c = 8
          · rw [if_pos h7]
            have := sgn_range (c :: r)
            show 1 ≤ ((c :: r).take (sgn (c :: r))).length ∧ ((c :: r).take (sgn (c :: r))).length ≤ _
            rw [List.length_take, List.length_cons]; omega
          · rw [if_neg h7] at h; exact absurd h (by decide)

/-! ### remarks -/
def isRem (l : List UInt8) : Bool := ([45, 45] : List UInt8).isPrefixOf l
def remN (l : List UInt8) : Nat := (l.takeWhile fun c => !(c == 10)).length
theorem remN_le (l : List UInt8) : remN l ≤ l.length := tw_le _ _
theorem rem_pos {l : List UInt8} (h : isRem l = true) : 2 ≤ remN l := by
  obtain ⟨t, rfl⟩ := List.isPrefixOf_iff_prefix.1 h
  unfold remN
  simp
theorem index_rem : ∀ l : List UInt8, (Lib.indexByte l 10 < 0 ∧ remN l = l.length) ∨ (Lib.indexByte l 10 = (remN l : Int))
  | [] => .inl ⟨by rw [Lib.indexByte]; decide, rfl⟩
  | c :: l => by
    rw [Lib.indexByte]
    unfold remN
    rw [List.takeWhile_cons]
    by_cases h : (c == 10) = true
    · rw [if_pos h, h]; exact .inr rfl
    · have h' := Bool.eq_false_iff.mpr h
      rw [if_neg h, h']
      have hge := Lib.indexByte_ge l 10
      rcases index_rem l with ⟨a, b⟩ | a
      · rw [if_pos (by rw [beq_iff_eq]; omega)]
        exact .inl ⟨by omega, by unfold remN at b; simp [b]⟩
      · have : 0 ≤ (remN l : Int) := by omega
        rw [if_neg (by rw [beq_iff_eq]; omega)]
        exact .inr (by rw [a]; unfold remN; simp)

/-! ### Scan -/
def mkT (t : Int × Int × List UInt8) (i : Nat) : S29 := ⟨t.1, t.2.1, ⟨t.2.2.toArray⟩, (i : Int)⟩
def endT (i : Nat) : S29 := ⟨1, 0, ⟨#[]⟩, (i : Int)⟩
/-- What is told of a list of bytes that begins at a place: the tokens ahead of what is wrong, if something is. -/
inductive Run : List UInt8 → Nat → List S29 → Option (Nat × Int) → Prop
  | fin (i : Nat) : Run [] i [endT i] none
  | blank {c : UInt8} {r : List UInt8} {i : Nat} {ts : List S29} {e : Option (Nat × Int)} (h : cls c = 1) (hr : Run r (i + 1) ts e) : Run (c :: r) i ts e
  | rem {l : List UInt8} {i : Nat} {ts : List S29} {e : Option (Nat × Int)} (h : isRem l = true) (hr : Run (l.drop (remN l)) (i + remN l) ts e) : Run l i ts e
  | bad {c : UInt8} {r : List UInt8} {i : Nat} (h : cls c ≠ 1) (hm : isRem (c :: r) = false) (he : (tokL (c :: r)).2.2 ≠ 0) : Run (c :: r) i [] (some (i, (tokL (c :: r)).2.2))
  | tok {c : UInt8} {r : List UInt8} {i : Nat} {ts : List S29} {e : Option (Nat × Int)} (h : cls c ≠ 1) (hm : isRem (c :: r) = false) (he : (tokL (c :: r)).2.2 = 0)
      (hr : Run ((c :: r).drop (tokL (c :: r)).2.1) (i + (tokL (c :: r)).2.1) ts e) : Run (c :: r) i (mkT (tokL (c :: r)).1 i :: ts) e
def resOf (acc ts : List S29) : Option (Nat × Int) → List S29 × Int × Int
  | none => (acc ++ ts, 0, 0)
  | some (n, x) => ([], (n : Int), x)
theorem run_total : ∀ (n : Nat) (l : List UInt8), l.length ≤ n → ∀ i, ∃ ts e, Run l i ts e
  | _, [], _, i => ⟨_, _, .fin i⟩
  | 0, c :: r, h, _ => by simp at h
  | n + 1, c :: r, h, i => by
    have h' : r.length ≤ n := by simpa using h
    by_cases h1 : cls c = 1
    · obtain ⟨ts, e, hr⟩ := run_total n r h' (i + 1)
      exact ⟨_, _, .blank h1 hr⟩
    · cases hm : isRem (c :: r) with
      | true =>
        have hp := rem_pos hm
        obtain ⟨ts, e, hr⟩ := run_total n ((c :: r).drop (remN (c :: r))) (by rw [List.length_drop, List.length_cons]; omega) (i + remN (c :: r))
        exact ⟨_, _, .rem hm hr⟩
      | false =>
        by_cases he : (tokL (c :: r)).2.2 = 0
        · have hz := tok_size c r he
          obtain ⟨ts, e, hr⟩ := run_total n ((c :: r).drop (tokL (c :: r)).2.1) (by rw [List.length_drop, List.length_cons]; omega) (i + (tokL (c :: r)).2.1)
          exact ⟨_, _, .tok h1 hm he hr⟩
        · exact ⟨_, _, .bad h1 hm he⟩
theorem cls_dash : cls 45 = 7 := by decide +kernel
theorem rem_not_blank {c : UInt8} {r : List UInt8} (h : isRem (c :: r) = true) : cls c ≠ 1 := by
  obtain ⟨t, ht⟩ := List.isPrefixOf_iff_prefix.1 h
  injection ht with h1 h2
  subst h1
  rw [cls_dash]; decide
theorem scan_run {l : List UInt8} {i : Nat} {ts : List S29} {e : Option (Nat × Int)} (h : Run l i ts e) : ∀ (s : ByteArray) (acc : List S29) (k : Nat), (bl s).drop i = l → i + l.length = s.size → s.size ≤ 1000 →
    acc.length + l.length ≤ 1000 → l.length + 1100 ≤ k → lex_Scan.l0 k s acc i = some (resOf acc ts e) := by
  induction h with
  | fin i =>
    intro s acc k hd hl hs ha hk
    obtain ⟨k, rfl⟩ : ∃ j, k = j + 1 := ⟨k - 1, by omega⟩
    have : i = s.size := by simpa using hl
    rw [lex_Scan.l0, if_pos this, if_pos (by simp at ha; omega)]
    rfl
  | @blank c r i ts e h hr ih =>
    intro s acc k hd hl hs ha hk
    obtain ⟨k, rfl⟩ : ∃ j, k = j + 1 := ⟨k - 1, by omega⟩
    rw [List.length_cons] at hl ha hk
    have hi : i < (bl s).length := by rw [bl_length]; omega
    have hc : (bl s)[i] = c ∧ (bl s).drop (i + 1) = r := by
      rw [List.drop_eq_getElem_cons hi] at hd
      injection hd with h1 h2
      exact ⟨h1, h2⟩
    rw [lex_Scan.l0, if_neg (by omega), if_pos (by omega), bt_bl hi, hc.1, class_u8 c (by omega), some_bind, if_pos h]
    exact ih s acc k hc.2 (by omega) hs (by omega) (by omega)
  | @rem l i ts e h hr ih =>
    intro s acc k hd hl hs ha hk
    obtain ⟨k, rfl⟩ : ∃ j, k = j + 1 := ⟨k - 1, by omega⟩
    have hp := rem_pos h
    have hle := remN_le l
    match l, h, hr, ih, hd, hl, ha, hk, hp, hle with
    | [], _, _, _, _, _, _, _, hp, _ => exact absurd hp (by decide)
    | c :: r, h, hr, ih, hd, hl, ha, hk, hp, hle =>
      have hnb := rem_not_blank h
      have hlen : (c :: r).length = r.length + 1 := List.length_cons
      have hi : i < (bl s).length := by rw [bl_length]; omega
      have hc : (bl s)[i] = c := by
        rw [List.drop_eq_getElem_cons hi] at hd
        injection hd with h1 h2
      have hx : (s.extract i s.size).data.toList = c :: r := by rw [← hd]; exact bl_tail s i
      have hdd : (bl s).drop (i + remN (c :: r)) = (c :: r).drop (remN (c :: r)) := by rw [← hd, List.drop_drop]
      have := ih s acc k hdd (by rw [List.length_drop]; omega) hs (by rw [List.length_drop]; omega) (by rw [List.length_drop]; omega)
      rw [lex_Scan.l0, if_neg (by omega), if_pos (by omega), bt_bl hi, hc, class_u8 c (by omega), some_bind, if_neg hnb, hx, if_pos (show Lib.hasPrefix (c :: r) [45, 45] = true from h)]
      rcases index_rem (c :: r) with ⟨a, b⟩ | a
      · rw [if_pos a]
        rw [b, show i + (c :: r).length = s.size from hl] at this
        exact this
      · rw [if_neg (by rw [a]; omega), a, Int.toNat_natCast]
        exact this
  | @bad c r i h hm he =>
    intro s acc k hd hl hs ha hk
    obtain ⟨k, rfl⟩ : ∃ j, k = j + 1 := ⟨k - 1, by omega⟩
    rw [List.length_cons] at hl ha hk
    have hi : i < (bl s).length := by rw [bl_length]; omega
    have hc : (bl s)[i] = c := by
      rw [List.drop_eq_getElem_cons hi] at hd
      injection hd with h1 h2
    have hx : (s.extract i s.size).data.toList = c :: r := by rw [← hd]; exact bl_tail s i
    have hxs : (s.extract i s.size).size = s.size - i := by rw [ByteArray.size_extract]; omega
    have ht := token_eq (s.extract i s.size) (by omega) (by omega) (k := k) (by omega)
    rw [show bl (s.extract i s.size) = c :: r from hx] at ht
    rw [lex_Scan.l0, if_neg (by omega), if_pos (by omega), bt_bl hi, hc, class_u8 c (by omega), some_bind, if_neg h, hx, if_neg (show ¬ Lib.hasPrefix (c :: r) [45, 45] = true from by rw [show Lib.hasPrefix (c :: r) [45, 45] = isRem (c :: r) from rfl, hm]; decide), ht, some_bind, if_neg he]
    rfl
  | @tok c r i ts e h hm he hr ih =>
    intro s acc k hd hl hs ha hk
    obtain ⟨k, rfl⟩ : ∃ j, k = j + 1 := ⟨k - 1, by omega⟩
    rw [List.length_cons] at hl ha hk
    have hz := tok_size c r he
    have hi : i < (bl s).length := by rw [bl_length]; omega
    have hc : (bl s)[i] = c := by
      rw [List.drop_eq_getElem_cons hi] at hd
      injection hd with h1 h2
    have hx : (s.extract i s.size).data.toList = c :: r := by rw [← hd]; exact bl_tail s i
    have hxs : (s.extract i s.size).size = s.size - i := by rw [ByteArray.size_extract]; omega
    have ht := token_eq (s.extract i s.size) (by omega) (by omega) (k := k) (by omega)
    rw [show bl (s.extract i s.size) = c :: r from hx] at ht
    have hdd : (bl s).drop (i + (tokL (c :: r)).2.1) = (c :: r).drop (tokL (c :: r)).2.1 := by rw [← hd, List.drop_drop]
    have := ih s (acc ++ [mkT (tokL (c :: r)).1 i]) k hdd (by rw [List.length_drop, List.length_cons]; omega) hs (by rw [List.length_append, List.length_drop, List.length_cons]; simp; omega) (by rw [List.length_drop, List.length_cons]; omega)
    rw [lex_Scan.l0, if_neg (by omega), if_pos (by omega), bt_bl hi, hc, class_u8 c (by omega), some_bind, if_neg h, hx, if_neg (show ¬ Lib.hasPrefix (c :: r) [45, 45] = true from by rw [show Lib.hasPrefix (c :: r) [45, 45] = isRem (c :: r) from rfl, hm]; decide), ht, some_bind, if_pos he, if_pos ⟨by omega, by show (0 : Int) ≤ ((tokL (c :: r)).2.1 : Int); omega, by show ((tokL (c :: r)).2.1 : Int) ≤ 1000; omega⟩, Int.toNat_natCast]
    rw [show (⟨(tokL (c :: r)).1.1, (tokL (c :: r)).1.2.1, ⟨(tokL (c :: r)).1.2.2.toArray⟩, (i : Int)⟩ : S29) = mkT (tokL (c :: r)).1 i from rfl, this]
    cases e with
    | none => unfold resOf; rw [List.append_assoc]; rfl
    | some p => rfl
theorem scan_of {s : ByteArray} {ts : List S29} {e : Option (Nat × Int)} (h : Run (bl s) 0 ts e) (hs : s.size ≤ 1000) {k : Nat} (hk : 2100 ≤ k) : lex_Scan.f k s = some (resOf [] ts e) := by
  have hl := bl_length s
  unfold lex_Scan.f
  rw [if_pos hs]
  exact scan_run h s [] k (List.drop_zero) (by omega) hs (by simp; omega) (by omega)
theorem scan_long {s : ByteArray} (hs : ¬ s.size ≤ 1000) (k : Nat) : lex_Scan.f k s = some ([], 0, 2) := by
  unfold lex_Scan.f
  rw [if_neg hs]
theorem scan_all (s : ByteArray) (hs : s.size ≤ 1000) : ∃ ts e, Run (bl s) 0 ts e := run_total _ _ (Nat.le_refl _) 0
end Go.Proofs.YtllehkjebikgpaaDoor.PS
end
section
namespace Go.Proofs.YtllehkjebikgpaaDoor.PS
open Go.RowKit Go.Proofs.YtllehkjebikgpaaDoorW.PrintWords Go.Proofs.YtllehkjebikgpaaDoorW.PrintLast Go.Proofs.YtllehkjebikgpaaDoorW.PrintMore Go.Proofs.YtllehkjebikgpaaDoorX Go.Proofs.YtllehkjebikgpaaDoorL Go.Proofs.YtllehkjebikgpaaDoor.PA
theorem awake_60 : unisonlaw10_awake.f 60 = some true := by decide +kernel
theorem awake_all {k : Nat} (hk : 60 ≤ k) : unisonlaw10_awake.f k = some true := at_rounds unisonlaw10_awake.mono hk awake_60
end Go.Proofs.YtllehkjebikgpaaDoor.PS
end
