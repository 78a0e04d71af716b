/- Several texts in one: TA, TB, TC, TD, TE; no conditions beyond those in each theorem's head. -/
import Derived.ProofKit
section
namespace Go.Proofs.YtmomohljnmopfaaX
set_option linter.unusedVariables false
set_option linter.unusedSimpArgs false
abbrev Nm := List UInt8
abbrev KV := Nm × ByteArray
theorem nm_irrefl (x : Nm) : ¬ x < x := List.lt_irrefl x
theorem nm_trans {x y z : Nm} (h : x < y) (k : y < z) : x < z := List.lt_trans h k
theorem nm_ne {x y : Nm} (h : x < y) : x ≠ y := fun e => by subst e; exact nm_irrefl _ h
theorem nm_tri {x y : Nm} (h : ¬ x < y) (k : x ≠ y) : y < x := by
  apply Decidable.byContradiction
  intro h2
  exact k (List.le_antisymm (List.not_lt.1 h2) (List.not_lt.1 h))
theorem nm_le_lt {x y z : Nm} (h : ¬ y < x) (k : y < z) : x < z := by
  by_cases e : x = y
  · rw [e]; exact k
  · exact nm_trans (nm_tri h (fun e9 => e e9.symm)) k
theorem nm_lt_le {x y z : Nm} (h : x < y) (k : ¬ z < y) : x < z := by
  by_cases e : y = z
  · rw [← e]; exact h
  · exact nm_trans h (nm_tri k (fun e9 => e e9.symm))
theorem nm_le_trans {x y z : Nm} (h : ¬ y < x) (k : ¬ z < y) : ¬ z < x := fun h2 => k (nm_lt_le h2 h)
/-- Pairs by rising keys. -/
def Rises (l : List KV) : Prop := l.Pairwise (fun p q => p.1 < q.1)
def getF (x : Nm) : List KV → Option ByteArray
  | [] => none
  | p :: r => if p.1 = x then some p.2 else getF x r
def putF (x : Nm) (v : ByteArray) : List KV → List KV
  | [] => [(x, v)]
  | p :: r => if p.1 < x then p :: putF x v r else if p.1 = x then (x, v) :: r else (x, v) :: p :: r
def delF (x : Nm) : List KV → List KV
  | [] => []
  | p :: r => if p.1 = x then r else p :: delF x r
/-- How many keys are less. -/
def rank : List Nm → Nm → Nat
  | [], _ => 0
  | k :: ks, x => if k < x then rank ks x + 1 else 0
/-- How many keys are not greater. -/
def atK : List Nm → Nm → Nat
  | [], _ => 0
  | k :: ks, x => if x < k then 0 else atK ks x + 1
def T : Nat → Type
  | 0 => List KV
  | h + 1 => List Nm × List (T h)
def sizeT : (h : Nat) → T h → Nat
  | 0, l => List.length (α := KV) l
  | h + 1, t => t.2.length
def flat : (h : Nat) → T h → List KV
  | 0, l => l
  | h + 1, t => (t.2.map (flat h)).flatten
def insAt {α : Type} (i : Nat) (x : α) (l : List α) : List α := l.take i ++ x :: l.drop i
def delAt {α : Type} (i : Nat) (l : List α) : List α := l.take i ++ l.drop (i + 1)
def headK (l : List KV) : Nm := match l with
  | [] => []
  | p :: _ => p.1
/-- A node that is too wide, parted: the left part, the right one's least key, the right part. -/
def splitT : (h : Nat) → T h → T h × Nm × T h
  | 0, l => (List.take (α := KV) (List.length (α := KV) l / 2) l, headK (List.drop (α := KV) (List.length (α := KV) l / 2) l), List.drop (α := KV) (List.length (α := KV) l / 2) l)
  | h + 1, t => ((t.1.take (t.2.length / 2 - 1), t.2.take (t.2.length / 2)), t.1.getD (t.2.length / 2 - 1) [], (t.1.drop (t.2.length / 2), t.2.drop (t.2.length / 2)))
def putT (m : Nat) : (h : Nat) → T h → Nm → ByteArray → T h
  | 0, l, x, v => putF x v l
  | h + 1, t, x, v => match t.2[atK t.1 x]? with
    | none => t
    | some c => if m < sizeT h (putT m h c x v) then (insAt (atK t.1 x) (splitT h (putT m h c x v)).2.1 t.1, insAt (atK t.1 x + 1) (splitT h (putT m h c x v)).2.2 (t.2.set (atK t.1 x) (splitT h (putT m h c x v)).1))
      else (t.1, t.2.set (atK t.1 x) (putT m h c x v))
/-- Two kids beside one another, the left one's last goes to the right one. -/
def borR : (h : Nat) → T h → Nm → T h → T h × Nm × T h
  | 0, l, s, r => (List.dropLast (α := KV) l, headK (l.drop (List.length (α := KV) l - 1)), List.append (α := KV) (List.drop (α := KV) (List.length (α := KV) l - 1) l) r)
  | h + 1, l, s, r => ((l.1.dropLast, l.2.dropLast), l.1.getD (l.1.length - 1) [], (s :: r.1, l.2.drop (l.2.length - 1) ++ r.2))
/-- The right one's first goes to the left one. -/
def borL : (h : Nat) → T h → Nm → T h → T h × Nm × T h
  | 0, l, s, r => (List.append (α := KV) l (List.take (α := KV) 1 r), headK (List.drop (α := KV) 1 r), List.drop (α := KV) 1 r)
  | h + 1, l, s, r => ((l.1 ++ [s], l.2 ++ r.2.take 1), r.1.getD 0 [], (r.1.drop 1, r.2.drop 1))
/-- One of both. -/
def merT : (h : Nat) → T h → Nm → T h → T h
  | 0, l, s, r => List.append (α := KV) l r
  | h + 1, l, s, r => (l.1 ++ s :: r.1, l.2 ++ r.2)
/-- Kids i and i + 1 are turned. -/
def pairT {h : Nat} (t : T (h + 1)) (i : Nat) (f : T h → Nm → T h → T h × Nm × T h) : T (h + 1) := match t.2[i]?, t.1[i]?, t.2[i + 1]? with
  | some l, some s, some r => (t.1.set i (f l s r).2.1, (t.2.set i (f l s r).1).set (i + 1) (f l s r).2.2)
  | _, _, _ => t
def mergeT {h : Nat} (t : T (h + 1)) (i : Nat) : T (h + 1) := match t.2[i]?, t.1[i]?, t.2[i + 1]? with
  | some l, some s, some r => (delAt i t.1, delAt (i + 1) (t.2.set i (merT h l s r)))
  | _, _, _ => t
def sizeAt {h : Nat} (t : T (h + 1)) (i : Nat) : Nat := match t.2[i]? with
  | some c => sizeT h c
  | none => 0
def widenT (m : Nat) {h : Nat} (t : T (h + 1)) (i : Nat) : T (h + 1) :=
  if m / 2 ≤ sizeAt t i then t
  else if 0 < i ∧ m / 2 < sizeAt t (i - 1) then pairT t (i - 1) (borR h)
  else if i + 1 < t.2.length ∧ m / 2 < sizeAt t (i + 1) then pairT t i (borL h)
  else if 0 < i then mergeT t (i - 1)
  else mergeT t i
def delT (m : Nat) : (h : Nat) → T h → Nm → T h
  | 0, l, x => delF x l
  | h + 1, t, x => match t.2[atK t.1 x]? with
    | none => t
    | some c => widenT m (t.1, t.2.set (atK t.1 x) (delT m h c x)) (atK t.1 x)
/-! ### sorted lists -/
theorem rises_cons {p : KV} {l : List KV} : Rises (p :: l) ↔ (∀ q ∈ l, p.1 < q.1) ∧ Rises l := List.pairwise_cons
theorem rises_app {a b : List KV} : Rises (a ++ b) ↔ Rises a ∧ Rises b ∧ ∀ p ∈ a, ∀ q ∈ b, p.1 < q.1 := List.pairwise_append
theorem getF_none {x : Nm} : ∀ {l : List KV}, (∀ p ∈ l, p.1 ≠ x) → getF x l = none
  | [], _ => rfl
  | p :: r, h => by rw [getF, if_neg (h p (by simp)), getF_none (fun q hq => h q (by simp [hq]))]
theorem getF_app_l {x : Nm} {a b : List KV} (h : ∀ p ∈ b, p.1 ≠ x) : getF x (a ++ b) = getF x a := by
  induction a with
  | nil => exact getF_none h
  | cons p a ih => rw [List.cons_append, getF, getF, ih]
theorem getF_app_r {x : Nm} {a b : List KV} (h : ∀ p ∈ a, p.1 ≠ x) : getF x (a ++ b) = getF x b := by
  induction a with
  | nil => rfl
  | cons p a ih => rw [List.cons_append, getF, if_neg (h p (by simp)), ih (fun q hq => h q (by simp [hq]))]
theorem putF_app_r {x : Nm} {v : ByteArray} {a b : List KV} (h : ∀ p ∈ a, p.1 < x) : putF x v (a ++ b) = a ++ putF x v b := by
  induction a with
  | nil => rfl
  | cons p a ih => rw [List.cons_append, putF, if_pos (h p (by simp)), ih (fun q hq => h q (by simp [hq])), List.cons_append]
theorem putF_app_l {x : Nm} {v : ByteArray} {a b : List KV} (h : ∀ p ∈ b, x < p.1) : putF x v (a ++ b) = putF x v a ++ b := by
  induction a with
  | nil =>
    cases b with
    | nil => rfl
    | cons q b =>
      have h1 := h q (by simp)
      show putF x v (q :: b) = (x, v) :: q :: b
      rw [putF, if_neg (fun h2 => nm_irrefl _ (nm_trans h1 h2)), if_neg (fun e => nm_irrefl x (by rw [e] at h1; exact h1))]
  | cons p a ih =>
    rw [List.cons_append, putF, putF]
    split
    · rw [ih]; rfl
    · split <;> rfl
theorem delF_none {x : Nm} : ∀ {l : List KV}, (∀ p ∈ l, p.1 ≠ x) → delF x l = l
  | [], _ => rfl
  | p :: r, h => by rw [delF, if_neg (h p (by simp)), delF_none (fun q hq => h q (by simp [hq]))]
theorem delF_app_r {x : Nm} {a b : List KV} (h : ∀ p ∈ a, p.1 ≠ x) : delF x (a ++ b) = a ++ delF x b := by
  induction a with
  | nil => rfl
  | cons p a ih => rw [List.cons_append, delF, if_neg (h p (by simp)), ih (fun q hq => h q (by simp [hq])), List.cons_append]
theorem delF_app_l {x : Nm} {a b : List KV} (h : ∀ p ∈ b, p.1 ≠ x) : delF x (a ++ b) = delF x a ++ b := by
  induction a with
  | nil => exact delF_none h
  | cons p a ih =>
    rw [List.cons_append, delF, delF]
    split
    · rfl
    · rw [ih]; rfl
theorem mem_putF {x : Nm} {v : ByteArray} {q : KV} : ∀ {l : List KV}, q ∈ putF x v l → q = (x, v) ∨ q ∈ l
  | [], h => by simp [putF] at h; exact .inl h
  | p :: r, h => by
    unfold putF at h
    split at h
    · rcases List.mem_cons.1 h with rfl | h
      · exact .inr (by simp)
      · exact (mem_putF h).imp id (fun h => by simp [h])
    · split at h
      · rcases List.mem_cons.1 h with rfl | h
        · exact .inl rfl
        · exact .inr (by simp [h])
      · rcases List.mem_cons.1 h with rfl | h
        · exact .inl rfl
        · exact .inr h
theorem putF_rises {x : Nm} {v : ByteArray} : ∀ {l : List KV}, Rises l → Rises (putF x v l)
  | [], _ => by simp [putF, Rises]
  | p :: r, h => by
    obtain ⟨h1, h2⟩ := rises_cons.1 h
    unfold putF
    split
    · rename_i h3
      refine rises_cons.2 ⟨fun q hq => ?_, putF_rises h2⟩
      rcases mem_putF hq with rfl | hq
      · exact h3
      · exact h1 q hq
    · rename_i h3
      split
      · rename_i h4
        exact rises_cons.2 ⟨fun q hq => by show x < q.1; rw [← h4]; exact h1 q hq, h2⟩
      · rename_i h4
        refine rises_cons.2 ⟨fun q hq => ?_, h⟩
        have h5 := nm_tri h3 h4
        rcases List.mem_cons.1 hq with rfl | hq
        · exact h5
        · exact nm_trans h5 (h1 q hq)
theorem delF_sub (x : Nm) : ∀ l : List KV, (delF x l).Sublist l
  | [] => List.Sublist.refl _
  | p :: r => by
    unfold delF
    split
    · exact (List.Sublist.refl r).cons p
    · exact (delF_sub x r).cons_cons p
theorem delF_rises {x : Nm} {l : List KV} (h : Rises l) : Rises (delF x l) := List.Pairwise.sublist (delF_sub x l) h
theorem putF_length {x : Nm} {v : ByteArray} : ∀ {l : List KV}, Rises l → (putF x v l).length = l.length + if (getF x l).isSome then 0 else 1
  | [], _ => rfl
  | p :: r, h => by
    obtain ⟨h1, h2⟩ := rises_cons.1 h
    unfold putF getF
    split
    · rename_i h3
      rw [if_neg (nm_ne h3), List.length_cons, putF_length h2, List.length_cons]; omega
    · rename_i h3
      split
      · rfl
      · rename_i h4
        have h5 := nm_tri h3 h4
        rw [getF_none (fun q hq e => by have := nm_trans h5 (h1 q hq); rw [e] at this; exact nm_irrefl _ this)]
        rfl
theorem delF_length {x : Nm} : ∀ {l : List KV}, (delF x l).length + (if (getF x l).isSome then 1 else 0) = l.length
  | [] => rfl
  | p :: r => by
    unfold delF getF
    split
    · rfl
    · have := delF_length (x := x) (l := r)
      rw [List.length_cons, List.length_cons]; omega
end Go.Proofs.YtmomohljnmopfaaX
end
section
namespace Go.Proofs.YtmomohljnmopfaaX
set_option linter.unusedVariables false
set_option linter.unusedSimpArgs false
def geO (lo : Option Nm) (x : Nm) : Prop := ∀ a, lo = some a → ¬ x < a
def gtO (lo : Option Nm) (x : Nm) : Prop := ∀ a, lo = some a → a < x
def ltH (x : Nm) (hi : Option Nm) : Prop := ∀ b, hi = some b → x < b
def Seps : Option Nm → List Nm → Option Nm → Prop
  | lo, [], hi => ∀ a, lo = some a → ltH a hi
  | lo, k :: ks, hi => gtO lo k ∧ Seps (some k) ks hi
def lastO : Option Nm → List Nm → Option Nm
  | lo, [] => lo
  | _, k :: ks => lastO (some k) ks
def headO : List Nm → Option Nm → Option Nm
  | [], hi => hi
  | k :: _, _ => some k
theorem seps_app {hi : Option Nm} {B : List Nm} : ∀ {lo : Option Nm} {A : List Nm}, Seps lo (A ++ B) hi ↔ Seps lo A (headO B hi) ∧ Seps (lastO lo A) B hi
  | lo, [] => by
    constructor
    · intro h
      refine ⟨?_, h⟩
      cases B with
      | nil => exact h
      | cons k B => exact fun a ha b hb => by cases hb; exact h.1 a ha
    · exact fun h => h.2
  | lo, k :: A => by
    show gtO lo k ∧ Seps (some k) (A ++ B) hi ↔ (gtO lo k ∧ Seps (some k) A (headO B hi)) ∧ Seps (lastO (some k) A) B hi
    rw [seps_app (lo := some k) (A := A), and_assoc]
theorem seps_end {e : Option Nm} {l : Nm} : ∀ {lo : Option Nm} {A : List Nm}, Seps lo A e → gtO (lastO lo A) l → Seps lo A (some l)
  | lo, [], h, k => fun a ha b hb => by cases hb; exact k a ha
  | lo, q :: A, h, k => ⟨h.1, seps_end h.2 k⟩
theorem seps_start {s hi : Option Nm} {l : Nm} : ∀ {B : List Nm}, Seps s B hi → ltH l (headO B hi) → Seps (some l) B hi
  | [], h, k => fun a ha => by cases ha; exact k
  | q :: B, h, k => ⟨fun a ha => by cases ha; exact k q rfl, h.2⟩
theorem seps_last {e : Option Nm} : ∀ {lo : Option Nm} {A : List Nm}, Seps lo A e → ∀ a, lastO lo A = some a → ltH a e
  | lo, [], h => h
  | lo, q :: A, h => seps_last (lo := some q) h.2
/-- The first separators are not beyond the last. -/
theorem seps_le {e : Option Nm} : ∀ {q : Nm} {A : List Nm}, Seps (some q) A e → ∀ a, lastO (some q) A = some a → ¬ a < q
  | q, [], h, a, ha => by cases ha; exact nm_irrefl q
  | q, k :: A, h, a, ha => fun h2 => by
    have h3 := seps_le h.2 a ha
    have h4 := h.1 q rfl
    exact h3 (nm_trans h2 h4)
section
variable {α : Type} {P : α → Option Nm → Option Nm → Prop}
def OkL (P : α → Option Nm → Option Nm → Prop) : List Nm → List α → Option Nm → Option Nm → Prop
  | [], [c], lo, hi => P c lo hi
  | k :: ks, c :: cs, lo, hi => P c lo (some k) ∧ OkL P ks cs (some k) hi
  | _, _, _, _ => False
def OkA (P : α → Option Nm → Option Nm → Prop) : Option Nm → List Nm → List α → Prop
  | _, [], [] => True
  | lo, k :: A, c :: C => P c lo (some k) ∧ OkA P (some k) A C
  | _, _, _ => False
def OkB (P : α → Option Nm → Option Nm → Prop) (hi : Option Nm) : List Nm → List α → Prop
  | [], [] => True
  | k :: B, c :: C => P c (some k) (headO B hi) ∧ OkB P hi B C
  | _, _ => False
theorem okL_len : ∀ {ks : List Nm} {cs : List α} {lo hi : Option Nm}, OkL P ks cs lo hi → cs.length = ks.length + 1
  | [], [], _, _, h => h.elim
  | [], [c], _, _, _ => rfl
  | [], c :: d :: cs, _, _, h => h.elim
  | k :: ks, [], _, _, h => h.elim
  | k :: ks, c :: cs, _, _, h => by rw [List.length_cons, List.length_cons, okL_len h.2]
theorem okB_L {hi : Option Nm} {k : Nm} : ∀ {B : List Nm} {c : α} {C : List α}, OkB P hi (k :: B) (c :: C) → OkL P B (c :: C) (some k) hi
  | [], c, [], h => h.1
  | [], c, d :: C, h => h.2.elim
  | q :: B, c, [], h => h.2.elim
  | q :: B, c, d :: C, h => ⟨h.1, okB_L h.2⟩
theorem okL_B {hi : Option Nm} {k : Nm} : ∀ {B : List Nm} {cs : List α}, OkL P B cs (some k) hi → OkB P hi (k :: B) cs
  | [], [], h => h.elim
  | [], [c], h => ⟨h, trivial⟩
  | [], c :: d :: cs, h => h.elim
  | q :: B, [], h => h.elim
  | q :: B, c :: cs, h => ⟨h.1, okL_B h.2⟩
theorem okL_zip {hi : Option Nm} {B : List Nm} {c : α} {C2 : List α} : ∀ {lo : Option Nm} {A : List Nm} {C1 : List α}, A.length = C1.length →
    (OkL P (A ++ B) (C1 ++ c :: C2) lo hi ↔ OkA P lo A C1 ∧ P c (lastO lo A) (headO B hi) ∧ OkB P hi B C2)
  | lo, [], [], _ => by
    cases B with
    | nil =>
      cases C2 with
      | nil => exact ⟨fun h => ⟨trivial, h, trivial⟩, fun h => h.2.1⟩
      | cons d C2 => exact ⟨fun h => h.elim, fun h => h.2.2.elim⟩
    | cons q B => exact ⟨fun h => ⟨trivial, h.1, okL_B h.2⟩, fun h => ⟨h.2.1, by
        cases C2 with
        | nil => exact h.2.2.elim
        | cons d C2 => exact okB_L h.2.2⟩⟩
  | lo, k :: A, d :: C1, hl => by
    have ih := okL_zip (hi := hi) (B := B) (c := c) (C2 := C2) (lo := some k) (A := A) (C1 := C1) (by simpa using hl)
    show P d lo (some k) ∧ OkL P (A ++ B) (C1 ++ c :: C2) (some k) hi ↔ (P d lo (some k) ∧ OkA P (some k) A C1) ∧ P c (lastO (some k) A) (headO B hi) ∧ OkB P hi B C2
    rw [ih, and_assoc]
  | lo, [], d :: C1, hl => by cases hl
  | lo, k :: A, [], hl => by cases hl
theorem okL_cut {hi : Option Nm} {k : Nm} {B : List Nm} {D : List α} : ∀ {lo : Option Nm} {A : List Nm} {C : List α}, C.length = A.length + 1 →
    (OkL P (A ++ k :: B) (C ++ D) lo hi ↔ OkL P A C lo (some k) ∧ OkL P B D (some k) hi)
  | lo, [], [c], _ => Iff.rfl
  | lo, q :: A, c :: C, hl => by
    have ih := okL_cut (hi := hi) (k := k) (B := B) (D := D) (lo := some q) (A := A) (C := C) (by simpa using hl)
    show P c lo (some q) ∧ OkL P (A ++ k :: B) (C ++ D) (some q) hi ↔ (P c lo (some q) ∧ OkL P A C (some q) (some k)) ∧ OkL P B D (some k) hi
    rw [ih, and_assoc]
  | lo, [], [], hl => by cases hl
  | lo, [], c :: d :: C, hl => by simp at hl
  | lo, q :: A, [], hl => by cases hl
theorem take_get {l : List α} {i : Nat} {c : α} (h : l[i]? = some c) : l = l.take i ++ c :: l.drop (i + 1) := by
  have hl := (List.getElem?_eq_some_iff.1 h).1
  have h2 : l.drop i = c :: l.drop (i + 1) := by
    rw [List.drop_eq_getElem_cons hl]
    have := (List.getElem?_eq_some_iff.1 h).2
    rw [this]
  rw [← h2, List.take_append_drop]
theorem set_is {l : List α} {i : Nat} {c : α} (h : i < l.length) : l.set i c = l.take i ++ c :: l.drop (i + 1) := by
  apply List.ext_getElem?
  intro j
  rcases Nat.lt_trichotomy j i with h1 | h1 | h1
  · rw [List.getElem?_set_ne (by omega), List.getElem?_append_left (by rw [List.length_take]; omega), List.getElem?_take, if_pos h1]
  · subst h1
    rw [List.getElem?_set_self h, List.getElem?_append_right (by rw [List.length_take]; omega), List.length_take, Nat.min_eq_left (by omega), Nat.sub_self]
    rfl
  · rw [List.getElem?_set_ne (by omega), List.getElem?_append_right (by rw [List.length_take]; omega), List.length_take, Nat.min_eq_left (by omega)]
    obtain ⟨d, rfl⟩ : ∃ d, j = i + (d + 1) := ⟨j - i - 1, by omega⟩
    rw [show i + (d + 1) - i = d + 1 by omega, List.getElem?_cons_succ, List.getElem?_drop, show i + 1 + d = i + (d + 1) by omega]
/-- A kid in its place. -/
theorem okL_at {ks : List Nm} {cs : List α} {lo hi : Option Nm} {i : Nat} (h : OkL P ks cs lo hi) (hi2 : i ≤ ks.length) :
    ∃ c, cs[i]? = some c ∧ OkA P lo (ks.take i) (cs.take i) ∧ P c (lastO lo (ks.take i)) (headO (ks.drop i) hi) ∧ OkB P hi (ks.drop i) (cs.drop (i + 1)) := by
  have hl := okL_len h
  obtain ⟨c, hc⟩ : ∃ c, cs[i]? = some c := ⟨_, List.getElem?_eq_getElem (by omega)⟩
  refine ⟨c, hc, ?_⟩
  have h9 := h
  rw [← List.take_append_drop i ks, take_get hc] at h9
  exact (okL_zip (by rw [List.length_take, List.length_take]; omega)).1 h9
end
theorem at_le : ∀ (ks : List Nm) (x : Nm), atK ks x ≤ ks.length
  | [], _ => Nat.le_refl _
  | k :: ks, x => by unfold atK; split; · exact Nat.zero_le _
                     · have := at_le ks x; rw [List.length_cons]; omega
theorem at_split {x : Nm} {hi : Option Nm} : ∀ {ks : List Nm} {lo : Option Nm}, geO lo x → ltH x hi → geO (lastO lo (ks.take (atK ks x))) x ∧ ltH x (headO (ks.drop (atK ks x)) hi)
  | [], lo, h, k => ⟨h, k⟩
  | q :: ks, lo, h, k => by
    unfold atK
    split
    · rename_i h1
      exact ⟨h, fun b hb => by cases hb; exact h1⟩
    · rename_i h1
      exact at_split (ks := ks) (lo := some q) (fun a ha => by cases ha; exact h1) k
def Ok (m : Nat) : (h : Nat) → T h → Option Nm → Option Nm → Prop
  | 0, l, lo, hi => Rises l ∧ ∀ p ∈ (show List KV from l), geO lo p.1 ∧ ltH p.1 hi
  | h + 1, t, lo, hi => Seps lo t.1 hi ∧ OkL (fun c lo hi => Ok m h c lo hi ∧ m / 2 ≤ sizeT h c ∧ sizeT h c ≤ m) t.1 t.2 lo hi
/-- A kid as it may be. -/
abbrev Kid (m h : Nat) (c : T h) (lo hi : Option Nm) : Prop := Ok m h c lo hi ∧ m / 2 ≤ sizeT h c ∧ sizeT h c ≤ m
def flats {h : Nat} (cs : List (T h)) : List KV := (cs.map (flat h)).flatten
theorem flats_app {h : Nat} (a b : List (T h)) : flats (a ++ b) = flats a ++ flats b := by simp [flats]
theorem flats_cons {h : Nat} (c : T h) (b : List (T h)) : flats (c :: b) = flat h c ++ flats b := by simp [flats]
def Within (l : List KV) (lo hi : Option Nm) : Prop := ∀ p ∈ l, geO lo p.1 ∧ ltH p.1 hi
section
variable {h : Nat} {P : T h → Option Nm → Option Nm → Prop} (hP : ∀ c lo hi, P c lo hi → Rises (flat h c) ∧ Within (flat h c) lo hi)
include hP
theorem okA_flat : ∀ {lo e : Option Nm} {A : List Nm} {C : List (T h)}, OkA P lo A C → Seps lo A e → Rises (flats C) ∧ Within (flats C) lo (lastO lo A) 
  | lo, e, [], [], _, _ => ⟨List.Pairwise.nil, fun p hp => by cases hp⟩
  | lo, e, k :: A, c :: C, h1, h2 => by
    obtain ⟨a1, a2⟩ := hP _ _ _ h1.1
    obtain ⟨b1, b2⟩ := okA_flat h1.2 h2.2
    rw [flats_cons]
    refine ⟨rises_app.2 ⟨a1, b1, fun p hp q hq => ?_⟩, fun p hp => ?_⟩
    · have h3 := (a2 p hp).2 k rfl
      have h4 := (b2 q hq).1 k rfl
      exact nm_lt_le h3 h4
    · rcases List.mem_append.1 hp with hp | hp
      · refine ⟨(a2 p hp).1, fun b hb => ?_⟩
        have h3 := (a2 p hp).2 k rfl
        exact nm_lt_le h3 (seps_le h2.2 b hb)
      · refine ⟨fun a ha => ?_, (b2 p hp).2⟩
        have h3 := h2.1 a ha
        have h4 := (b2 p hp).1 k rfl
        exact fun h5 => h4 (nm_trans h5 h3)
  | lo, e, [], c :: C, h1, _ => h1.elim
  | lo, e, k :: A, [], h1, _ => h1.elim
theorem okL_flat : ∀ {lo hi : Option Nm} {ks : List Nm} {cs : List (T h)}, OkL P ks cs lo hi → Seps lo ks hi → Rises (flats cs) ∧ Within (flats cs) lo hi
  | lo, hi, [], [c], h1, _ => by
    rw [flats_cons]
    show Rises (flat h c ++ []) ∧ Within (flat h c ++ []) lo hi
    rw [List.append_nil]
    exact hP _ _ _ h1
  | lo, hi, k :: ks, c :: cs, h1, h2 => by
    obtain ⟨a1, a2⟩ := hP _ _ _ h1.1
    obtain ⟨b1, b2⟩ := okL_flat h1.2 h2.2
    rw [flats_cons]
    refine ⟨rises_app.2 ⟨a1, b1, fun p hp q hq => ?_⟩, fun p hp => ?_⟩
    · exact nm_lt_le ((a2 p hp).2 k rfl) ((b2 q hq).1 k rfl)
    · rcases List.mem_append.1 hp with hp | hp
      · refine ⟨(a2 p hp).1, fun b hb => ?_⟩
        have h3 := (a2 p hp).2 k rfl
        have h4 : ltH k hi := by
          cases hk : lastO (some k) ks with
          | none =>
            have : ∀ (q : Nm) (A : List Nm), lastO (some q) A ≠ none := by
              intro q A
              induction A generalizing q with
              | nil => exact fun h => by cases h
              | cons r A ih => exact ih r
            exact absurd hk (this k ks)
          | some a =>
            intro b hb
            have h5 := seps_last h2.2 a hk b hb
            exact nm_le_lt (seps_le h2.2 a hk) h5
        exact nm_trans h3 (h4 b hb)
      · refine ⟨fun a ha => ?_, (b2 p hp).2⟩
        have h3 := h2.1 a ha
        have h4 := (b2 p hp).1 k rfl
        exact fun h5 => h4 (nm_trans h5 h3)
  | lo, hi, [], [], h1, _ => h1.elim
  | lo, hi, [], c :: d :: cs, h1, _ => h1.elim
  | lo, hi, k :: ks, [], h1, _ => h1.elim
theorem okB_flat {hi : Option Nm} : ∀ {B : List Nm} {C : List (T h)} {s : Option Nm}, OkB P hi B C → Seps s B hi → Rises (flats C) ∧ Within (flats C) (headO B hi) hi
  | [], [], s, _, _ => ⟨List.Pairwise.nil, fun p hp => by cases hp⟩
  | k :: B, c :: C, s, h1, h2 => okL_flat hP (okB_L h1) h2.2
  | [], c :: C, s, h1, _ => h1.elim
  | k :: B, [], s, h1, _ => h1.elim
end
theorem ok_flat {m : Nat} : ∀ {h : Nat} {t : T h} {lo hi : Option Nm}, Ok m h t lo hi → Rises (flat h t) ∧ Within (flat h t) lo hi
  | 0, t, lo, hi, h => h
  | h + 1, t, lo, hi, hk => okL_flat (P := Kid m h) (fun c lo hi hc => ok_flat hc.1) hk.2 hk.1
end Go.Proofs.YtmomohljnmopfaaX
end
section
namespace Go.Proofs.YtmomohljnmopfaaX
set_option linter.unusedVariables false
set_option linter.unusedSimpArgs false
theorem seps_gt {hi : Option Nm} : ∀ {lo : Option Nm} {ks : List Nm}, Seps lo ks hi → ∀ k ∈ ks, gtO lo k
  | lo, [], _, k, hk => by cases hk
  | lo, q :: ks, h, k, hk => by
    rcases List.mem_cons.1 hk with rfl | hk
    · exact h.1
    · exact fun a ha => nm_trans (h.1 a ha) (seps_gt h.2 k hk q rfl)
theorem seps_lt {hi : Option Nm} : ∀ {lo : Option Nm} {ks : List Nm}, Seps lo ks hi → ∀ k ∈ ks, ltH k hi
  | lo, [], _, k, hk => by cases hk
  | lo, q :: ks, h, k, hk => by
    rcases List.mem_cons.1 hk with rfl | hk
    · cases ks with
      | nil => exact h.2 k rfl
      | cons r ks => exact fun b hb => nm_trans (h.2.1 k rfl) (seps_lt h.2 r (by simp) b hb)
    · exact seps_lt h.2 k hk
theorem rises_mem {l : List KV} {lo hi : Option Nm} (h1 : Rises l) (h2 : Within l lo hi) {n : Nat} (h0 : 0 < n) (hn : n < l.length) :
    Rises (l.take n) ∧ Within (l.take n) lo (some (headK (l.drop n))) ∧ Rises (l.drop n) ∧ Within (l.drop n) (some (headK (l.drop n))) hi ∧ gtO lo (headK (l.drop n)) ∧ ltH (headK (l.drop n)) hi := by
  have e : l.take n ++ l.drop n = l := List.take_append_drop n l
  have hd : l.drop n = l[n] :: l.drop (n + 1) := List.drop_eq_getElem_cons hn
  have hk : headK (l.drop n) = (l[n]).1 := by rw [hd]; rfl
  rw [← e] at h1
  obtain ⟨a1, a2, a3⟩ := rises_app.1 h1
  have hm : ∀ p ∈ l.take n, p.1 < (l[n]).1 := fun p hp => a3 p hp _ (by rw [hd]; exact List.mem_cons_self)
  rw [hk]
  refine ⟨a1, fun p hp => ⟨(h2 p (List.mem_of_mem_take hp)).1, fun b hb => by cases hb; exact hm p hp⟩, a2, fun p hp => ⟨fun a ha => ?_, (h2 p (List.mem_of_mem_drop hp)).2⟩, fun a ha => ?_, (h2 _ (List.getElem_mem hn)).2⟩
  · cases ha
    rw [hd] at hp a2
    rcases List.mem_cons.1 hp with rfl | hp
    · exact nm_irrefl _
    · exact fun h9 => nm_irrefl _ (nm_trans h9 ((rises_cons.1 a2).1 p hp))
  · have h8 : l[0] ∈ l.take n := by
      rw [List.mem_iff_getElem?]
      exact ⟨0, by rw [List.getElem?_take, if_pos h0, List.getElem?_eq_getElem]⟩
    exact nm_le_lt ((h2 _ (List.mem_of_mem_take h8)).1 a ha) (hm _ h8)
theorem len_take (l : List KV) : (l.take (l.length / 2)).length = l.length / 2 := by rw [List.length_take]; omega
theorem len_drop (l : List KV) : (l.drop (l.length / 2)).length = l.length - l.length / 2 := List.length_drop
theorem split_ok {m : Nat} : ∀ {h : Nat} {t : T h} {lo hi : Option Nm}, Ok m h t lo hi → 2 ≤ sizeT h t →
    Ok m h (splitT h t).1 lo (some (splitT h t).2.1) ∧ Ok m h (splitT h t).2.2 (some (splitT h t).2.1) hi ∧ gtO lo (splitT h t).2.1 ∧ ltH (splitT h t).2.1 hi ∧ flat h (splitT h t).1 ++ flat h (splitT h t).2.2 = flat h t ∧ sizeT h (splitT h t).1 = sizeT h t / 2 ∧ sizeT h (splitT h t).2.2 = sizeT h t - sizeT h t / 2
  | 0, t, lo, hi, hk, h2 => by
    have h2' : 2 ≤ List.length (α := KV) t := h2
    obtain ⟨b1, b2, b3, b4, b5, b6⟩ := rises_mem (l := t) (n := List.length (α := KV) t / 2) hk.1 hk.2 (by omega) (by omega)
    refine ⟨⟨b1, b2⟩, ⟨b3, b4⟩, b5, b6, List.take_append_drop _ _, ?_, ?_⟩
    · exact len_take t
    · exact len_drop t
  | h + 1, (ks, cs), lo, hi, hk, h2 => by
    obtain ⟨hs, hL⟩ := hk
    have h2' : 2 ≤ cs.length := h2
    have hl : cs.length = ks.length + 1 := okL_len hL
    obtain ⟨j, hj⟩ : ∃ j, cs.length / 2 = j + 1 := ⟨cs.length / 2 - 1, by omega⟩
    have hjk : j < ks.length := by omega
    have hd : ks.drop j = ks[j] :: ks.drop (j + 1) := List.drop_eq_getElem_cons hjk
    have hg : ks.getD (cs.length / 2 - 1) [] = ks[j] := by rw [hj, Nat.add_sub_cancel, List.getD_eq_getElem?_getD, List.getElem?_eq_getElem hjk]; rfl
    have hs' := hs
    have hL' : OkL (Kid m h) ks cs lo hi := hL
    have ek : ks = ks.take j ++ ks[j] :: ks.drop (j + 1) := by rw [← hd, List.take_append_drop]
    rw [ek] at hs'
    obtain ⟨s1, s2⟩ := seps_app.1 hs'
    rw [ek, ← List.take_append_drop (j + 1) cs] at hL'
    obtain ⟨l1, l2⟩ := (okL_cut (by rw [List.length_take, List.length_take]; omega)).1 hL'
    have hmem : ks[j] ∈ ks := List.getElem_mem hjk
    show Ok m (h + 1) (ks.take (cs.length / 2 - 1), cs.take (cs.length / 2)) lo (some (ks.getD (cs.length / 2 - 1) [])) ∧ Ok m (h + 1) (ks.drop (cs.length / 2), cs.drop (cs.length / 2)) (some (ks.getD (cs.length / 2 - 1) [])) hi ∧ gtO lo (ks.getD (cs.length / 2 - 1) []) ∧ ltH (ks.getD (cs.length / 2 - 1) []) hi ∧ flats (cs.take (cs.length / 2)) ++ flats (cs.drop (cs.length / 2)) = flats cs ∧ (cs.take (cs.length / 2)).length = cs.length / 2 ∧ (cs.drop (cs.length / 2)).length = cs.length - cs.length / 2
    rw [hg, hj, Nat.add_sub_cancel, ← flats_app, List.take_append_drop, List.length_take, List.length_drop]
    exact ⟨⟨s1, l1⟩, ⟨s2.2, l2⟩, seps_gt hs _ hmem, seps_lt hs _ hmem, rfl, by omega, rfl⟩
/-- What a node's flat list is, a kid in its place. -/
theorem flats_at {h : Nat} {cs : List (T h)} {i : Nat} {c : T h} (hc : cs[i]? = some c) : flats cs = flats (cs.take i) ++ (flat h c ++ flats (cs.drop (i + 1))) := by
  rw [← flats_cons, ← flats_app, ← take_get hc]
theorem flats_set {h : Nat} {cs : List (T h)} {i : Nat} {c : T h} (hi : i < cs.length) : flats (cs.set i c) = flats (cs.take i) ++ (flat h c ++ flats (cs.drop (i + 1))) := by
  rw [← flats_cons, ← flats_app, ← set_is hi]
theorem ins_set {α : Type} {cs : List α} {i : Nat} {l r : α} (hi : i < cs.length) : insAt (i + 1) r (cs.set i l) = cs.take i ++ l :: r :: cs.drop (i + 1) := by
  unfold insAt
  have h1 : (cs.set i l).drop (i + 1) = cs.drop (i + 1) := by
    rw [List.drop_set]
    rw [if_pos (by omega)]
  have h2 : (cs.set i l).take (i + 1) = cs.take i ++ [l] := by
    rw [set_is hi, List.take_append, List.length_take, Nat.min_eq_left (by omega), List.take_of_length_le (by rw [List.length_take]; omega), show i + 1 - i = 1 by omega]
    rfl
  rw [h1, h2, List.append_assoc]
  rfl
section
variable {m h : Nat} {ks : List Nm} {cs : List (T h)} {lo hi : Option Nm} {x : Nm}
/-- The kids to the left of a key's place, and those to the right. -/
theorem sides (hs : Seps lo ks hi) (hlo : geO lo x) (hhi : ltH x hi) (ha : OkA (Kid m h) lo (ks.take (atK ks x)) (cs.take (atK ks x))) (hb : OkB (Kid m h) hi (ks.drop (atK ks x)) (cs.drop (atK ks x + 1))) :
    (∀ p ∈ flats (cs.take (atK ks x)), p.1 < x) ∧ ∀ p ∈ flats (cs.drop (atK ks x + 1)), x < p.1 := by
  obtain ⟨a1, a2⟩ := at_split (ks := ks) (lo := lo) hlo hhi
  have hs' := hs
  rw [← List.take_append_drop (atK ks x) ks] at hs'
  obtain ⟨s1, s2⟩ := seps_app.1 hs'
  have hP : ∀ c lo hi, Kid m h c lo hi → Rises (flat h c) ∧ Within (flat h c) lo hi := fun c lo hi hc => ok_flat hc.1
  refine ⟨fun p hp => ?_, fun p hp => ?_⟩
  · have h1 := (okA_flat hP ha s1).2 p hp
    cases hk : ks.take (atK ks x) with
    | nil =>
      rw [hk] at ha
      cases hc : cs.take (atK ks x) with
      | nil => rw [hc] at hp; cases hp
      | cons d C => rw [hc] at ha; exact ha.elim
    | cons q A =>
      rw [hk] at h1 a1
      obtain ⟨b, hb⟩ : ∃ b, lastO (some q) A = some b := by
        cases h9 : lastO (some q) A with
        | some b => exact ⟨b, rfl⟩
        | none =>
          exfalso
          have : ∀ (q : Nm) (A : List Nm), lastO (some q) A ≠ none := by
            intro q A
            induction A generalizing q with
            | nil => exact fun h => by cases h
            | cons r A ih => exact ih r
          exact this q A h9
      exact nm_lt_le (h1.2 b hb) (a1 b hb)
  · have h1 := (okB_flat hP hb s2).2 p hp
    cases hk : ks.drop (atK ks x) with
    | nil =>
      rw [hk] at hb
      cases hc : cs.drop (atK ks x + 1) with
      | nil => rw [hc] at hp; cases hp
      | cons d C => rw [hc] at hb; exact hb.elim
    | cons q B =>
      rw [hk] at h1 a2
      exact nm_lt_le (a2 q rfl) (h1.1 q rfl)
end
theorem putT_some {m h : Nat} (t : T (h + 1)) {x : Nm} {v : ByteArray} {c : T h} (hc : t.2[atK t.1 x]? = some c) :
    putT m (h + 1) t x v = if m < sizeT h (putT m h c x v) then (insAt (atK t.1 x) (splitT h (putT m h c x v)).2.1 t.1, insAt (atK t.1 x + 1) (splitT h (putT m h c x v)).2.2 (t.2.set (atK t.1 x) (splitT h (putT m h c x v)).1)) else (t.1, t.2.set (atK t.1 x) (putT m h c x v)) := by
  conv => lhs; unfold putT
  simp only [hc]
  rfl
theorem put_ok {m : Nat} (hm : 4 ≤ m) : ∀ {h : Nat} {t : T h} {lo hi : Option Nm} {x : Nm} {v : ByteArray}, Ok m h t lo hi → geO lo x → ltH x hi →
    Ok m h (putT m h t x v) lo hi ∧ flat h (putT m h t x v) = putF x v (flat h t) ∧ sizeT h t ≤ sizeT h (putT m h t x v) ∧ sizeT h (putT m h t x v) ≤ sizeT h t + 1
  | 0, t, lo, hi, x, v, hk, hlo, hhi => by
    have hl : (putF x v (show List KV from t)).length = _ := putF_length hk.1
    refine ⟨⟨putF_rises hk.1, fun p hp => ?_⟩, rfl, ?_, ?_⟩
    · rcases mem_putF hp with rfl | hp
      · exact ⟨hlo, hhi⟩
      · exact hk.2 p hp
    · show List.length (α := KV) t ≤ (putF x v (show List KV from t)).length
      rw [hl]; exact Nat.le_add_right _ _
    · show (putF x v (show List KV from t)).length ≤ List.length (α := KV) t + 1
      rw [hl]
      split
      · exact Nat.le_succ _
      · exact Nat.le_refl _
  | h + 1, (ks, cs), lo, hi, x, v, hk, hlo, hhi => by
    obtain ⟨hs, hL⟩ := hk
    have hs1 : Seps lo ks hi := hs
    have hL1 : OkL (Kid m h) ks cs lo hi := hL
    have hl : cs.length = ks.length + 1 := okL_len hL1
    have hile := at_le ks x
    obtain ⟨c, hc, ha, hcc, hb⟩ := okL_at hL1 hile
    obtain ⟨p1, p2⟩ := sides hs1 hlo hhi ha hb
    obtain ⟨a1, a2⟩ := at_split (ks := ks) (lo := lo) hlo hhi
    obtain ⟨i1, i2, i3, i4⟩ := put_ok hm (v := v) hcc.1 a1 a2
    have hcl : atK ks x < cs.length := by omega
    have hta : (ks.take (atK ks x)).length = (cs.take (atK ks x)).length := by rw [List.length_take, List.length_take]; omega
    have hs' := hs1
    rw [← List.take_append_drop (atK ks x) ks] at hs'
    obtain ⟨s1, s2⟩ := seps_app.1 hs'
    have hF : putF x v (flats cs) = flats (cs.take (atK ks x)) ++ (putF x v (flat h c) ++ flats (cs.drop (atK ks x + 1))) := by
      rw [flats_at hc, putF_app_r p1, putF_app_l p2]
    rw [putT_some (m := m) (v := v) (ks, cs) hc]
    by_cases hb1 : m < sizeT h (putT m h c x v)
    · rw [if_pos hb1]
      obtain ⟨t1, t2, t3, t4, t5, t6, t7⟩ := split_ok i1 (by omega)
      generalize putT m h c x v = c' at *
      generalize splitT h c' = sp at *
      have e1 : insAt (atK ks x) sp.2.1 ks = ks.take (atK ks x) ++ sp.2.1 :: ks.drop (atK ks x) := rfl
      have e2 := ins_set (l := sp.1) (r := sp.2.2) hcl
      show (Seps lo (insAt (atK ks x) sp.2.1 ks) hi ∧ OkL (Kid m h) (insAt (atK ks x) sp.2.1 ks) (insAt (atK ks x + 1) sp.2.2 (cs.set (atK ks x) sp.1)) lo hi) ∧ flats (insAt (atK ks x + 1) sp.2.2 (cs.set (atK ks x) sp.1)) = putF x v (flats cs) ∧ cs.length ≤ (insAt (atK ks x + 1) sp.2.2 (cs.set (atK ks x) sp.1)).length ∧ (insAt (atK ks x + 1) sp.2.2 (cs.set (atK ks x) sp.1)).length ≤ cs.length + 1
      rw [e1, e2]
      refine ⟨⟨seps_app.2 ⟨seps_end s1 t3, t3, seps_start s2 t4⟩, (okL_zip hta).2 ⟨ha, ⟨t1, by omega, by omega⟩, ⟨t2, by omega, by omega⟩, hb⟩⟩, ?_, ?_, ?_⟩
      · rw [flats_app, flats_cons, flats_cons, hF, ← List.append_assoc (flat h sp.1), t5, i2]
      · simp only [List.length_append, List.length_cons, List.length_take, List.length_drop]; omega
      · simp only [List.length_append, List.length_cons, List.length_take, List.length_drop]; omega
    · rw [if_neg hb1]
      show (Seps lo ks hi ∧ OkL (Kid m h) ks (cs.set (atK ks x) (putT m h c x v)) lo hi) ∧ flats (cs.set (atK ks x) (putT m h c x v)) = putF x v (flats cs) ∧ cs.length ≤ (cs.set (atK ks x) (putT m h c x v)).length ∧ (cs.set (atK ks x) (putT m h c x v)).length ≤ cs.length + 1
      refine ⟨⟨hs1, ?_⟩, ?_, by rw [List.length_set]; exact Nat.le_refl _, by rw [List.length_set]; exact Nat.le_succ _⟩
      · have h9 := (okL_zip (P := Kid m h) hta).2 ⟨ha, (⟨i1, by omega, by omega⟩ : Kid m h (putT m h c x v) _ _), hb⟩
        rw [List.take_append_drop, ← set_is hcl] at h9
        exact h9
      · rw [flats_set hcl, hF, i2]
end Go.Proofs.YtmomohljnmopfaaX
end
section
namespace Go.Proofs.YtmomohljnmopfaaX
set_option linter.unusedVariables false
set_option linter.unusedSimpArgs false
theorem lastO_snoc {k : Nm} : ∀ {lo : Option Nm} {A : List Nm}, lastO lo (A ++ [k]) = some k
  | lo, [] => rfl
  | lo, q :: A => lastO_snoc (lo := some q) (A := A)
theorem okA_snoc {α : Type} {P : α → Option Nm → Option Nm → Prop} {k : Nm} {l : α} : ∀ {lo : Option Nm} {A : List Nm} {C : List α}, A.length = C.length → (OkA P lo (A ++ [k]) (C ++ [l]) ↔ OkA P lo A C ∧ P l (lastO lo A) (some k))
  | lo, [], [], _ => ⟨fun h => ⟨trivial, h.1⟩, fun h => ⟨h.2, trivial⟩⟩
  | lo, q :: A, c :: C, h => by
    have ih := okA_snoc (P := P) (k := k) (l := l) (lo := some q) (A := A) (C := C) (by simpa using h)
    show P c lo (some q) ∧ OkA P (some q) (A ++ [k]) (C ++ [l]) ↔ (P c lo (some q) ∧ OkA P (some q) A C) ∧ P l (lastO (some q) A) (some k)
    rw [ih, and_assoc]
  | lo, [], c :: C, h => by cases h
  | lo, q :: A, [], h => by cases h
/-- Two kids beside one another are turned as they may be. -/
structure Turned (m h : Nat) (lo hi : Option Nm) (l : T h) (s : Nm) (r : T h) (p : T h × Nm × T h) : Prop where
  left : Ok m h p.1 lo (some p.2.1)
  right : Ok m h p.2.2 (some p.2.1) hi
  gt : gtO lo p.2.1
  lt : ltH p.2.1 hi
  same : flat h p.1 ++ flat h p.2.2 = flat h l ++ flat h r
theorem list_last {α : Type} {l : List α} (h : 0 < l.length) : ∃ a x, l = a ++ [x] := by
  rcases List.eq_nil_or_concat l with rfl | ⟨a, x, rfl⟩
  · cases h
  · exact ⟨a, x, List.concat_eq_append⟩
theorem borR0 (a : List KV) (x : KV) (s : Nm) (r : List KV) : borR 0 (a ++ [x]) s r = (a, x.1, x :: r) := by
  show (List.dropLast (a ++ [x]), headK ((a ++ [x]).drop ((a ++ [x]).length - 1)), (a ++ [x]).drop ((a ++ [x]).length - 1) ++ r) = _
  rw [List.dropLast_concat, List.length_append, List.length_singleton, Nat.add_sub_cancel, List.drop_left]
  rfl
theorem borRS {h : Nat} (ka : List Nm) (k : Nm) (ca : List (T h)) (c : T h) (s : Nm) (r : T (h + 1)) : borR (h + 1) (ka ++ [k], ca ++ [c]) s r = ((ka, ca), k, (s :: r.1, c :: r.2)) := by
  show (((ka ++ [k]).dropLast, (ca ++ [c]).dropLast), (ka ++ [k]).getD ((ka ++ [k]).length - 1) [], (s :: r.1, (ca ++ [c]).drop ((ca ++ [c]).length - 1) ++ r.2)) = _
  rw [List.dropLast_concat, List.dropLast_concat, List.length_append, List.length_append, List.length_singleton, List.length_singleton, Nat.add_sub_cancel, Nat.add_sub_cancel, List.drop_left, List.getD_eq_getElem?_getD, List.getElem?_append_right (Nat.le_refl _), Nat.sub_self]
  rfl
theorem of_eq_pair {α : Type} {p q : α} (Q : α → Prop) (h : p = q) (hq : Q q) : Q p := h ▸ hq
theorem borR_ok {m : Nat} : ∀ {h : Nat} {l r : T h} {s : Nm} {lo hi : Option Nm}, Ok m h l lo (some s) → Ok m h r (some s) hi → gtO lo s → ltH s hi → 2 ≤ sizeT h l →
    Turned m h lo hi l s r (borR h l s r) ∧ sizeT h (borR h l s r).1 + 1 = sizeT h l ∧ sizeT h (borR h l s r).2.2 = sizeT h r + 1
  | 0, l, r, s, lo, hi, hl, hr, hg, hh, h2 => by
    obtain ⟨a, x, rfl⟩ := list_last (α := KV) (l := l) (Nat.lt_of_lt_of_le (by decide : 0 < 2) h2)
    have h2' : 2 ≤ (a ++ [x]).length := h2
    rw [List.length_append, List.length_singleton] at h2'
    obtain ⟨a1, a2, a3⟩ := rises_app.1 (show Rises (a ++ [x]) from hl.1)
    have hw : Within (a ++ [x]) lo (some s) := hl.2
    have hx := hw x (by simp)
    have hrw : Within r (some s) hi := hr.2
    refine of_eq_pair (fun p => Turned m 0 lo hi (a ++ [x] : List KV) s r p ∧ sizeT 0 p.1 + 1 = sizeT 0 (a ++ [x] : List KV) ∧ sizeT 0 p.2.2 = sizeT 0 r + 1) (borR0 a x s r) ?_
    refine ⟨⟨⟨a1, fun p hp => ⟨(hw p (by simp [hp])).1, fun b hb => by cases hb; exact a3 p hp x (by simp)⟩⟩, ⟨rises_cons.2 ⟨fun q hq => nm_lt_le (hx.2 s rfl) ((hrw q hq).1 s rfl), hr.1⟩, fun p hp => ?_⟩, fun b hb => ?_, fun b hb => nm_trans (hx.2 s rfl) (hh b hb), ?_⟩, ?_, ?_⟩
    · rcases List.mem_cons.1 hp with rfl | hp
      · exact ⟨fun a ha => by cases ha; exact nm_irrefl _, fun b hb => nm_trans (hx.2 s rfl) (hh b hb)⟩
      · refine ⟨fun a ha => ?_, (hrw p hp).2⟩
        cases ha
        exact fun h9 => (hrw p hp).1 s rfl (nm_trans h9 (hx.2 s rfl))
    · cases a with
      | nil => simp at h2'
      | cons y a => exact nm_le_lt ((hw y (by simp)).1 b hb) (a3 y (by simp) x (by simp))
    · exact (List.append_assoc (as := a) (bs := [x]) (cs := (show List KV from r))).symm
    · show a.length + 1 = (a ++ [x]).length
      rw [List.length_append]; rfl
    · rfl
  | h + 1, (lk, lc), (rk, rc), s, lo, hi, hl, hr, hg, hh, h2 => by
    obtain ⟨hs, hL⟩ := hl
    obtain ⟨rs, rL⟩ := hr
    have hlen : lc.length = lk.length + 1 := okL_len hL
    have h2' : 2 ≤ lc.length := h2
    obtain ⟨ca, c, rfl⟩ := list_last (l := lc) (by omega)
    obtain ⟨ka, k, rfl⟩ := list_last (l := lk) (by omega)
    rw [List.length_append, List.length_append, List.length_singleton, List.length_singleton] at hlen
    have hL' : OkL (Kid m h) (ka ++ k :: []) (ca ++ [c]) lo (some s) := hL
    obtain ⟨l1, l2⟩ := (okL_cut (by omega)).1 hL'
    have hs' : Seps lo (ka ++ k :: []) (some s) := hs
    obtain ⟨s1, s2⟩ := seps_app.1 hs'
    have hks : k < s := s2.2 k rfl s rfl
    refine of_eq_pair (fun p => Turned m (h + 1) lo hi (ka ++ [k], ca ++ [c]) s (rk, rc) p ∧ sizeT (h + 1) p.1 + 1 = (ca ++ [c]).length ∧ sizeT (h + 1) p.2.2 = rc.length + 1) (borRS ka k ca c s (rk, rc)) ?_
    refine ⟨⟨⟨s1, l1⟩, ⟨⟨fun a ha => by cases ha; exact hks, rs⟩, ⟨l2, rL⟩⟩, seps_gt hs k (by simp), fun b hb => nm_trans hks (hh b hb), ?_⟩, ?_, ?_⟩
    · show flats ca ++ flats (c :: rc) = flats (ca ++ [c]) ++ flats rc
      rw [flats_app, flats_cons, flats_cons, List.append_assoc, List.append_assoc]
      rfl
    · show ca.length + 1 = (ca ++ [c]).length
      rw [List.length_append]; rfl
    · rfl
theorem borL_ok {m : Nat} : ∀ {h : Nat} {l r : T h} {s : Nm} {lo hi : Option Nm}, Ok m h l lo (some s) → Ok m h r (some s) hi → gtO lo s → ltH s hi → 2 ≤ sizeT h r →
    Turned m h lo hi l s r (borL h l s r) ∧ sizeT h (borL h l s r).1 = sizeT h l + 1 ∧ sizeT h (borL h l s r).2.2 + 1 = sizeT h r
  | 0, l, r, s, lo, hi, hl, hr, hg, hh, h2 => by
    have h2' : 2 ≤ List.length (α := KV) r := h2
    obtain ⟨p, q, w, rfl⟩ : ∃ p q w, (show List KV from r) = p :: q :: w := by
      match r, h2' with
      | p :: q :: w, _ => exact ⟨p, q, w, rfl⟩
    have hrw : Within (p :: q :: w) (some s) hi := hr.2
    obtain ⟨b1, b2⟩ := rises_cons.1 (show Rises (p :: q :: w) from hr.1)
    obtain ⟨b3, b4⟩ := rises_cons.1 b2
    have hlw : Within l lo (some s) := hl.2
    have hpq : p.1 < q.1 := b1 q (by simp)
    have hsp := (hrw p (by simp)).1 s rfl
    have hsq : s < q.1 := nm_le_lt hsp hpq
    refine ⟨⟨⟨rises_app.2 ⟨hl.1, List.pairwise_singleton _ _, fun y hy z hz => ?_⟩, fun y hy => ?_⟩, ⟨b2, fun y hy => ⟨fun a ha => ?_, (hrw y (List.mem_cons_of_mem _ hy)).2⟩⟩, fun a ha => nm_trans (hg a ha) hsq, (hrw q (by simp)).2, ?_⟩, ?_, rfl⟩
    · have : z = p := by simpa using hz
      subst this
      exact nm_lt_le ((hlw y hy).2 s rfl) hsp
    · rcases List.mem_append.1 hy with hy | hy
      · exact ⟨(hlw y hy).1, fun b hb => by cases hb; exact nm_trans ((hlw y hy).2 s rfl) hsq⟩
      · have : y = p := by simpa using hy
        subst this
        exact ⟨fun a ha h9 => nm_irrefl a (nm_trans (nm_lt_le (hg a ha) hsp) h9), fun b hb => by cases hb; exact hpq⟩
    · cases ha
      rcases List.mem_cons.1 hy with rfl | hy
      · exact nm_irrefl _
      · exact fun h9 => nm_irrefl _ (nm_trans h9 (b3 y hy))
    · exact List.append_assoc (as := (show List KV from l)) (bs := [p]) (cs := q :: w)
    · show (List.append (α := KV) l [p]).length = List.length (α := KV) l + 1
      exact List.length_append
  | h + 1, (lk, lc), (rk, rc), s, lo, hi, hl, hr, hg, hh, h2 => by
    obtain ⟨hs, hL⟩ := hl
    obtain ⟨rs, rL⟩ := hr
    have hlen : rc.length = rk.length + 1 := okL_len rL
    have h2' : 2 ≤ rc.length := h2
    obtain ⟨c, w, rfl⟩ : ∃ c w, rc = c :: w := by
      match rc, h2' with
      | c :: w, _ => exact ⟨c, w, rfl⟩
    obtain ⟨k, kw, rfl⟩ : ∃ k kw, rk = k :: kw := by
      match rk, hlen with
      | k :: kw, _ => exact ⟨k, kw, rfl⟩
      | [], h9 => rw [List.length_cons] at h2' h9; simp at h9; subst h9; simp at h2'
    have rs' : gtO (some s) k ∧ Seps (some k) kw hi := rs
    have rL' : Kid m h c (some s) (some k) ∧ OkL (Kid m h) kw w (some k) hi := rL
    have hL' : OkL (Kid m h) lk lc lo (some s) := hL
    have hs' : Seps lo lk (some s) := hs
    have hsk : s < k := rs'.1 s rfl
    refine ⟨⟨⟨seps_app.2 ⟨hs', fun a ha => seps_last hs' a ha s rfl, fun a ha b hb => by cases ha; cases hb; exact hsk⟩, (okL_cut (okL_len hL')).2 ⟨hL', rL'.1⟩⟩, ⟨rs'.2, rL'.2⟩, fun a ha => nm_trans (hg a ha) hsk, seps_lt rs k (by simp), ?_⟩, ?_, rfl⟩
    · show flats (lc ++ [c]) ++ flats w = flats lc ++ flats (c :: w)
      rw [flats_app, flats_cons, flats_cons, List.append_assoc, List.append_assoc]
      rfl
    · show (lc ++ [c]).length = lc.length + 1
      exact List.length_append
theorem mer_ok {m : Nat} : ∀ {h : Nat} {l r : T h} {s : Nm} {lo hi : Option Nm}, Ok m h l lo (some s) → Ok m h r (some s) hi → gtO lo s → ltH s hi →
    Ok m h (merT h l s r) lo hi ∧ flat h (merT h l s r) = flat h l ++ flat h r ∧ sizeT h (merT h l s r) = sizeT h l + sizeT h r
  | 0, l, r, s, lo, hi, hl, hr, hg, hh => by
    have hlw : Within l lo (some s) := hl.2
    have hrw : Within r (some s) hi := hr.2
    refine ⟨⟨rises_app.2 ⟨hl.1, hr.1, fun p hp q hq => nm_lt_le ((hlw p hp).2 s rfl) ((hrw q hq).1 s rfl)⟩, fun p hp => ?_⟩, rfl, ?_⟩
    · rcases List.mem_append.1 hp with hp | hp
      · exact ⟨(hlw p hp).1, fun b hb => nm_trans ((hlw p hp).2 s rfl) (hh b hb)⟩
      · exact ⟨fun a ha h9 => (hrw p hp).1 s rfl (nm_trans h9 (hg a ha)), (hrw p hp).2⟩
    · show (List.append (α := KV) l r).length = List.length (α := KV) l + List.length (α := KV) r
      exact List.length_append
  | h + 1, (lk, lc), (rk, rc), s, lo, hi, hl, hr, hg, hh => by
    obtain ⟨hs, hL⟩ := hl
    obtain ⟨rs, rL⟩ := hr
    have hL' : OkL (Kid m h) lk lc lo (some s) := hL
    have hs' : Seps lo lk (some s) := hs
    refine ⟨⟨seps_app.2 ⟨hs', fun a ha => seps_last hs' a ha s rfl, rs⟩, (okL_cut (okL_len hL')).2 ⟨hL', rL⟩⟩, ?_, ?_⟩
    · show flats (lc ++ rc) = flats lc ++ flats rc
      exact flats_app _ _
    · show (lc ++ rc).length = lc.length + rc.length
      exact List.length_append
/-! ### in a node -/
theorem at_mid {α : Type} {C1 C2 : List α} {l : α} : (C1 ++ l :: C2)[C1.length]? = some l := by rw [List.getElem?_append_right (Nat.le_refl _), Nat.sub_self]; rfl
theorem at_mid2 {α : Type} {C1 C2 : List α} {l r : α} : (C1 ++ l :: r :: C2)[C1.length + 1]? = some r := by rw [List.getElem?_append_right (by omega), show C1.length + 1 - C1.length = 1 by omega]; rfl
theorem set_mid {α : Type} {C1 C2 : List α} {l x : α} : (C1 ++ l :: C2).set C1.length x = C1 ++ x :: C2 := by rw [List.set_append_right _ _ (Nat.le_refl _), Nat.sub_self]; rfl
theorem set_mid2 {α : Type} {C1 C2 : List α} {l r x : α} : (C1 ++ l :: r :: C2).set (C1.length + 1) x = C1 ++ l :: x :: C2 := by rw [List.set_append_right _ _ (by omega), show C1.length + 1 - C1.length = 1 by omega]; rfl
theorem del_mid {α : Type} {C1 C2 : List α} {l : α} : delAt C1.length (C1 ++ l :: C2) = C1 ++ C2 := by
  unfold delAt
  rw [List.take_left, show C1.length + 1 = C1.length + 1 from rfl, ← List.drop_drop, List.drop_left]
  rfl
theorem del_mid2 {α : Type} {C1 C2 : List α} {l r : α} : delAt (C1.length + 1) (C1 ++ l :: r :: C2) = C1 ++ l :: C2 := by
  have h := del_mid (C1 := C1 ++ [l]) (l := r) (C2 := C2)
  rw [List.length_append, List.append_assoc, List.append_assoc] at h
  exact h
section
variable {m h : Nat} {A B : List Nm} {C1 C2 : List (T h)} {l r : T h} {s : Nm} {lo hi : Option Nm}
theorem pairT_is (hA : A.length = C1.length) (f : T h → Nm → T h → T h × Nm × T h) : pairT (h := h) (A ++ s :: B, C1 ++ l :: r :: C2) A.length f = (A ++ (f l s r).2.1 :: B, C1 ++ (f l s r).1 :: (f l s r).2.2 :: C2) := by
  unfold pairT
  show (match (C1 ++ l :: r :: C2)[A.length]?, (A ++ s :: B)[A.length]?, (C1 ++ l :: r :: C2)[A.length + 1]? with
    | some l, some s, some r => (((A ++ _ :: B).set A.length (f l s r).2.1, ((C1 ++ _ :: _ :: C2).set A.length (f l s r).1).set (A.length + 1) (f l s r).2.2) : T (h + 1))
    | _, _, _ => _) = _
  rw [hA, at_mid, at_mid2, ← hA, at_mid]
  simp only
  rw [set_mid, hA, set_mid, set_mid2]
theorem mergeT_is (hA : A.length = C1.length) : mergeT (h := h) (A ++ s :: B, C1 ++ l :: r :: C2) A.length = (A ++ B, C1 ++ merT h l s r :: C2) := by
  unfold mergeT
  show (match (C1 ++ l :: r :: C2)[A.length]?, (A ++ s :: B)[A.length]?, (C1 ++ l :: r :: C2)[A.length + 1]? with
    | some l, some s, some r => ((delAt A.length (A ++ _ :: B), delAt (A.length + 1) ((C1 ++ _ :: _ :: C2).set A.length (merT h l s r))) : T (h + 1))
    | _, _, _ => _) = _
  rw [hA, at_mid, at_mid2, ← hA, at_mid]
  simp only
  rw [del_mid, hA, set_mid, del_mid2]
theorem node_pair {p : T h × Nm × T h} (hA : A.length = C1.length) (hs : Seps lo (A ++ s :: B) hi) (ha : OkA (Kid m h) lo A C1) (hb : OkB (Kid m h) hi B C2) (ht : Turned m h (lastO lo A) (headO B hi) l s r p)
    (h1 : m / 2 ≤ sizeT h p.1 ∧ sizeT h p.1 ≤ m) (h2 : m / 2 ≤ sizeT h p.2.2 ∧ sizeT h p.2.2 ≤ m) : Ok m (h + 1) (A ++ p.2.1 :: B, C1 ++ p.1 :: p.2.2 :: C2) lo hi ∧ flats (C1 ++ p.1 :: p.2.2 :: C2) = flats (C1 ++ l :: r :: C2) := by
  obtain ⟨s1, s2⟩ := seps_app.1 hs
  refine ⟨⟨seps_app.2 ⟨seps_end s1 ht.gt, ht.gt, seps_start s2.2 ht.lt⟩, (okL_zip hA).2 ⟨ha, ⟨ht.left, h1⟩, ⟨ht.right, h2⟩, hb⟩⟩, ?_⟩
  rw [flats_app, flats_app, flats_cons, flats_cons, flats_cons, flats_cons, ← List.append_assoc (flat h p.1), ht.same, List.append_assoc]
theorem node_merge (hA : A.length = C1.length) (hs : Seps lo (A ++ s :: B) hi) (ha : OkA (Kid m h) lo A C1) (hb : OkB (Kid m h) hi B C2) (hl : Ok m h l (lastO lo A) (some s)) (hr : Ok m h r (some s) (headO B hi))
    (h1 : m / 2 ≤ sizeT h l + sizeT h r ∧ sizeT h l + sizeT h r ≤ m) : Ok m (h + 1) (A ++ B, C1 ++ merT h l s r :: C2) lo hi ∧ flats (C1 ++ merT h l s r :: C2) = flats (C1 ++ l :: r :: C2) := by
  obtain ⟨s1, s2⟩ := seps_app.1 hs
  have hlt : ltH s (headO B hi) := by
    cases B with
    | nil => exact fun b hb => s2.2 s rfl b hb
    | cons q B => exact fun b hb => by cases hb; exact s2.2.1 s rfl
  obtain ⟨q1, q2, q3⟩ := mer_ok hl hr s2.1 hlt
  have hAB : Seps lo (A ++ B) hi := by
    refine seps_app.2 ⟨?_, ?_⟩
    · cases B with
      | nil =>
        cases hi with
        | none =>
          have : ∀ {lo : Option Nm} {A : List Nm} {e : Option Nm}, Seps lo A e → Seps lo A none := by
            intro lo A e h
            induction A generalizing lo with
            | nil => exact fun a ha b hb => by cases hb
            | cons q A ih => exact ⟨h.1, ih h.2⟩
          exact this s1
        | some b => exact seps_end s1 (fun a ha => nm_trans (s2.1 a ha) (hlt b rfl))
      | cons q B => exact seps_end s1 (fun a ha => nm_trans (s2.1 a ha) (hlt q rfl))
    · cases B with
      | nil => exact fun a ha b hb => nm_trans (s2.1 a ha) (hlt b hb)
      | cons q B => exact ⟨fun a ha => nm_trans (s2.1 a ha) (hlt q rfl), s2.2.2⟩
  refine ⟨⟨hAB, (okL_zip hA).2 ⟨ha, ⟨q1, by omega, by omega⟩, hb⟩⟩, ?_⟩
  rw [flats_app, flats_app, flats_cons, flats_cons, flats_cons, q2, List.append_assoc]
end
end Go.Proofs.YtmomohljnmopfaaX
end
section
namespace Go.Proofs.YtmomohljnmopfaaX
set_option linter.unusedVariables false
set_option linter.unusedSimpArgs false
/-- A node of keys and kids. -/
def mkT {h : Nat} (ks : List Nm) (cs : List (T h)) : T (h + 1) := (ks, cs)
section
variable {m h : Nat} {A B : List Nm} {C1 C2 : List (T h)} {c : T h} {lo hi : Option Nm}
theorem sizeAt_mid {ks : List Nm} {i : Nat} (hi : i = C1.length) : sizeAt (h := h) (mkT ks (C1 ++ c :: C2)) i = sizeT h c := by
  subst hi
  unfold sizeAt
  show (match (C1 ++ c :: C2)[C1.length]? with
    | some c => sizeT h c
    | none => 0) = _
  rw [at_mid]
theorem sizeAt_mid2 {ks : List Nm} {i : Nat} {r : T h} (hi : i = C1.length + 1) : sizeAt (h := h) (mkT ks (C1 ++ c :: r :: C2)) i = sizeT h r := by
  subst hi
  unfold sizeAt
  show (match (C1 ++ c :: r :: C2)[C1.length + 1]? with
    | some c => sizeT h c
    | none => 0) = _
  rw [at_mid2]
theorem pairM {l r : T h} {s : Nm} (hA : A.length = C1.length) (f : T h → Nm → T h → T h × Nm × T h) : pairT (h := h) (mkT (A ++ s :: B) (C1 ++ l :: r :: C2)) A.length f = mkT (A ++ (f l s r).2.1 :: B) (C1 ++ (f l s r).1 :: (f l s r).2.2 :: C2) := pairT_is hA f
theorem mergeM {l r : T h} {s : Nm} (hA : A.length = C1.length) : mergeT (h := h) (mkT (A ++ s :: B) (C1 ++ l :: r :: C2)) A.length = mkT (A ++ B) (C1 ++ merT h l s r :: C2) := mergeT_is hA
/-- What is promised of a node that was widened. -/
def WidOk (m : Nat) (h : Nat) (lo hi : Option Nm) (cs : List (T h)) (t : T (h + 1)) : Prop := Ok m (h + 1) t lo hi ∧ flat (h + 1) t = flats cs ∧ cs.length ≤ t.2.length + 1 ∧ t.2.length ≤ cs.length
theorem seps_mid {s : Nm} (h : Seps lo (A ++ s :: B) hi) : gtO (lastO lo A) s ∧ ltH s (headO B hi) := by
  obtain ⟨s1, s2⟩ := seps_app.1 h
  refine ⟨s2.1, ?_⟩
  cases B with
  | nil => exact fun b hb => s2.2 s rfl b hb
  | cons q B => exact fun b hb => by cases hb; exact s2.2.1 s rfl
theorem widen_ok (hm : 4 ≤ m) (hA : A.length = C1.length) (hs : Seps lo (A ++ B) hi) (h2 : 2 ≤ (C1 ++ c :: C2).length) (ha : OkA (Kid m h) lo A C1) (hb : OkB (Kid m h) hi B C2)
    (hc : Ok m h c (lastO lo A) (headO B hi)) (h1 : m / 2 ≤ sizeT h c + 1) (h3 : sizeT h c ≤ m) : WidOk m h lo hi (C1 ++ c :: C2) (widenT m (mkT (A ++ B) (C1 ++ c :: C2)) A.length) := by
  have hlen : (C1 ++ c :: C2).length = C1.length + C2.length + 1 := by rw [List.length_append, List.length_cons]; omega
  have hbl : B.length = C2.length := by
    clear hs hc h2 hlen ha hA
    induction B generalizing C2 with
    | nil => cases C2 with
      | nil => rfl
      | cons d C2 => exact hb.elim
    | cons q B ih => cases C2 with
      | nil => exact hb.elim
      | cons d C2 => rw [List.length_cons, List.length_cons, ih hb.2]
  have e0 : sizeAt (h := h) (mkT (A ++ B) (C1 ++ c :: C2)) A.length = sizeT h c := sizeAt_mid hA
  unfold widenT
  rw [e0]
  by_cases g1 : m / 2 ≤ sizeT h c
  · rw [if_pos g1]
    exact ⟨⟨hs, (okL_zip hA).2 ⟨ha, ⟨hc, g1, h3⟩, hb⟩⟩, rfl, Nat.le_succ _, Nat.le_refl _⟩
  · rw [if_neg g1]
    by_cases g2 : 0 < A.length
    · obtain ⟨A', s, rfl⟩ := list_last g2
      obtain ⟨C1', l, rfl⟩ := list_last (l := C1) (by omega)
      have hA' : A'.length = C1'.length := by simpa using hA
      obtain ⟨ha', hl⟩ := (okA_snoc hA').1 ha
      rw [lastO_snoc] at hc
      have hs' : Seps lo (A' ++ s :: B) hi := by rw [List.append_assoc] at hs; exact hs
      obtain ⟨k1, k2⟩ := seps_mid hs'
      have ek : A' ++ [s] ++ B = A' ++ s :: B := by rw [List.append_assoc]; rfl
      have ec : C1' ++ [l] ++ c :: C2 = C1' ++ l :: c :: C2 := by rw [List.append_assoc]; rfl
      have ei : (A' ++ [s]).length = A'.length + 1 := by rw [List.length_append]; rfl
      have e1 : sizeAt (h := h) (mkT (A' ++ [s] ++ B) (C1' ++ [l] ++ c :: C2)) ((A' ++ [s]).length - 1) = sizeT h l := by
        rw [ec]
        exact sizeAt_mid (by rw [ei]; omega)
      rw [e1]
      by_cases g3 : m / 2 < sizeT h l
      · rw [if_pos ⟨g2, g3⟩]
        obtain ⟨t1, t2, t3⟩ := borR_ok hl.1 hc k1 k2 (by omega)
        obtain ⟨n1, n2⟩ := node_pair (C2 := C2) hA' hs' ha' hb t1 (by have := hl.2.2; omega) (by omega)
        have e2 : pairT (h := h) (mkT (A' ++ [s] ++ B) (C1' ++ [l] ++ c :: C2)) ((A' ++ [s]).length - 1) (borR h) = mkT (A' ++ (borR h l s c).2.1 :: B) (C1' ++ (borR h l s c).1 :: (borR h l s c).2.2 :: C2) := by
          rw [ek, ec, ei, Nat.add_sub_cancel]
          exact pairM hA' _
        rw [ec]
        refine of_eq_pair (WidOk m h lo hi (C1' ++ l :: c :: C2)) (by rw [ec] at e2; exact e2) ⟨n1, n2, ?_, ?_⟩
        · show (C1' ++ l :: c :: C2).length ≤ (C1' ++ _ :: _ :: C2).length + 1
          simp only [List.length_append, List.length_cons]; omega
        · show (C1' ++ _ :: _ :: C2).length ≤ (C1' ++ l :: c :: C2).length
          simp only [List.length_append, List.length_cons]; omega
      · rw [if_neg (fun h9 => g3 h9.2)]
        by_cases g4 : (A' ++ [s]).length + 1 < (mkT (A' ++ [s] ++ B) (C1' ++ [l] ++ c :: C2)).2.length ∧ m / 2 < sizeAt (h := h) (mkT (A' ++ [s] ++ B) (C1' ++ [l] ++ c :: C2)) ((A' ++ [s]).length + 1)
        · rw [if_pos g4]
          obtain ⟨g5, g6⟩ := g4
          replace g5 : (A' ++ [s]).length + 1 < (C1' ++ [l] ++ c :: C2).length := g5
          obtain ⟨r, C2', rfl⟩ : ∃ r C2', C2 = r :: C2' := by
            match C2, hlen with
            | r :: C2', _ => exact ⟨r, C2', rfl⟩
            | [], h9 => simp only [List.length_append, List.length_cons, List.length_nil] at g5; omega
          obtain ⟨s2, B', rfl⟩ : ∃ s2 B', B = s2 :: B' := by
            match B, hbl with
            | s2 :: B', _ => exact ⟨s2, B', rfl⟩
          rw [sizeAt_mid2 (C1 := C1' ++ [l]) (by simp only [List.length_append, List.length_cons, List.length_nil]; omega)] at g6
          obtain ⟨j1, j2⟩ := seps_mid (A := A' ++ [s]) hs
          rw [lastO_snoc] at j1
          obtain ⟨t1, t2, t3⟩ := borL_ok hc hb.1.1 j1 j2 (by omega)
          rw [show (some s : Option Nm) = lastO lo (A' ++ [s]) from lastO_snoc.symm] at t1
          obtain ⟨n1, n2⟩ := node_pair (C2 := C2') hA hs ha hb.2 t1 (by omega) (by have := hb.1.2.2; omega)
          refine of_eq_pair (WidOk m h lo hi (C1' ++ [l] ++ c :: r :: C2')) (pairM hA _) ⟨n1, n2, ?_, ?_⟩
          · show (C1' ++ [l] ++ c :: r :: C2').length ≤ (C1' ++ [l] ++ _ :: _ :: C2').length + 1
            simp only [List.length_append, List.length_cons]; omega
          · show (C1' ++ [l] ++ _ :: _ :: C2').length ≤ (C1' ++ [l] ++ c :: r :: C2').length
            simp only [List.length_append, List.length_cons]; omega
        · rw [if_neg g4, if_pos g2]
          obtain ⟨n1, n2⟩ := node_merge (C2 := C2) hA' hs' ha' hb hl.1 hc (by have := hl.2; omega)
          have e2 : mergeT (h := h) (mkT (A' ++ [s] ++ B) (C1' ++ [l] ++ c :: C2)) ((A' ++ [s]).length - 1) = mkT (A' ++ B) (C1' ++ merT h l s c :: C2) := by
            rw [ek, ec, ei, Nat.add_sub_cancel]
            exact mergeM hA'
          rw [ec]
          refine of_eq_pair (WidOk m h lo hi (C1' ++ l :: c :: C2)) (by rw [ec] at e2; exact e2) ⟨n1, n2, ?_, ?_⟩
          · show (C1' ++ l :: c :: C2).length ≤ (C1' ++ _ :: C2).length + 1
            simp only [List.length_append, List.length_cons]; omega
          · show (C1' ++ _ :: C2).length ≤ (C1' ++ l :: c :: C2).length
            simp only [List.length_append, List.length_cons]; omega
    · obtain rfl : A = [] := List.eq_nil_of_length_eq_zero (by omega)
      obtain rfl : C1 = [] := List.eq_nil_of_length_eq_zero (by simpa using hA.symm)
      obtain ⟨r, C2', rfl⟩ : ∃ r C2', C2 = r :: C2' := by
        match C2, h2 with
        | r :: C2', _ => exact ⟨r, C2', rfl⟩
        | [], h9 => simp at h9
      obtain ⟨s2, B', rfl⟩ : ∃ s2 B', B = s2 :: B' := by
        match B, hbl with
        | s2 :: B', _ => exact ⟨s2, B', rfl⟩
      rw [if_neg (fun h9 => g2 h9.1)]
      obtain ⟨j1, j2⟩ := seps_mid (A := []) hs
      have e1 : sizeAt (h := h) (mkT ([] ++ s2 :: B') ([] ++ c :: r :: C2')) (([] : List Nm).length + 1) = sizeT h r := sizeAt_mid2 (C1 := []) rfl
      rw [e1]
      by_cases g6 : m / 2 < sizeT h r
      · rw [if_pos ⟨(show ([] : List Nm).length + 1 < ([] ++ c :: r :: C2' : List (T h)).length by simp), g6⟩]
        obtain ⟨t1, t2, t3⟩ := borL_ok hc hb.1.1 j1 j2 (by omega)
        obtain ⟨n1, n2⟩ := node_pair (C2 := C2') hA hs ha hb.2 t1 (by omega) (by have := hb.1.2.2; omega)
        refine of_eq_pair (WidOk m h lo hi ([] ++ c :: r :: C2')) (pairM hA _) ⟨n1, n2, ?_, ?_⟩
        · show ([] ++ c :: r :: C2' : List (T h)).length ≤ ([] ++ _ :: _ :: C2' : List (T h)).length + 1
          simp only [List.length_append, List.length_cons]; omega
        · show ([] ++ _ :: _ :: C2' : List (T h)).length ≤ ([] ++ c :: r :: C2' : List (T h)).length
          simp only [List.length_append, List.length_cons]; omega
      · rw [if_neg (fun h9 => g6 h9.2), if_neg g2]
        obtain ⟨n1, n2⟩ := node_merge (C2 := C2') hA hs ha hb.2 hc hb.1.1 (by have := hb.1.2; omega)
        refine of_eq_pair (WidOk m h lo hi ([] ++ c :: r :: C2')) (mergeM hA) ⟨n1, n2, ?_, ?_⟩
        · show ([] ++ c :: r :: C2' : List (T h)).length ≤ ([] ++ _ :: C2' : List (T h)).length + 1
          simp only [List.length_append, List.length_cons]; omega
        · show ([] ++ _ :: C2' : List (T h)).length ≤ ([] ++ c :: r :: C2' : List (T h)).length
          simp only [List.length_append, List.length_cons]; omega
end
theorem delT_some {m h : Nat} (t : T (h + 1)) {x : Nm} {c : T h} (hc : t.2[atK t.1 x]? = some c) : delT m (h + 1) t x = widenT m (mkT t.1 (t.2.set (atK t.1 x) (delT m h c x))) (atK t.1 x) := by
  conv => lhs; unfold delT
  simp only [hc]
  rfl
theorem del_ok {m : Nat} (hm : 4 ≤ m) : ∀ {h : Nat} {t : T h} {lo hi : Option Nm} {x : Nm}, Ok m h t lo hi → geO lo x → ltH x hi → (0 < h → 2 ≤ sizeT h t) →
    Ok m h (delT m h t x) lo hi ∧ flat h (delT m h t x) = delF x (flat h t) ∧ sizeT h t ≤ sizeT h (delT m h t x) + 1 ∧ sizeT h (delT m h t x) ≤ sizeT h t
  | 0, t, lo, hi, x, hk, hlo, hhi, _ => by
    have hl : (delF x t).length + (if (getF x t).isSome then 1 else 0) = List.length (α := KV) t := delF_length (x := x) (l := t)
    refine ⟨⟨delF_rises hk.1, fun p hp => hk.2 p ((delF_sub x _).subset hp)⟩, rfl, ?_, (delF_sub x _).length_le⟩
    show List.length (α := KV) t ≤ (delF x t).length + 1
    split at hl <;> omega
  | h + 1, (ks, cs), lo, hi, x, hk, hlo, hhi, h2 => by
    obtain ⟨hs, hL⟩ := hk
    have hs1 : Seps lo ks hi := hs
    have hL1 : OkL (Kid m h) ks cs lo hi := hL
    have hl : cs.length = ks.length + 1 := okL_len hL1
    have h2' : 2 ≤ cs.length := h2 (Nat.succ_pos _)
    have hile := at_le ks x
    obtain ⟨c, hc, ha, hcc, hb⟩ := okL_at hL1 hile
    obtain ⟨p1, p2⟩ := sides hs1 hlo hhi ha hb
    obtain ⟨a1, a2⟩ := at_split (ks := ks) (lo := lo) hlo hhi
    obtain ⟨i1, i2, i3, i4⟩ := del_ok hm hcc.1 a1 a2 (fun _ => by have := hcc.2.1; omega)
    have hcl : atK ks x < cs.length := by omega
    have hta : (ks.take (atK ks x)).length = (cs.take (atK ks x)).length := by rw [List.length_take, List.length_take]; omega
    have hF : delF x (flats cs) = flats (cs.take (atK ks x)) ++ (delF x (flat h c) ++ flats (cs.drop (atK ks x + 1))) := by
      rw [flats_at hc, delF_app_r (fun p hp => nm_ne (p1 p hp)), delF_app_l (fun p hp => (nm_ne (p2 p hp)).symm)]
    have hset := set_is (c := delT m h c x) hcl
    have hsize : (cs.take (atK ks x) ++ delT m h c x :: cs.drop (atK ks x + 1)).length = cs.length := by rw [← hset, List.length_set]
    have hw := widen_ok (A := ks.take (atK ks x)) (B := ks.drop (atK ks x)) (C1 := cs.take (atK ks x)) (C2 := cs.drop (atK ks x + 1)) (c := delT m h c x) hm hta (by rw [List.take_append_drop]; exact hs1) (by rw [hsize]; exact h2') ha hb i1 (by have := hcc.2.1; omega) (by have := hcc.2.2; omega)
    rw [List.take_append_drop, ← hset, List.length_take, Nat.min_eq_left hile] at hw
    obtain ⟨w1, w2, w3, w4⟩ := hw
    rw [List.length_set] at w3 w4
    rw [delT_some (m := m) (ks, cs) hc]
    refine ⟨w1, ?_, w3, w4⟩
    rw [w2]
    show flats (cs.set (atK ks x) (delT m h c x)) = delF x (flats cs)
    rw [flats_set hcl, hF, i2]
end Go.Proofs.YtmomohljnmopfaaX
end
