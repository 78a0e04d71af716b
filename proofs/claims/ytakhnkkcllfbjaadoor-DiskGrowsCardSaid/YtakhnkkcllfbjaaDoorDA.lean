/- A disk in plain words: files by rising names; what each call does to it; no conditions. -/
import Derived.Test.YtakhnkkcllfbjaaDoorDX
namespace Go.Proofs.YtakhnkkcllfbjaaDoorX
open Go.RowKit
set_option linter.unusedVariables false
set_option linter.unusedSimpArgs false

abbrev Nm := List UInt8
structure AF where
  name : Nm
  data : ByteArray
  safe : Int
structure AD where
  size : Int
  armed : Int
  down : Bool
  steps : Int
  L : List AF

/-- A byte of a name. -/
def nameByte (c : UInt8) : Bool := c == 45 || c == 46 || (48 ≤ c && c ≤ 57) || (97 ≤ c && c ≤ 122)
def named (s : Nm) : Bool := decide (1 ≤ s.length) && decide (s.length ≤ 16) && s.all nameByte
def totL : List AF → Nat
  | [] => 0
  | f :: r => f.data.size + totL r
def findL (x : Nm) : List AF → Option AF
  | [] => none
  | f :: r => if f.name = x then some f else findL x r
def hasL (x : Nm) (L : List AF) : Bool := (findL x L).isSome
def updL (x : Nm) (g : AF → AF) : List AF → List AF
  | [] => []
  | f :: r => (if f.name = x then g f else f) :: updL x g r
def insL (y : AF) : List AF → List AF
  | [] => [y]
  | f :: r => if f.name < y.name then f :: insL y r else y :: f :: r
def delL (x : Nm) : List AF → List AF
  | [] => []
  | f :: r => if f.name = x then delL x r else f :: delL x r
def namesL (L : List AF) : List Nm := L.map AF.name
/-- names rise -/
def Rising (L : List AF) : Prop := (namesL L).Pairwise (· < ·)

theorem findL_name {x : Nm} {f : AF} : ∀ {L : List AF}, findL x L = some f → f.name = x ∧ f ∈ L
  | [], h => by cases h
  | g :: r, h => by
    unfold findL at h
    split at h
    · rename_i hx; cases h; exact ⟨hx, by simp⟩
    · have := findL_name h; exact ⟨this.1, by simp [this.2]⟩
theorem findL_none {x : Nm} : ∀ {L : List AF}, findL x L = none ↔ ∀ f ∈ L, f.name ≠ x
  | [] => by simp [findL]
  | g :: r => by
    unfold findL
    split
    · rename_i hx; simp [hx]
    · rename_i hx; rw [findL_none]; simp [hx]
theorem nm_irrefl (x : Nm) : ¬ x < x := List.lt_irrefl x
theorem nm_trans {x y z : Nm} (h : x < y) (k : y < z) : x < z := List.lt_trans h k
theorem nm_ne {x y : Nm} (h : x < y) : x ≠ y := fun e => by subst e; exact nm_irrefl _ h
theorem nm_tri {x y : Nm} (h : ¬ x < y) (k : x ≠ y) : y < x := by
  apply Decidable.byContradiction
  intro h2
  exact k (List.le_antisymm (List.not_lt.1 h2) (List.not_lt.1 h))
theorem rising_tail {f : AF} {L : List AF} (h : Rising (f :: L)) : Rising L := (List.pairwise_cons.1 h).2
theorem rising_head {f : AF} {L : List AF} (h : Rising (f :: L)) : ∀ g ∈ L, f.name < g.name := fun g hg => (List.pairwise_cons.1 h).1 _ (List.mem_map_of_mem hg)
theorem rising_cons {f : AF} {L : List AF} (h : Rising L) (k : ∀ g ∈ L, f.name < g.name) : Rising (f :: L) := List.pairwise_cons.2 ⟨fun y hy => by obtain ⟨g, hg, rfl⟩ := List.mem_map.1 hy; exact k g hg, h⟩
theorem findL_mem {L : List AF} (h : Rising L) {f : AF} (hf : f ∈ L) : findL f.name L = some f := by
  induction L with
  | nil => cases hf
  | cons g r ih =>
    unfold findL
    rcases List.mem_cons.1 hf with rfl | h2
    · simp
    · rw [if_neg (nm_ne (rising_head h f h2)), ih (rising_tail h) h2]
theorem mem_insL {y f : AF} : ∀ {L : List AF}, f ∈ insL y L ↔ f = y ∨ f ∈ L
  | [] => by simp [insL]
  | g :: r => by
    unfold insL
    split
    · simp only [List.mem_cons, mem_insL (L := r)]; constructor <;> rintro (h | h | h) <;> simp [h]
    · simp
theorem insL_perm (y : AF) : ∀ L : List AF, (insL y L).Perm (y :: L)
  | [] => List.Perm.refl _
  | g :: r => by
    unfold insL
    split
    · exact ((insL_perm y r).cons g).trans (List.Perm.swap _ _ _)
    · exact List.Perm.refl _
theorem insL_length (y : AF) (L : List AF) : (insL y L).length = L.length + 1 := (insL_perm y L).length_eq
theorem insL_tot (y : AF) : ∀ L : List AF, totL (insL y L) = totL L + y.data.size
  | [] => by simp [insL, totL]
  | g :: r => by
    unfold insL
    split
    · simp only [totL, insL_tot y r]; omega
    · simp only [totL]; omega
theorem insL_rising {y : AF} : ∀ {L : List AF}, Rising L → (∀ f ∈ L, f.name ≠ y.name) → Rising (insL y L)
  | [], _, _ => by simp [insL, Rising, namesL]
  | g :: r, h, k => by
    unfold insL
    split
    · rename_i hlt
      refine rising_cons (insL_rising (rising_tail h) (fun f hf => k f (by simp [hf]))) (fun f hf => ?_)
      rcases mem_insL.1 hf with rfl | h2
      · exact hlt
      · exact rising_head h f h2
    · rename_i hlt
      have h3 := nm_tri hlt (k g (by simp))
      refine rising_cons h (fun f hf => ?_)
      rcases List.mem_cons.1 hf with rfl | h2
      · exact h3
      · exact nm_trans h3 (rising_head h f h2)
theorem findL_insL {y : AF} {x : Nm} : ∀ {L : List AF}, (∀ f ∈ L, f.name ≠ y.name) → findL x (insL y L) = if y.name = x then some y else findL x L
  | [], _ => rfl
  | g :: r, k => by
    unfold insL
    split
    · unfold findL
      rw [findL_insL (fun f hf => k f (by simp [hf]))]
      by_cases h1 : g.name = x
      · have : y.name ≠ x := fun e => k g (by simp) (h1.trans e.symm)
        simp [h1, this]
      · simp [h1]
    · rw [findL]
theorem mem_delL {x : Nm} {f : AF} : ∀ {L : List AF}, f ∈ delL x L ↔ f ∈ L ∧ f.name ≠ x
  | [] => by simp [delL]
  | g :: r => by
    unfold delL
    split
    · rename_i h
      rw [mem_delL]
      constructor
      · rintro ⟨h1, h2⟩; exact ⟨by simp [h1], h2⟩
      · rintro ⟨h1, h2⟩
        rcases List.mem_cons.1 h1 with rfl | h3
        · exact absurd h h2
        · exact ⟨h3, h2⟩
    · rename_i h
      rw [List.mem_cons, mem_delL, List.mem_cons]
      constructor
      · rintro (rfl | ⟨h1, h2⟩)
        · exact ⟨.inl rfl, h⟩
        · exact ⟨.inr h1, h2⟩
      · rintro ⟨h1 | h1, h2⟩
        · exact .inl h1
        · exact .inr ⟨h1, h2⟩
theorem delL_of_not {x : Nm} : ∀ {L : List AF}, (∀ f ∈ L, f.name ≠ x) → delL x L = L
  | [], _ => rfl
  | g :: r, h => by
    unfold delL
    rw [if_neg (h g (by simp)), delL_of_not (fun f hf => h f (by simp [hf]))]
theorem delL_sub (x : Nm) : ∀ L : List AF, (delL x L).Sublist L
  | [] => List.Sublist.refl _
  | g :: r => by
    unfold delL
    split
    · exact (delL_sub x r).cons _
    · exact (delL_sub x r).cons_cons _
theorem delL_rising {x : Nm} {L : List AF} (h : Rising L) : Rising (delL x L) := List.Pairwise.sublist ((delL_sub x L).map _) h
theorem findL_delL {x y : Nm} : ∀ {L : List AF}, findL y (delL x L) = if y = x then none else findL y L
  | [] => by simp [findL, delL]
  | g :: r => by
    unfold delL
    split
    · rename_i h
      rw [findL_delL]
      by_cases h1 : y = x
      · simp [h1]
      · rw [if_neg h1, if_neg h1, findL, if_neg (fun e => h1 (e.symm.trans h))]
    · rename_i h
      rw [findL, findL_delL, findL]
      by_cases h1 : y = x
      · subst h1; simp [h]
      · simp [h1]
theorem delL_tot {x : Nm} {f : AF} : ∀ {L : List AF}, Rising L → findL x L = some f → totL (delL x L) + f.data.size = totL L
  | [], _, h => by cases h
  | g :: r, hr, h => by
    unfold findL at h
    unfold delL
    split at h
    · rename_i hx
      cases h
      rw [if_pos hx, delL_of_not (fun k hk e => (nm_ne (rising_head hr k hk)) (hx.trans e.symm))]
      simp only [totL]; omega
    · rename_i hx
      rw [if_neg hx]
      simp only [totL]
      have := delL_tot (rising_tail hr) h
      omega
theorem delL_length {x : Nm} {f : AF} : ∀ {L : List AF}, Rising L → findL x L = some f → (delL x L).length + 1 = L.length
  | [], _, h => by cases h
  | g :: r, hr, h => by
    unfold findL at h
    unfold delL
    split at h
    · rename_i hx
      cases h
      rw [if_pos hx, delL_of_not (fun k hk e => (nm_ne (rising_head hr k hk)) (hx.trans e.symm))]
      simp
    · rename_i hx
      rw [if_neg hx]
      have := delL_length (rising_tail hr) h
      simp only [List.length_cons]; omega
theorem updL_names (x : Nm) (g : AF → AF) (hg : ∀ f, (g f).name = f.name) : ∀ L : List AF, namesL (updL x g L) = namesL L
  | [] => rfl
  | f :: r => by
    have ih := updL_names x g hg r
    unfold namesL at ih ⊢
    unfold updL
    simp only [List.map_cons, ih]
    split <;> simp [hg]
theorem updL_rising {x : Nm} {g : AF → AF} (hg : ∀ f, (g f).name = f.name) {L : List AF} (h : Rising L) : Rising (updL x g L) := by
  unfold Rising at *
  rw [updL_names x g hg]
  exact h
theorem updL_length (x : Nm) (g : AF → AF) : ∀ L : List AF, (updL x g L).length = L.length
  | [] => rfl
  | f :: r => by simp [updL, updL_length x g r]
theorem findL_updL {x y : Nm} {g : AF → AF} (hg : ∀ f, (g f).name = f.name) : ∀ {L : List AF}, findL y (updL x g L) = if y = x then (findL y L).map g else findL y L
  | [] => by simp [findL, updL]
  | f :: r => by
    have ih := findL_updL (x := x) (y := y) hg (L := r)
    unfold updL findL
    by_cases h1 : f.name = x
    · rw [if_pos h1, hg]
      by_cases h2 : f.name = y
      · have : y = x := h2.symm.trans h1
        simp [h2, this]
      · simp only [if_neg h2, ih]
    · rw [if_neg h1]
      by_cases h2 : f.name = y
      · have : y ≠ x := fun e => h1 (h2.trans e)
        simp [h2, this]
      · simp only [if_neg h2, ih]
theorem updL_tot {x : Nm} {g : AF → AF} {f : AF} : ∀ {L : List AF}, Rising L → findL x L = some f → totL (updL x g L) + f.data.size = totL L + (g f).data.size
  | [], _, h => by cases h
  | k :: r, hr, h => by
    unfold findL at h
    unfold updL
    split at h
    · rename_i hx
      cases h
      have h2 : ∀ {M : List AF}, (∀ q ∈ M, q.name ≠ x) → updL x g M = M := by
        intro M
        induction M with
        | nil => intro _; rfl
        | cons q M ih => intro hq; unfold updL; rw [if_neg (hq q (by simp)), ih (fun z hz => hq z (by simp [hz]))]
      rw [if_pos hx, h2 (fun q hq e => (nm_ne (rising_head hr q hq)) (hx.trans e.symm))]
      simp only [totL]; omega
    · rename_i hx
      rw [if_neg hx]
      simp only [totL]
      have := updL_tot (g := g) (rising_tail hr) h
      omega
theorem mem_updL {x : Nm} {g : AF → AF} {q : AF} : ∀ {L : List AF}, q ∈ updL x g L → (∃ f ∈ L, f.name = x ∧ q = g f) ∨ (q ∈ L ∧ q.name ≠ x)
  | [], h => by cases h
  | f :: r, h => by
    unfold updL at h
    rcases List.mem_cons.1 h with h2 | h2
    · split at h2
      · rename_i hx; exact .inl ⟨f, by simp, hx, h2⟩
      · rename_i hx; subst h2; exact .inr ⟨by simp, hx⟩
    · rcases mem_updL h2 with ⟨f', h3, h4⟩ | ⟨h3, h4⟩
      · exact .inl ⟨f', by simp [h3], h4⟩
      · exact .inr ⟨by simp [h3], h4⟩
theorem mem_tot {f : AF} : ∀ {L : List AF}, f ∈ L → f.data.size ≤ totL L
  | g :: r, h => by
    rcases List.mem_cons.1 h with rfl | h2
    · simp only [totL]; omega
    · have := mem_tot h2; simp only [totL]; omega

/-! ### the calls -/
def AD.used (d : AD) : Int := totL d.L
def AD.free (d : AD) : Int := d.size - d.used
structure AD.Ok (d : AD) : Prop where
  size0 : 0 ≤ d.size
  size1 : d.size ≤ 1048576
  used : d.used ≤ d.size
  many : d.L.length ≤ 64
  rising : Rising d.L
  safe : ∀ f ∈ d.L, 0 ≤ f.safe ∧ f.safe ≤ f.data.size
  named : ∀ f ∈ d.L, named f.name = true
  armed0 : -1 ≤ d.armed
  armed1 : d.armed ≤ 9223372036854775807
  steps0 : -9223372036854775808 ≤ d.steps
  steps1 : d.steps ≤ 9223372036854775807
end Go.Proofs.YtakhnkkcllfbjaaDoorX
