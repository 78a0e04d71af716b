/- Several texts in one: YP, YA; no conditions beyond those in each theorem's head. -/
import Derived.Test.YtmomohljnmopfaaMD
import Derived.Test.YtmomohljnmopfaaMF
section
namespace Go.Proofs.YtmomohljnmopfaaX
open Go.RowKit Go.Lib Go.Proofs.YtmomohljnmopfaaW.PrintWords Go.Proofs.YtmomohljnmopfaaW.PrintLast Go.Proofs.YtmomohljnmopfaaW.PrintMore
set_option linter.unusedVariables false
set_option linter.unusedSimpArgs false
theorem getF_putF {x y : Nm} {v : ByteArray} : ∀ {l : List KV}, getF y (putF x v l) = if x = y then some v else getF y l
  | [] => rfl
  | p :: r => by
    rw [putF]
    by_cases h1 : p.1 < x
    · rw [if_pos h1, getF, getF, getF_putF (l := r)]
      by_cases h2 : p.1 = y
      · rw [if_pos h2, if_pos h2, if_neg (fun e => absurd h1 (by rw [h2, ← e]; exact nm_irrefl x))]
      · rw [if_neg h2, if_neg h2]
    · rw [if_neg h1]
      by_cases h2 : p.1 = x
      · rw [if_pos h2, getF, getF]
        by_cases h3 : x = y
        · rw [if_pos h3, if_pos h3]
        · rw [if_neg h3, if_neg h3, if_neg (fun e => h3 (h2 ▸ e))]
      · rw [if_neg h2, getF]
theorem getF_ge {x : Nm} {l : List KV} (h : ∀ p ∈ l, x < p.1) : getF x l = none := getF_none (fun p hp e => nm_irrefl x (by have := h p hp; rw [e] at this; exact this))
theorem rises_ext : ∀ {a b : List KV}, Rises a → Rises b → (∀ x, getF x a = getF x b) → a = b
  | [], [], _, _, _ => rfl
  | [], q :: b, _, _, h => by have := h q.1; rw [getF, getF, if_pos rfl] at this; cases this
  | p :: a, [], _, _, h => by have := h p.1; rw [getF, getF, if_pos rfl] at this; cases this
  | p :: a, q :: b, ha, hb, h => by
    obtain ⟨a1, a2⟩ := rises_cons.1 ha
    obtain ⟨b1, b2⟩ := rises_cons.1 hb
    have hpq : p.1 = q.1 := by
      by_cases e : p.1 = q.1
      · exact e
      · by_cases hlt : p.1 < q.1
        · have h9 := h p.1
          rw [getF, if_pos rfl, getF, if_neg (fun e9 => e e9.symm), getF_ge (fun r hr => nm_trans hlt (b1 r hr))] at h9
          cases h9
        · have h9 := h q.1
          rw [getF, if_neg e, getF, if_pos rfl, getF_ge (fun r hr => nm_trans (nm_tri hlt e) (a1 r hr))] at h9
          cases h9
    have h2 : p.2 = q.2 := by
      have h9 := h p.1
      rw [getF, if_pos rfl, getF, if_pos hpq.symm] at h9
      exact Option.some.inj h9
    have ht : a = b := rises_ext a2 b2 (fun x => by
      by_cases hx : p.1 = x
      · rw [getF_ge (fun r hr => by rw [← hx]; exact a1 r hr), getF_ge (fun r hr => by rw [← hx, hpq]; exact b1 r hr)]
      · have h9 := h x
        rw [getF, if_neg hx, getF, if_neg (fun e => hx (hpq.trans e))] at h9
        exact h9)
    rw [ht, show p = q from Prod.ext hpq h2]
theorem getF_one {x : Nm} (l : List KV) (p : KV) : getF x (l ++ [p]) = (getF x l).or (if p.1 = x then some p.2 else none) := by
  induction l with
  | nil => rfl
  | cons q l ih =>
    rw [List.cons_append, getF, getF, ih]
    split <;> rfl
theorem collect_all {most : Int} : ∀ {l o : List KV}, (o.length : Int) + l.length < most → (collect most [] o l).1 = o ++ l
  | [], o, _ => by rw [collect, List.append_nil]
  | p :: l, o, h => by
    rw [List.length_cons] at h
    rw [collect, if_neg (fun h9 => h9.elim (fun h8 => by omega) (fun h8 => h8.1 rfl)), collect_all (by rw [List.length_append, List.length_singleton]; omega), List.append_assoc]
    rfl
theorem nm_nil (x : Nm) : ¬ x < [] := fun h => by cases h
theorem fromF_nil (l : List KV) : fromF [] l = l := fromF_all (fun p _ => nm_nil p.1)
theorem listF_all {most : Int} {l : List KV} (h : (l.length : Int) < most) : listF [] [] most l = l := by
  unfold listF
  rw [fromF_nil, collect_all (by simpa using h), List.nil_append]
theorem mem_delF {x : Nm} {l : List KV} (hr : Rises l) {p : KV} (hp : p ∈ delF x l) : p ∈ l ∧ p.1 ≠ x := by
  induction l with
  | nil => cases hp
  | cons q l ih =>
    obtain ⟨h1, h2⟩ := rises_cons.1 hr
    rw [delF] at hp
    split at hp
    · rename_i hq
      exact ⟨List.mem_cons_of_mem _ hp, fun e => nm_irrefl x (by have := h1 p hp; rw [hq, e] at this; exact this)⟩
    · rename_i hq
      rcases List.mem_cons.1 hp with rfl | hp
      · exact ⟨List.mem_cons_self, hq⟩
      · obtain ⟨g1, g2⟩ := ih h2 hp
        exact ⟨List.mem_cons_of_mem _ g1, g2⟩
theorem mem_putF' {x : Nm} {v : ByteArray} {l : List KV} {p : KV} (hp : p ∈ putF x v l) : p ∈ l ∨ p.1 = x := by
  induction l with
  | nil => simp [putF] at hp; rw [hp]; exact .inr rfl
  | cons q l ih =>
    rw [putF] at hp
    split at hp
    · rcases List.mem_cons.1 hp with rfl | hp
      · exact .inl List.mem_cons_self
      · exact (ih hp).elim (fun h => .inl (List.mem_cons_of_mem _ h)) .inr
    · split at hp
      · rcases List.mem_cons.1 hp with rfl | hp
        · exact .inr rfl
        · exact .inl (List.mem_cons_of_mem _ hp)
      · rcases List.mem_cons.1 hp with rfl | hp
        · exact .inr rfl
        · exact .inl hp
/-- Go's rest, made not negative. -/
theorem rem_emod {a n : Int} (hn : 0 < n) : (if Int.tmod a n < 0 then Int.tmod a n + n else Int.tmod a n) = a % n := by
  have h1 := Int.tmod_add_mul_tdiv a n
  have h2 := Int.tmod_lt_of_pos a hn
  have h3 : -n < Int.tmod a n := by
    have h4 := Int.tmod_lt_of_pos (-a) hn
    rw [Int.neg_tmod] at h4
    omega
  split
  · rename_i h
    have e : a = (Int.tmod a n + n) + n * (Int.tdiv a n - 1) := by rw [Int.mul_sub]; omega
    have e2 : a % n = Int.tmod a n + n := by
      conv => lhs; rw [e]
      rw [Int.add_mul_emod_self_left, Int.emod_eq_of_lt (by omega) (by omega)]
    exact e2.symm
  · rename_i h
    conv => rhs; rw [← h1]
    rw [Int.add_mul_emod_self_left, Int.emod_eq_of_lt (by omega) h2]
/-- Each place is met. -/
theorem turn_onto {c : Int} {n q : Nat} (hq : q < n) : ∃ j : Nat, j < n ∧ ((j : Int) + c) % n = q := by
  refine ⟨(((q : Int) - c) % n).toNat, ?_, ?_⟩
  · have h1 := Int.emod_nonneg ((q : Int) - c) (show (n : Int) ≠ 0 by omega)
    have h2 := Int.emod_lt_of_pos ((q : Int) - c) (show (0 : Int) < n by omega)
    omega
  · have h1 := Int.emod_nonneg ((q : Int) - c) (show (n : Int) ≠ 0 by omega)
    rw [Int.toNat_of_nonneg h1, Int.emod_add_emod, Int.sub_add_cancel]
    exact Int.emod_eq_of_lt (by omega) (by omega)
end Go.Proofs.YtmomohljnmopfaaX
end
section
namespace Go.Proofs.YtmomohljnmopfaaX
open Go.RowKit Go.Lib Go.Proofs.YtmomohljnmopfaaW.PrintWords Go.Proofs.YtmomohljnmopfaaW.PrintLast Go.Proofs.YtmomohljnmopfaaW.PrintMore
set_option linter.unusedVariables false
set_option linter.unusedSimpArgs false
theorem wny {a : Nat} (ha : a ≤ 4294967296) : wrap64 (a : Int) = (a : Int) := by unfold wrap64; omega
/-- Two trees, apart. -/
structure Duo (B : Nat) (w0 : World) (ma mb : Nat) (w : World) (ta : Nat) (Sa : List Nat) (la : List KV) (tb : Nat) (Sb : List Nat) (lb : List KV) : Prop where
  a : Mi B w0 ma w ta Sa la
  b : Mi B w0 mb w tb Sb lb
  ap : ∀ k ∈ Sa, k ∉ Sb
section
variable {B ma mb ta tb : Nat} {w0 w w' : World} {Sa Sb : List Nat} {la lb : List KV}
theorem Duo.swap (h : Duo B w0 ma mb w ta Sa la tb Sb lb) : Duo B w0 mb ma w tb Sb lb ta Sa la := ⟨h.b, h.a, fun k hk h9 => h.ap k h9 hk⟩
theorem Duo.on (h : Duo B w0 ma mb w ta Sa la tb Sb lb) (hb : Below w.heap.size w w') : Duo B w0 ma mb w' ta Sa la tb Sb lb := ⟨h.a.on hb, h.b.on hb, h.ap⟩
theorem Duo.put (h : Duo B w0 ma mb w ta Sa la tb Sb lb) (x : Nm) (v : ByteArray) (h4 : 4 ≤ ma) (hm : ma ≤ 64) (hl : la.length ≤ 4611686018427387904) : Calls Try.prog 18 #[.pointer (some ⟨ta, 0, none⟩), .string ⟨x.toArray⟩, .string v] w fun e w' =>
    e = .returned (ansG (getF x la)) ∧ ∃ Sa', Duo B w0 ma mb w' ta Sa' (putF x v la) tb Sb lb :=
  (h.a.put x v h4 hm hl).mono (fun e w' ⟨h1, S', h2, h3, h5⟩ => ⟨h1, S', h2, h.b.fr h3 h.a.own (fun k hk h9 => h.ap k h9 hk), fun k hk h9 => (h5 k hk).elim (fun h8 => h.ap k h8 h9) (fun h8 => absurd (tr_lt h.b.tr k h9) (Nat.not_lt.2 h8))⟩)
end
/-- What is known of the list that comes in: its length, its keys. -/
theorem map_kS_len {α β : Type} (f : α → β) (l : List α) : (l.map f).length = l.length := List.length_map ..
end Go.Proofs.YtmomohljnmopfaaX
end
