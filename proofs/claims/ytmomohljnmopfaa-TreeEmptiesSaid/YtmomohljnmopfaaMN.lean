/- Several texts in one: YB; no conditions beyond those in each theorem's head. -/
import Derived.Test.YtmomohljnmopfaaMX
import Derived.Test.YtmomohljnmopfaaMZ
section
namespace Go.Proofs.YtmomohljnmopfaaX
open Go.RowKit Go.Lib Go.Proofs.YtmomohljnmopfaaW.PrintWords Go.Proofs.YtmomohljnmopfaaW.PrintLast Go.Proofs.YtmomohljnmopfaaW.PrintMore
set_option linter.unusedVariables false
set_option linter.unusedSimpArgs false
/-- A tree and the reference's, apart. -/
structure Tw (B : Nat) (w0 : World) (m : Nat) (w : World) (tb : Nat) (S : List Nat) (l : List KV) (rb : Nat) (R : List Nat) (l2 : List KV) : Prop where
  mi : Mi B w0 m w tb S l
  rf : RefT w rb m l2 R
  ro : ∀ k ∈ R, B ≤ k
  ap : ∀ k ∈ S, k ∉ R
section
variable {B m tb rb : Nat} {w0 w w' : World} {S R : List Nat} {l l2 : List KV}
theorem Tw.on (h : Tw B w0 m w tb S l rb R l2) (hb : Below w.heap.size w w') : Tw B w0 m w' tb S l rb R l2 := ⟨h.mi.on hb, ref_below h.rf hb, h.ro, h.ap⟩
theorem Tw.own {l' : List KV} {S' : List Nat} (h : Tw B w0 m w tb S l rb R l2) (h2 : Mi B w0 m w' tb S' l') (h3 : Fr S w w') (h5 : ∀ k ∈ S', k ∈ S ∨ w.heap.size ≤ k) : Tw B w0 m w' tb S' l' rb R l2 :=
  ⟨h2, ref_step h.rf (fun k hk => h3.block k (ref_lt h.rf k hk) (fun h9 => h.ap k h9 hk)), h.ro, fun k hk h9 => (h5 k hk).elim (fun h8 => h.ap k h8 h9) (fun h8 => absurd (ref_lt h.rf k h9) (Nat.not_lt.2 h8))⟩
theorem Tw.put (h : Tw B w0 m w tb S l rb R l2) (x : Nm) (v : ByteArray) (h4 : 4 ≤ m) (hm : m ≤ 64) (hl : l.length ≤ 4611686018427387904) : Calls Try.prog 18 #[.pointer (some ⟨tb, 0, none⟩), .string ⟨x.toArray⟩, .string v] w fun e w' =>
    e = .returned (ansG (getF x l)) ∧ ∃ S', Tw B w0 m w' tb S' (putF x v l) rb R l2 ∧ Fr S w w' ∧ ∀ k ∈ S', k ∈ S ∨ w.heap.size ≤ k :=
  (h.mi.put x v h4 hm hl).mono (fun e w' ⟨h1, S', h2, h3, h5⟩ => ⟨h1, S', h.own h2 h3 h5, h3, h5⟩)
theorem Tw.del (h : Tw B w0 m w tb S l rb R l2) (x : Nm) (h4 : 4 ≤ m) (hm : m ≤ 64) (hl : l.length ≤ 4611686018427387904) : Calls Try.prog 17 #[.pointer (some ⟨tb, 0, none⟩), .string ⟨x.toArray⟩] w fun e w' =>
    e = .returned (ansG (getF x l)) ∧ ∃ S', Tw B w0 m w' tb S' (delF x l) rb R l2 ∧ Fr S w w' ∧ ∀ k ∈ S', k ∈ S ∨ w.heap.size ≤ k :=
  (h.mi.del x h4 hm hl).mono (fun e w' ⟨h1, S', h2, h3, h5⟩ => ⟨h1, S', h.own h2 h3 h5, h3, h5⟩)
theorem Tw.ref {l' : List KV} (h : Tw B w0 m w tb S l rb R l2) (hd : RDid m w w' rb R l') : ∃ R', Tw B w0 m w' tb S l rb R' l' ∧ Fr R w w' ∧ ∀ k ∈ R', k ∈ R ∨ w.heap.size ≤ k := by
  obtain ⟨R', h1, h2, h3⟩ := hd
  exact ⟨R', ⟨h.mi.fr h2 h.ro h.ap, h1, fun k hk => (h3 k hk).elim (h.ro k) (fun h9 => Nat.le_trans h.mi.base h9), fun k hk h9 => (h3 k h9).elim (fun h8 => h.ap k hk h8) (fun h8 => absurd (tr_lt h.mi.tr k hk) (Nat.not_lt.2 h8))⟩, h2, h3⟩
theorem Tw.rput (h : Tw B w0 m w tb S l rb R l2) (x : Nm) (v : ByteArray) (hl : l2.length ≤ 2147483648) (hr : Rises l2) : Calls Try.prog 22 #[.pointer (some ⟨rb, 0, none⟩), .string ⟨x.toArray⟩, .string v] w fun e w' =>
    e = .returned (ansG (getF x l2)) ∧ ∃ R', Tw B w0 m w' tb S l rb R' (putF x v l2) ∧ Fr R w w' ∧ ∀ k ∈ R', k ∈ R ∨ w.heap.size ≤ k :=
  (putRef_calls x v hl hr h.rf).mono (fun e w' ⟨h1, h2⟩ => ⟨h1, h.ref h2⟩)
theorem Tw.rdel (h : Tw B w0 m w tb S l rb R l2) (x : Nm) (hl : l2.length ≤ 2147483648) (hr : Rises l2) : Calls Try.prog 23 #[.pointer (some ⟨rb, 0, none⟩), .string ⟨x.toArray⟩] w fun e w' =>
    e = .returned (ansG (getF x l2)) ∧ ∃ R', Tw B w0 m w' tb S l rb R' (delF x l2) ∧ Fr R w w' ∧ ∀ k ∈ R', k ∈ R ∨ w.heap.size ≤ k :=
  (delRef_calls x hl hr h.rf).mono (fun e w' ⟨h1, h2⟩ => ⟨h1, h.ref h2⟩)
end
/-- The reference's New of pairs that rise. -/
theorem newR_own {m c : Nat} {w : World} {A : Option Addr} {l : List KV} (h4 : 4 ≤ m) (hm : m ≤ 64) (hs : SrcP w A l) (hc : l.length ≤ c) (hn : l.length ≤ 2147483648) (hr : Rises l) : Calls Try.prog 12 #[.int .i64 m, .slice A l.length c] w fun e w' => ∃ rb R, e = .returned (.tuple #[.pointer (some ⟨rb, 0, none⟩), .int .i64 0]) ∧ RefT w' rb m l R ∧ Below w.heap.size w w' ∧ ∀ k ∈ R, w.heap.size ≤ k := by
  refine (newR_calls (by omega) (by omega) hs hc hn).mono (fun e w' h9 => ?_)
  unfold NewR at h9
  rw [if_neg (by omega), if_pos hr] at h9
  exact h9
theorem newR_none {m : Nat} {w : World} (h4 : 4 ≤ m) (hm : m ≤ 64) : Calls Try.prog 12 #[.int .i64 m, .slice none 0 0] w fun e w' => ∃ rb R, e = .returned (.tuple #[.pointer (some ⟨rb, 0, none⟩), .int .i64 0]) ∧ RefT w' rb m [] R ∧ Below w.heap.size w w' ∧ ∀ k ∈ R, w.heap.size ≤ k :=
  newR_own (l := []) (A := none) h4 hm (fun i p hi => by simp at hi) (Nat.le_refl _) (by decide) List.Pairwise.nil
theorem Tw.mk' {B m tb rb : Nat} {w0 w w' : World} {S R : List Nat} {l l2 : List KV} (h : Mi B w0 m w tb S l) (h1 : RefT w' rb m l2 R) (h2 : Below w.heap.size w w') (h3 : ∀ k ∈ R, w.heap.size ≤ k) : Tw B w0 m w' tb S l rb R l2 :=
  ⟨h.on h2, h1, fun k hk => Nat.le_trans h.base (h3 k hk), fun k hk h9 => absurd (tr_lt h.tr k hk) (Nat.not_lt.2 (h3 k h9))⟩
end Go.Proofs.YtmomohljnmopfaaX
end
