/- Several texts in one: YQ, YR, YS; no conditions beyond those in each theorem's head. -/
import Derived.Test.YtmomohljnmopfaaMX
import Derived.Test.YtmomohljnmopfaaMO
import Derived.Test.YtmomohljnmopfaaMQ
import Derived.Test.YtmomohljnmopfaaMD
import Derived.Deep.Upon
section
namespace Go.Proofs.YtmomohljnmopfaaX
open Go.RowKit Go.Lib Go.Proofs.YtmomohljnmopfaaW.PrintWords Go.Proofs.YtmomohljnmopfaaW.PrintLast Go.Proofs.YtmomohljnmopfaaW.PrintMore
set_option linter.unusedVariables false
set_option linter.unusedSimpArgs false
theorem nm_succ : ∀ {x y : Nm}, x < y ++ [0] ↔ ¬ y < x
  | [], y => ⟨fun _ => nm_nil y, fun _ => by cases y <;> exact List.Lex.nil⟩
  | a :: x, [] => ⟨fun h => by
      rcases List.cons_lt_cons_iff.1 (show a :: x < 0 :: [] from h) with h | ⟨_, h⟩
      · exact absurd h (by have := UInt8.zero_le (a := a); exact UInt8.not_lt.2 this)
      · exact absurd h (nm_nil x), fun h => absurd (show ([] : Nm) < a :: x from List.Lex.nil) h⟩
  | a :: x, b :: y => by
    rw [List.cons_append, List.cons_lt_cons_iff, List.cons_lt_cons_iff, nm_succ (x := x) (y := y)]
    constructor
    · rintro (h | ⟨rfl, h⟩) (k | ⟨e, k⟩)
      · exact UInt8.lt_irrefl _ (UInt8.lt_trans h k)
      · subst e; exact UInt8.lt_irrefl _ h
      · exact UInt8.lt_irrefl _ k
      · exact h k
    · intro h
      by_cases hab : a < b
      · exact .inl hab
      · by_cases e : a = b
        · exact .inr ⟨e, fun k => h (.inr ⟨e.symm, k⟩)⟩
        · exact absurd (.inl (UInt8.lt_of_le_of_ne (UInt8.not_lt.1 hab) (fun e9 => e e9.symm))) h
theorem fromF_rises {x : Nm} {l : List KV} (h : Rises l) : Rises (fromF x l) := List.Pairwise.sublist List.filter_sublist h
/-- What a cursor tells next. -/
theorem fromF_next {x : Nm} {l r : List KV} {p : KV} (hr : Rises l) (h : fromF x l = p :: r) : fromF (p.1 ++ [0]) l = r := by
  have h1 : fromF (p.1 ++ [0]) l = (fromF x l).filter (fun q => !decide (q.1 < p.1 ++ [0])) := by
    unfold fromF
    rw [List.filter_filter]
    refine List.filter_congr (fun q hq => ?_)
    have hpx : ¬ p.1 < x := by
      have h9 : p ∈ fromF x l := by rw [h]; simp
      have := (List.mem_filter.1 h9).2
      simpa using this
    by_cases hs : q.1 < p.1 ++ [0]
    · simp [hs]
    · have h8 : p.1 < q.1 := by
        by_cases h7 : p.1 < q.1
        · exact h7
        · exact absurd (nm_succ.2 h7) hs
      have h6 : ¬ q.1 < x := fun h5 => hpx (nm_trans h8 h5)
      simp [hs, h6]
  have h2 := rises_cons.1 (h ▸ fromF_rises (x := x) hr)
  rw [h1, h, List.filter_cons, if_neg (by simp only [Bool.not_eq_true', decide_eq_false_iff_not, Decidable.not_not]; exact nm_succ.2 (nm_irrefl _))]
  exact List.filter_eq_self.2 (fun q hq => by simp only [Bool.not_eq_true', decide_eq_false_iff_not]; exact fun h9 => nm_succ.1 h9 (h2.1 q hq))
/-- Between two keys. -/
def btw (frm til : Nm) (l : List KV) : List KV := l.filter (fun p => !decide (p.1 < frm) && (til.isEmpty || decide (p.1 < til)))
theorem collect_pre {most : Int} {til : Nm} : ∀ {xs o : List KV}, (o.length : Int) + xs.length ≤ most → ∃ k, k ≤ xs.length ∧ (collect most til o xs).1 = o ++ xs.take k ∧ ∀ p, xs[k]? = some p → til ≠ [] ∧ ¬ p.1 < til
  | [], o, _ => ⟨0, Nat.le_refl _, by rw [collect]; simp, fun p hp => by simp at hp⟩
  | p :: xs, o, h => by
    rw [List.length_cons] at h
    rw [collect]
    split
    · rename_i hc
      exact ⟨0, Nat.zero_le _, by simp, fun q hq => by
        cases hq
        rcases hc with hc | hc
        · omega
        · exact hc⟩
    · obtain ⟨k, h1, h2, h3⟩ := collect_pre (most := most) (til := til) (xs := xs) (o := o ++ [p]) (by rw [List.length_append, List.length_singleton]; omega)
      exact ⟨k + 1, by rw [List.length_cons]; omega, by rw [h2, List.append_assoc]; rfl, fun q hq => h3 q (by simpa using hq)⟩
theorem fromF_len {x : Nm} {l : List KV} : (fromF x l).length ≤ l.length := List.length_filter_le ..
/-- List's answer is a beginning of what stands from a key on. -/
theorem listF_pre {frm til : Nm} {l : List KV} {most : Int} (h : (l.length : Int) ≤ most) : ∃ k, k ≤ (fromF frm l).length ∧ listF frm til most l = (fromF frm l).take k ∧ ∀ p, (fromF frm l)[k]? = some p → til ≠ [] ∧ ¬ p.1 < til := by
  have h9 := fromF_len (x := frm) (l := l)
  obtain ⟨k, h1, h2, h3⟩ := collect_pre (most := most) (til := til) (xs := fromF frm l) (o := []) (by simp; omega)
  exact ⟨k, h1, by unfold listF; rw [h2, List.nil_append], h3⟩
theorem btw_nil {frm til : Nm} {l : List KV} (h : ∀ p ∈ l, til ≠ [] ∧ ¬ p.1 < til) : btw frm til l = [] := List.filter_eq_nil_iff.2 (fun p hp => by
  obtain ⟨h1, h2⟩ := h p hp
  cases til with
  | nil => exact absurd rfl h1
  | cons a t => simp [h2])
theorem collect_btw {most : Int} {til : Nm} : ∀ {xs o : List KV}, Rises xs → (o.length : Int) + xs.length ≤ most → (collect most til o xs).1 = o ++ btw [] til xs
  | [], o, _, _ => by rw [collect]; simp [btw]
  | p :: xs, o, hr, h => by
    obtain ⟨h1, h2⟩ := rises_cons.1 hr
    rw [List.length_cons] at h
    rw [collect]
    split
    · rename_i hc
      have hc' := hc.resolve_left (by omega)
      rw [btw_nil (fun q hq => ⟨hc'.1, by
        rcases List.mem_cons.1 hq with rfl | hq
        · exact hc'.2
        · exact fun h9 => hc'.2 (nm_trans (h1 q hq) h9)⟩), List.append_nil]
    · rename_i hc
      rw [collect_btw h2 (by rw [List.length_append, List.length_singleton]; omega), List.append_assoc]
      unfold btw
      rw [List.filter_cons, if_pos]
      · rfl
      · have hn : ¬ p.1 < [] := nm_nil p.1
        cases til with
        | nil => simp [hn]
        | cons a t =>
          have : p.1 < a :: t := by
            by_cases h9 : p.1 < a :: t
            · exact h9
            · exact absurd (.inr ⟨by simp, h9⟩) hc
          simp [hn, this]
theorem listF_btw {frm til : Nm} {l : List KV} {most : Int} (hr : Rises l) (h : (l.length : Int) ≤ most) : listF frm til most l = btw frm til l := by
  have h9 := fromF_len (x := frm) (l := l)
  unfold listF
  rw [collect_btw (fromF_rises hr) (by simp; omega), List.nil_append]
  unfold btw fromF
  rw [List.filter_filter]
  refine List.filter_congr (fun p _ => ?_)
  have hn : ¬ p.1 < [] := nm_nil p.1
  simp only [hn, decide_false, Bool.not_false, Bool.true_and, Bool.and_comm]
/-- Up to a key between, and from it on. -/
theorem btw_split {frm mid til : Nm} (h1 : ¬ mid < frm) (h2 : mid ≠ []) (h3 : til = [] ∨ ¬ til < mid) : ∀ {l : List KV}, Rises l → btw frm mid l ++ btw mid til l = btw frm til l
  | [], _ => rfl
  | p :: l, hr => by
    obtain ⟨g1, g2⟩ := rises_cons.1 hr
    have ih := btw_split h1 h2 h3 g2
    have hme : mid.isEmpty = false := by cases mid with
      | nil => exact absurd rfl h2
      | cons _ _ => rfl
    have ih2 := ih
    unfold btw at ih2
    simp only [hme, Bool.false_or] at ih2
    by_cases hp : p.1 < mid
    · have ht : (til.isEmpty || decide (p.1 < til)) = true := by
        rcases h3 with rfl | h3
        · rfl
        · have : p.1 < til := nm_lt_le hp h3
          simp [this]
      unfold btw
      rw [List.filter_cons, List.filter_cons, List.filter_cons]
      simp only [hp, ht, hme, decide_true, Bool.not_true, Bool.false_and, Bool.false_or, Bool.and_true]
      by_cases hf : p.1 < frm
      · simp only [hf, decide_true, Bool.not_true, if_neg Bool.false_ne_true]
        exact ih2
      · simp only [hf, decide_false, Bool.not_false, if_pos, if_neg Bool.false_ne_true, List.cons_append]
        rw [← ih2]
    · have e1 : btw frm mid (p :: l) = [] := btw_nil (fun q hq => ⟨h2, by
        rcases List.mem_cons.1 hq with rfl | hq
        · exact hp
        · exact fun h9 => hp (nm_trans (g1 q hq) h9)⟩)
      rw [e1, List.nil_append]
      unfold btw
      refine List.filter_congr (fun q hq => ?_)
      have hq1 : ¬ q.1 < mid := by
        rcases List.mem_cons.1 hq with rfl | hq
        · exact hp
        · exact fun h9 => hp (nm_trans (g1 q hq) h9)
      have hq2 : ¬ q.1 < frm := fun h9 => hq1 (nm_lt_le h9 h1)
      simp [hq1, hq2]
end Go.Proofs.YtmomohljnmopfaaX
end
section
namespace Go.Proofs.YtmomohljnmopfaaX
open Go.RowKit Go.Proofs.YtmomohljnmopfaaW.PrintWords Go.Proofs.YtmomohljnmopfaaW.PrintLast Go.Proofs.YtmomohljnmopfaaW.PrintMore
open Go.Proofs.Ytmomohljnmopfaa.PTreeParts (S40 k40)
open Go.ChangeShapes Go.WideShapes Go.Deep
set_option linter.unusedVariables false
set_option linter.unusedSimpArgs false
def f24F : Array Field := #[{ name := "L", type := 22, offset := 0, embedded := false, tag := "", pkgPath := "", byteOffset := 0 }, { name := "From", type := 9, offset := 1, embedded := false, tag := "", pkgPath := "", byteOffset := 24 }, { name := "Mid", type := 9, offset := 2, embedded := false, tag := "", pkgPath := "", byteOffset := 40 }, { name := "To", type := 9, offset := 3, embedded := false, tag := "", pkgPath := "", byteOffset := 56 }]
theorem f24F_und : Try.prog.underlying 24 = some (.struct f24F) := Try.underlying24
theorem f24F_one : oneCellFields Try.prog f24F = true := by kernel_rfl
theorem f24F_cells : Try.prog.cellsOf 24 = f24F.size := by kernel_rfl
set_option maxRecDepth 100000 in
theorem open_f24_arg {H : Type} {enc : TypeId × Value → H} {w : World} {base : Nat} {spare : Nat → Bool} {held : Bool} {v : Value} {d : DataW H} {ps : List MemPlace}
    (hv : ∃ cs, v = .agg cs ∧ cs.size = Try.prog.cellsOf 24) (h : DataW.Trod enc Try.prog w base spare held 24 v d ps) :
    ∃ (A : Option Addr) (c : Nat) (l : List S40) (x y z : ByteArray), v = .agg #[.slice A l.length c, .string x, .string y, .string z] ∧ Kd.C k40 w A l.length l ∧ l.length ≤ c ∧ c ≤ maxLen := by
  obtain ⟨ca, rfl, hca⟩ := hv
  obtain ⟨fuel, ht0⟩ := h
  have h : DataW.trod enc Try.prog w base spare held fuel 24 ca.toList = some (d, ps) := ht0
  have hcl : ca.toList.length = 4 := by rw [Array.length_toList, hca]; exact f24F_cells
  obtain ⟨cs, hcs0⟩ : ∃ cs, ca.toList = cs := ⟨_, rfl⟩
  have hca2 : ca = cs.toArray := by rw [← hcs0]
  subst hca2
  rw [hcs0] at h hcl
  clear hcs0 ht0 hca
  obtain ⟨ys, n', hn', hy, hlen, hyl, hf⟩ := DataW.trod_struct f24F_und h
  have g : ∀ (j : Nat) (f : Field), f24F[j]? = some f → ∃ (v : Value) (y : DataW H × List MemPlace), cs[j]? = some v ∧ DataW.trod enc Try.prog w base spare held n' f.type [v] = some y := by
    intro j f hj
    obtain ⟨ho, hk⟩ := hone_of f24F_one j f hj
    have hj3 : j < 4 := (Array.getElem?_eq_some_iff.1 hj).1
    have hv : cs[j]? = some (cs[j]'(by omega)) := List.getElem?_eq_getElem (by omega)
    have h1 := hf j f hj
    rw [ho, hk] at h1
    have hone' : (cs.drop j).take 1 = [cs[j]'(by omega)] := by
      rw [List.drop_eq_getElem_cons (by omega)]
      rfl
    rw [hone'] at h1
    have hyl3 : ys.length = 4 := hyl
    have hys : ys[j]? = some (ys[j]'(by omega)) := List.getElem?_eq_getElem (by omega)
    exact ⟨_, _, hv, h1.trans hys⟩
  obtain ⟨v0, y0, e0, t0⟩ := g 0 _ rfl
  obtain ⟨v1, y1, e1, t1⟩ := g 1 _ rfl
  obtain ⟨v2, y2, e2, t2⟩ := g 2 _ rfl
  obtain ⟨v3, y3, e3, t3⟩ := g 3 _ rfl
  obtain ⟨n1, q1, _, w1⟩ := DataW.trod_string Try.underlying9 t1
  obtain ⟨n2, q2, _, w2⟩ := DataW.trod_string Try.underlying9 t2
  obtain ⟨n3, q3, _, w3⟩ := DataW.trod_string Try.underlying9 t3
  obtain ⟨A, c, l, q0, C0, l0, m0, -, -⟩ := open_f40 t0
  simp only [List.cons.injEq, and_true] at q0 q1 q2 q3
  subst q0; subst q1; subst q2; subst q3
  have hcs : cs = [.slice A l.length c, .string n1, .string n2, .string n3] := by
    match cs, hcl with
    | [a0, a1, a2, a3], _ =>
      simp only [List.getElem?_cons_zero, List.getElem?_cons_succ, Option.some.injEq] at e0 e1 e2 e3
      rw [e0, e1, e2, e3]
  rw [hcs]
  exact ⟨A, c, l, n1, n2, n3, rfl, C0, l0, m0⟩
end Go.Proofs.YtmomohljnmopfaaX
end
section
namespace Go.Proofs.YtmomohljnmopfaaX
open Go.RowKit Go.Lib Go.Proofs.YtmomohljnmopfaaW.PrintWords Go.Proofs.YtmomohljnmopfaaW.PrintLast Go.Proofs.YtmomohljnmopfaaW.PrintMore
open Go.Proofs.Ytmomohljnmopfaa.PTreeParts (S64 k64 S40 k40 unisonlaw07_weighs.l0 unisonlaw07_weighs.l1 unisonlaw07_weighs.j1 unisonlaw07_weighs.j3 unisonlaw07_weighs.f unisonlaw07_weighs.calls)
set_option linter.unusedVariables false
set_option linter.unusedSimpArgs false
theorem run_append_no22 (w : World) {i0 : TypeInfo} (hi : Try.prog.info? 40 = some i0) {A B : Option Addr} {n ca cb : Nat} (hle : n ≤ ca) : (Builtin.append_ #[22, 22] 22 #[.slice A n ca, .slice B 0 cb]).run Try.prog w = .ok (.slice A n ca) w := by
  have hl : ∀ (x : Addr), (loadCells x 0).run Try.prog w = .ok #[] w := fun x => by simpa using run_loadCells_list (P := Try.prog) w x [] (by simp)
  cases A <;> cases B <;> simp [Builtin.append_, run_underlying Try.underlying22, Builtin.lenOf, Builtin.firstCells, sizeOf, typeInfo, hi, hle, storeCells, hl]
/-- append(a, b...), whatever b is. -/
theorem append_rowp {w : World} {va vb : Value} {a b : List KV} (ha : RowP w va a) (hb : RowP w vb b) (hl : a.length + b.length ≤ 4398046511104) :
    ∃ v' w', (Builtin.append_ #[22, 22] 22 #[va, vb]).run Try.prog w = .ok v' w' ∧ RowP w' v' (a ++ b) ∧ w.grownBy w' va.ownBlock ∧ (v'.ownBlock = va.ownBlock ∨ ∃ g, v'.ownBlock = some g ∧ (va.ownBlock = some g ∨ w.heap.size ≤ g)) := by
  obtain ⟨B, cb, rfl, hcb, -⟩ := RowC.shape hb
  cases b with
  | nil =>
    obtain ⟨A, ca, rfl, hca, -⟩ := RowC.shape ha
    obtain ⟨i0, hi, hz⟩ := Option.map_eq_some_iff.1 infoP
    refine ⟨.slice A a.length ca, w, run_append_no22 w hi hca, by rw [List.append_nil]; exact ha, ⟨rfl, rfl, rfl, Nat.le_refl _, fun _ _ _ => rfl⟩, .inl rfl⟩
  | cons p b =>
    obtain ⟨g, c', w', hr, h1, h2, h3⟩ := RowP.append (ys := p :: b) ha (c := cb) (hb.src rfl) (by simp) hl
    refine ⟨_, w', hr, ?_, h2, .inr ⟨g, rfl, h3⟩⟩
    exact h1
theorem weighs_huge {w : World} {A B : Option Addr} {c d : Nat} {l : List S40} (hA : Kd.C k40 w A l.length l) (hB : Kd.C k64 w B 0 []) (hl : 2147483647 < l.length) (hm : l.length ≤ 9223372036854775807) (hc : l.length ≤ c) :
    Calls Try.prog 9 #[.slice A l.length c, .slice B 0 d] w fun e w' => e = .returned (.int .i64 l.length) ∧ ∃ n, w' = w.drewN n := by
  have hk : unisonlaw07_weighs.f 4 l [] = some (l.length : Int) := by
    have e : wrap64 ((l.length : Int) + (([] : List S64).length : Int)) = (l.length : Int) := by
      simp only [List.length_nil]
      unfold wrap64
      omega
    unfold unisonlaw07_weighs.f
    rw [e]
    simp only [unisonlaw07_weighs.l0]
    rw [if_pos (by omega)]
    simp only [unisonlaw07_weighs.j1]
    rw [if_neg (by rw [decide_eq_true_iff]; omega)]
    simp only [unisonlaw07_weighs.l1]
    rw [if_neg (by simp)]
    simp only [unisonlaw07_weighs.j3]
    rfl
  exact (unisonlaw07_weighs.calls 4 A c l B d [] _ w hA hc hB (Nat.zero_le _) hk).mono (fun e w' ⟨h1, h2⟩ => ⟨h1, h2.out⟩)
end Go.Proofs.YtmomohljnmopfaaX
end
