/- Several texts in one: YO; no conditions beyond those in each theorem's head. -/
import Derived.Test.YtmomohljnmopfaaMP
import Derived.Deep.Slices
import Derived.Deep.Fields
import Derived.ChangeSame
import Derived.SizedLaws
import Derived.ChangeSlices
section
namespace Go.Proofs.YtmomohljnmopfaaX
open Go.RowKit Go.Proofs.YtmomohljnmopfaaW.PrintWords Go.Proofs.YtmomohljnmopfaaW.PrintLast Go.Proofs.YtmomohljnmopfaaW.PrintMore
open Go.Proofs.Ytmomohljnmopfaa.PTreeParts (S40 k40 z40 k40_mk S64 k64 z64 k64_mk)
open Go.ChangeShapes Go.WideShapes Go.Deep
set_option linter.unusedVariables false
set_option linter.unusedSimpArgs false
/-- What is known of a pair that comes in. -/
def Fine40 (x : S40) : Prop := x.f0.size ≤ maxLen ∧ x.f1.size ≤ maxLen
/-- What is known of a script's one that comes in. -/
def Fine64 (x : S64) : Prop := (Lit.int .i64 x.f0).wf = true ∧ x.f1.size ≤ maxLen ∧ x.f2.size ≤ maxLen ∧ (Lit.int .i64 x.f3).wf = true
def f40F : Array Field := #[{ name := "Key", type := 9, offset := 0, embedded := false, tag := "", pkgPath := "", byteOffset := 0 }, { name := "Val", type := 9, offset := 1, embedded := false, tag := "", pkgPath := "", byteOffset := 16 }]
theorem f40F_und : Try.prog.underlying 40 = some (.struct f40F) := Try.underlying40
theorem f40F_one : oneCellFields Try.prog f40F = true := by kernel_rfl
theorem f40F_cells : Try.prog.cellsOf 40 = f40F.size := by kernel_rfl
theorem f40F_bytes : Try.prog.bytesOf 40 = 32 := by kernel_rfl
section
variable {H : Type} {enc : TypeId × Value → H} {w : World} {base : Nat} {spare : Nat → Bool} {held : Bool}
set_option maxRecDepth 100000 in
theorem f40_cells {fuel : Nat} {cs : List Value} {x : DataW H × List MemPlace} (h : DataW.trod enc Try.prog w base spare held fuel 40 cs = some x) (hcl : cs.length = 2) : ∃ y : S40, Fine40 y ∧ k40.K w y cs := by
  obtain ⟨ys, n', hn', hy, hlen, hyl, hf⟩ := DataW.trod_struct f40F_und h
  have g : ∀ (j : Nat) (f : Field), f40F[j]? = some f → ∃ (v : Value) (y : DataW H × List MemPlace), cs[j]? = some v ∧ DataW.trod enc Try.prog w base spare held n' f.type [v] = some y := by
    intro j f hj
    obtain ⟨ho, hk⟩ := hone_of f40F_one j f hj
    have hjk : j < 2 := (Array.getElem?_eq_some_iff.1 hj).1
    have hv : cs[j]? = some (cs[j]'(by omega)) := List.getElem?_eq_getElem (by omega)
    have h1 := hf j f hj
    rw [ho, hk] at h1
    have hone' : (cs.drop j).take 1 = [cs[j]'(by omega)] := by
      rw [List.drop_eq_getElem_cons (by omega)]
      rfl
    rw [hone'] at h1
    have hyl3 : ys.length = 2 := hyl
    have hys : ys[j]? = some (ys[j]'(by omega)) := List.getElem?_eq_getElem (by omega)
    exact ⟨_, _, hv, h1.trans hys⟩
  obtain ⟨v0, y0, e0, t0⟩ := g 0 _ rfl
  obtain ⟨v1, y1, e1, t1⟩ := g 1 _ rfl
  obtain ⟨n0, q0, _, w0⟩ := DataW.trod_string Try.underlying9 t0
  obtain ⟨n1, q1, _, w1⟩ := DataW.trod_string Try.underlying9 t1
  simp only [List.cons.injEq, and_true] at q0 q1
  subst q0
  subst q1
  have hcs : cs = [.string n0, .string n1] := by
    match cs, hcl with
    | [a0, a1], _ =>
      simp only [List.getElem?_cons_zero, List.getElem?_cons_succ, Option.some.injEq] at e0 e1
      rw [e0, e1]
  rw [hcs]
  exact ⟨⟨n0, n1⟩, ⟨w0, w1⟩, k40_mk w ⟨n0, n1⟩⟩
set_option maxRecDepth 100000 in
theorem open_f40 {fuel : Nat} {cs : List Value} {x : DataW H × List MemPlace} (h : DataW.trod enc Try.prog w base spare held fuel 22 cs = some x) :
    ∃ (a : Option Addr) (cap : Nat) (l : List S40), cs = [.slice a l.length cap] ∧ Kd.C k40 w a l.length l ∧ l.length ≤ cap ∧ cap ≤ maxLen ∧ (∀ y ∈ l, Fine40 y) ∧ (x.1 = .nil ∧ l = [] ∨ ∃ es sp, x.1 = .slice es sp ∧ es.length = l.length) := by
  rcases open_slice Try.underlying22 h with ⟨rfl, rfl⟩ | ⟨a, len, cap, m, n, D, Pl, rfl, hb, hl, hm, hmm, rfl, hi⟩
  · exact ⟨none, 0, [], rfl, ⟨rfl, by simp, fun h0 => absurd h0 (by simp)⟩, Nat.le_refl _, Nat.zero_le _, (fun y hy => by cases hy), .inl ⟨rfl, rfl⟩⟩
  · have hlm : len ≤ m := by rw [hmm]; split <;> omega
    have one : ∀ i, i < len → ∃ y : S40, Fine40 y ∧ ∃ c : List Value, c.length = 2 ∧ k40.K w y c ∧ ∀ j u, c[j]? = some u → w.cell? (a.add (i * 2 + j)) = some u := by
      intro i hil
      obtain ⟨cs', hc, ht'⟩ := hi i (by omega)
      rw [show Try.prog.cellsOf 40 = 2 from f40F_cells] at hc
      obtain ⟨_, hcl, hat⟩ := World.cells?_some hc
      obtain ⟨y, hy1, hy2⟩ := f40_cells ht' hcl
      refine ⟨y, hy1, cs', hcl, hy2, fun j u hj => ?_⟩
      have hjk : j < 2 := by rw [← hcl]; exact (List.getElem?_eq_some_iff.1 hj).1
      rw [← Go.Deep.add_add, hat j hjk]
      exact hj
    obtain ⟨F, hF⟩ := @choose_lt S40 ⟨z40⟩ len _ one
    refine ⟨some a, cap, (List.range len).map F, by simp, ?_, by simpa using hl, hm, fun y hy => ?_, .inr ⟨_, _, rfl, by simp⟩⟩
    · refine ⟨rfl, by simp only [List.length_map, List.length_range]; simp only [maxLen] at hm; omega, fun _ => ⟨a, rfl, fun j p hj => ?_⟩⟩
      have hjl : j < len := by
        have := (List.getElem?_eq_some_iff.1 hj).1
        simpa using this
      have hp : p = F j := by
        rw [List.getElem?_map, List.getElem?_range hjl] at hj
        simpa using hj.symm
      subst hp
      exact (hF j hjl).2
    · obtain ⟨i, hi2, rfl⟩ := List.mem_map.1 hy
      exact (hF i (List.mem_range.1 hi2)).1
end
/-- The argument, with its weight. -/
theorem open_f40_arg {H : Type} {enc : TypeId × Value → H} {W : World} {base : Nat} {spare : Nat → Bool} {held : Bool} {v : Value} {d : DataW H} {ps : List MemPlace} {ts : List TypeId} {ds : List (DataW H)} {j : Nat}
    (hsz : (DataW.weightsEach Try.prog ts ds).all (· ≤ reachBytes) = true) (ht : ts[j]? = some 22) (hd : ds[j]? = some d) (hv : ∃ a len cap, v = .slice a len cap) (h : DataW.Trod enc Try.prog W base spare held 22 v d ps) :
    ∃ (a : Option Addr) (cap : Nat) (l : List S40), v = .slice a l.length cap ∧ Kd.C k40 W a l.length l ∧ l.length ≤ cap ∧ (∀ y ∈ l, Fine40 y) ∧ l.length * 32 ≤ 140737488351232 := by
  obtain ⟨a0, len0, cap0, rfl⟩ := hv
  obtain ⟨fuel, hf⟩ := h
  obtain ⟨a, cap, l, hcs, hC, hl, hm, hfine, hx⟩ := open_f40 hf
  simp only [Value.cells, List.cons.injEq, and_true] at hcs
  refine ⟨a, cap, l, by simpa [Value.cells] using hcs, hC, hl, hfine, ?_⟩
  rcases hx with ⟨_, rfl⟩ | ⟨es, sp, hx, hlen⟩
  · simp
  · simp only at hx
    subst hx
    have z := sized_slice hsz ht hd Try.underlying22
    rw [f40F_bytes] at z
    have : reachBytes = 140737488351232 := by decide
    rw [this] at z
    have : es.length * 32 ≤ (es.length + sp.length) * 32 := Nat.mul_le_mul_right _ (by omega)
    omega
def f64F : Array Field := #[{ name := "What", type := 3, offset := 0, embedded := false, tag := "", pkgPath := "", byteOffset := 0 }, { name := "Key", type := 9, offset := 1, embedded := false, tag := "", pkgPath := "", byteOffset := 8 }, { name := "Val", type := 9, offset := 2, embedded := false, tag := "", pkgPath := "", byteOffset := 24 }, { name := "N", type := 3, offset := 3, embedded := false, tag := "", pkgPath := "", byteOffset := 40 }]
theorem f64F_und : Try.prog.underlying 64 = some (.struct f64F) := Try.underlying64
theorem f64F_one : oneCellFields Try.prog f64F = true := by kernel_rfl
theorem f64F_cells : Try.prog.cellsOf 64 = f64F.size := by kernel_rfl
theorem f64F_bytes : Try.prog.bytesOf 64 = 48 := by kernel_rfl
section
variable {H : Type} {enc : TypeId × Value → H} {w : World} {base : Nat} {spare : Nat → Bool} {held : Bool}
set_option maxRecDepth 100000 in
theorem f64_cells {fuel : Nat} {cs : List Value} {x : DataW H × List MemPlace} (h : DataW.trod enc Try.prog w base spare held fuel 64 cs = some x) (hcl : cs.length = 4) : ∃ y : S64, Fine64 y ∧ k64.K w y cs := by
  obtain ⟨ys, n', hn', hy, hlen, hyl, hf⟩ := DataW.trod_struct f64F_und h
  have g : ∀ (j : Nat) (f : Field), f64F[j]? = some f → ∃ (v : Value) (y : DataW H × List MemPlace), cs[j]? = some v ∧ DataW.trod enc Try.prog w base spare held n' f.type [v] = some y := by
    intro j f hj
    obtain ⟨ho, hk⟩ := hone_of f64F_one j f hj
    have hjk : j < 4 := (Array.getElem?_eq_some_iff.1 hj).1
    have hv : cs[j]? = some (cs[j]'(by omega)) := List.getElem?_eq_getElem (by omega)
    have h1 := hf j f hj
    rw [ho, hk] at h1
    have hone' : (cs.drop j).take 1 = [cs[j]'(by omega)] := by
      rw [List.drop_eq_getElem_cons (by omega)]
      rfl
    rw [hone'] at h1
    have hyl3 : ys.length = 4 := hyl
    have hys : ys[j]? = some (ys[j]'(by omega)) := List.getElem?_eq_getElem (by omega)
    exact ⟨_, _, hv, h1.trans hys⟩
  obtain ⟨v0, y0, e0, t0⟩ := g 0 _ rfl
  obtain ⟨v1, y1, e1, t1⟩ := g 1 _ rfl
  obtain ⟨v2, y2, e2, t2⟩ := g 2 _ rfl
  obtain ⟨v3, y3, e3, t3⟩ := g 3 _ rfl
  obtain ⟨n0, q0, _, w0⟩ := DataW.trod_int Try.underlying3 t0
  obtain ⟨n1, q1, _, w1⟩ := DataW.trod_string Try.underlying9 t1
  obtain ⟨n2, q2, _, w2⟩ := DataW.trod_string Try.underlying9 t2
  obtain ⟨n3, q3, _, w3⟩ := DataW.trod_int Try.underlying3 t3
  simp only [List.cons.injEq, and_true] at q0 q1 q2 q3
  subst q0
  subst q1
  subst q2
  subst q3
  have hcs : cs = [.int .i64 n0, .string n1, .string n2, .int .i64 n3] := by
    match cs, hcl with
    | [a0, a1, a2, a3], _ =>
      simp only [List.getElem?_cons_zero, List.getElem?_cons_succ, Option.some.injEq] at e0 e1 e2 e3
      rw [e0, e1, e2, e3]
  rw [hcs]
  exact ⟨⟨n0, n1, n2, n3⟩, ⟨w0, w1, w2, w3⟩, k64_mk w ⟨n0, n1, n2, n3⟩⟩
set_option maxRecDepth 100000 in
theorem open_f64 {fuel : Nat} {cs : List Value} {x : DataW H × List MemPlace} (h : DataW.trod enc Try.prog w base spare held fuel 56 cs = some x) :
    ∃ (a : Option Addr) (cap : Nat) (l : List S64), cs = [.slice a l.length cap] ∧ Kd.C k64 w a l.length l ∧ l.length ≤ cap ∧ cap ≤ maxLen ∧ (∀ y ∈ l, Fine64 y) ∧ (x.1 = .nil ∧ l = [] ∨ ∃ es sp, x.1 = .slice es sp ∧ es.length = l.length) := by
  rcases open_slice Try.underlying56 h with ⟨rfl, rfl⟩ | ⟨a, len, cap, m, n, D, Pl, rfl, hb, hl, hm, hmm, rfl, hi⟩
  · exact ⟨none, 0, [], rfl, ⟨rfl, by simp, fun h0 => absurd h0 (by simp)⟩, Nat.le_refl _, Nat.zero_le _, (fun y hy => by cases hy), .inl ⟨rfl, rfl⟩⟩
  · have hlm : len ≤ m := by rw [hmm]; split <;> omega
    have one : ∀ i, i < len → ∃ y : S64, Fine64 y ∧ ∃ c : List Value, c.length = 4 ∧ k64.K w y c ∧ ∀ j u, c[j]? = some u → w.cell? (a.add (i * 4 + j)) = some u := by
      intro i hil
      obtain ⟨cs', hc, ht'⟩ := hi i (by omega)
      rw [show Try.prog.cellsOf 64 = 4 from f64F_cells] at hc
      obtain ⟨_, hcl, hat⟩ := World.cells?_some hc
      obtain ⟨y, hy1, hy2⟩ := f64_cells ht' hcl
      refine ⟨y, hy1, cs', hcl, hy2, fun j u hj => ?_⟩
      have hjk : j < 4 := by rw [← hcl]; exact (List.getElem?_eq_some_iff.1 hj).1
      rw [← Go.Deep.add_add, hat j hjk]
      exact hj
    obtain ⟨F, hF⟩ := @choose_lt S64 ⟨z64⟩ len _ one
    refine ⟨some a, cap, (List.range len).map F, by simp, ?_, by simpa using hl, hm, fun y hy => ?_, .inr ⟨_, _, rfl, by simp⟩⟩
    · refine ⟨rfl, by simp only [List.length_map, List.length_range]; simp only [maxLen] at hm; omega, fun _ => ⟨a, rfl, fun j p hj => ?_⟩⟩
      have hjl : j < len := by
        have := (List.getElem?_eq_some_iff.1 hj).1
        simpa using this
      have hp : p = F j := by
        rw [List.getElem?_map, List.getElem?_range hjl] at hj
        simpa using hj.symm
      subst hp
      exact (hF j hjl).2
    · obtain ⟨i, hi2, rfl⟩ := List.mem_map.1 hy
      exact (hF i (List.mem_range.1 hi2)).1
end
/-- The argument, with its weight. -/
theorem open_f64_arg {H : Type} {enc : TypeId × Value → H} {W : World} {base : Nat} {spare : Nat → Bool} {held : Bool} {v : Value} {d : DataW H} {ps : List MemPlace} {ts : List TypeId} {ds : List (DataW H)} {j : Nat}
    (hsz : (DataW.weightsEach Try.prog ts ds).all (· ≤ reachBytes) = true) (ht : ts[j]? = some 56) (hd : ds[j]? = some d) (hv : ∃ a len cap, v = .slice a len cap) (h : DataW.Trod enc Try.prog W base spare held 56 v d ps) :
    ∃ (a : Option Addr) (cap : Nat) (l : List S64), v = .slice a l.length cap ∧ Kd.C k64 W a l.length l ∧ l.length ≤ cap ∧ (∀ y ∈ l, Fine64 y) ∧ l.length * 48 ≤ 140737488351232 := by
  obtain ⟨a0, len0, cap0, rfl⟩ := hv
  obtain ⟨fuel, hf⟩ := h
  obtain ⟨a, cap, l, hcs, hC, hl, hm, hfine, hx⟩ := open_f64 hf
  simp only [Value.cells, List.cons.injEq, and_true] at hcs
  refine ⟨a, cap, l, by simpa [Value.cells] using hcs, hC, hl, hfine, ?_⟩
  rcases hx with ⟨_, rfl⟩ | ⟨es, sp, hx, hlen⟩
  · simp
  · simp only at hx
    subst hx
    have z := sized_slice hsz ht hd Try.underlying56
    rw [f64F_bytes] at z
    have : reachBytes = 140737488351232 := by decide
    rw [this] at z
    have : es.length * 48 ≤ (es.length + sp.length) * 48 := Nat.mul_le_mul_right _ (by omega)
    omega
end Go.Proofs.YtmomohljnmopfaaX
end
