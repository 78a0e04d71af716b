/- An argument that is a slice of values (struct: a kind, a number, a text), opened to a list; no conditions beyond those in each theorem's head. -/
import Derived.Test.YteehcopkljiikaaDoorPAx0
import Derived.Deep.Slices
import Derived.Deep.Fields
import Derived.ChangeSame
import Derived.SizedLaws
namespace Go.Proofs.YteehcopkljiikaaDoorV
open Go.RowKit Go.Proofs.YteehcopkljiikaaDoorW.PrintWords Go.Proofs.YteehcopkljiikaaDoorW.PrintLast Go.Proofs.YteehcopkljiikaaDoorW.PrintMore Go.Proofs.YteehcopkljiikaaDoorX Go.Proofs.YteehcopkljiikaaDoor.PA
open Go.ChangeShapes Go.WideShapes Go.Deep
set_option linter.unusedVariables false
set_option linter.unusedSimpArgs false
def vF : Array Field := #[{ name := "Kind", type := 3, offset := 0, embedded := false, tag := "", pkgPath := "", byteOffset := 0 }, { name := "Int", type := 3, offset := 1, embedded := false, tag := "", pkgPath := "", byteOffset := 8 }, { name := "Text", type := 9, offset := 2, embedded := false, tag := "", pkgPath := "", byteOffset := 16 }]
theorem vF_und : Tryd.prog.underlying 23 = some (.struct vF) := Tryd.underlying23
theorem vF_one : oneCellFields Tryd.prog vF = true := by kernel_rfl
theorem vF_cells : Tryd.prog.cellsOf 23 = vF.size := by kernel_rfl
theorem vF_bytes : Tryd.prog.bytesOf 23 = 32 := by kernel_rfl
/-- What is known of a value that comes in. -/
def Fine (x : S23) : Prop := (Lit.int .i64 x.f0).wf = true ∧ (Lit.int .i64 x.f1).wf = true ∧ x.f2.size ≤ maxLen
section
variable {H : Type} {enc : TypeId × Value → H} {w : World} {base : Nat} {spare : Nat → Bool} {held : Bool}
set_option maxRecDepth 100000 in
theorem open_vals {fuel : Nat} {cs : List Value} {x : DataW H × List MemPlace} (h : DataW.trod enc Tryd.prog w base spare held fuel 31 cs = some x) :
    ∃ (a : Option Addr) (cap : Nat) (l : List S23), cs = [.slice a l.length cap] ∧ Kd.C k23 w a l.length l ∧ l.length ≤ cap ∧ cap ≤ maxLen ∧ (∀ y ∈ l, Fine y) ∧ (x.1 = .nil ∧ l = [] ∨ ∃ es sp, x.1 = .slice es sp ∧ es.length = l.length) := by
  rcases open_slice Tryd.underlying31 h with ⟨rfl, rfl⟩ | ⟨a, len, cap, m, n, D, Pl, rfl, hb, hl, hm, hmm, rfl, hi⟩
  · exact ⟨none, 0, [], rfl, ⟨rfl, by simp, fun h0 => absurd h0 (by simp)⟩, Nat.le_refl _, Nat.zero_le _, (fun y hy => by cases hy), .inl ⟨rfl, rfl⟩⟩
  · have hlm : len ≤ m := by rw [hmm]; split <;> omega
    have one : ∀ i, i < len → ∃ y : S23, Fine y ∧ ∃ c : List Value, c.length = 3 ∧ k23.K w y c ∧ ∀ j u, c[j]? = some u → w.cell? (a.add (i * 3 + j)) = some u := by
      intro i hil
      obtain ⟨cs', hc, ht'⟩ := hi i (by omega)
      rw [show Tryd.prog.cellsOf 23 = 3 from vF_cells] at hc
      obtain ⟨ys, n', hn', hy, hlen, hyl, hf⟩ := DataW.trod_struct vF_und ht'
      obtain ⟨_, hcl, hat⟩ := World.cells?_some hc
      have g : ∀ (j : Nat) (f : Field), vF[j]? = some f → ∃ (v : Value) (y : DataW H × List MemPlace), cs'[j]? = some v ∧ DataW.trod enc Tryd.prog w base spare held n' f.type [v] = some y := by
        intro j f hj
        obtain ⟨ho, hk⟩ := hone_of vF_one j f hj
        have hjl : j < vF.size := (Array.getElem?_eq_some_iff.1 hj).1
        have hj3 : j < 3 := hjl
        have hv : cs'[j]? = some (cs'[j]'(by omega)) := List.getElem?_eq_getElem (by omega)
        have h1 := hf j f hj
        rw [ho, hk] at h1
        have hone' : (cs'.drop j).take 1 = [cs'[j]'(by omega)] := by
          rw [List.drop_eq_getElem_cons (by omega)]
          rfl
        rw [hone'] at h1
        have hyl3 : ys.length = 3 := hyl
        have hys : ys[j]? = some (ys[j]'(by omega)) := List.getElem?_eq_getElem (by omega)
        exact ⟨_, _, hv, h1.trans hys⟩
      obtain ⟨v0, y0, e0, t0⟩ := g 0 _ rfl
      obtain ⟨v1, y1, e1, t1⟩ := g 1 _ rfl
      obtain ⟨v2, y2, e2, t2⟩ := g 2 _ rfl
      obtain ⟨n0, q0, _, w0⟩ := DataW.trod_int Tryd.underlying3 t0
      obtain ⟨n1, q1, _, w1⟩ := DataW.trod_int Tryd.underlying3 t1
      obtain ⟨s2, q2, _, w2⟩ := DataW.trod_string Tryd.underlying9 t2
      simp only [List.cons.injEq, and_true] at q0 q1 q2
      subst q0; subst q1; subst q2
      refine ⟨⟨n0, n1, s2⟩, ⟨w0, w1, w2⟩, [.int .i64 n0, .int .i64 n1, .string s2], rfl, k23_mk w ⟨n0, n1, s2⟩, fun j u hj => ?_⟩
      have hcs : cs' = [.int .i64 n0, .int .i64 n1, .string s2] := by
        match cs', hcl with
        | [a0, a1, a2], _ =>
          simp only [List.getElem?_cons_zero, List.getElem?_cons_succ, Option.some.injEq] at e0 e1 e2
          rw [e0, e1, e2]
      have hj3 : j < 3 := (List.getElem?_eq_some_iff.1 hj).1
      rw [← Go.Deep.add_add, hat j hj3, hcs]
      exact hj
    obtain ⟨F, hF⟩ := @choose_lt S23 ⟨z23⟩ len _ one
    refine ⟨some a, cap, (List.range len).map F, by simp, ?_, by simpa using hl, hm, fun y hy => ?_, .inr ⟨_, _, rfl, by simp⟩⟩
    · refine ⟨rfl, by simp only [List.length_map, List.length_range]; simp only [maxLen] at hm; omega, fun _ => ⟨a, rfl, fun j p hj => ?_⟩⟩
      have hjl : j < len := by
        have := (List.getElem?_eq_some_iff.1 hj).1
        simpa using this
      have hp : p = F j := by
        rw [List.getElem?_map, List.getElem?_range hjl] at hj
        simpa using hj.symm
      subst hp
      exact (hF j hjl).2
    · obtain ⟨i, hi2, rfl⟩ := List.mem_map.1 hy
      exact (hF i (List.mem_range.1 hi2)).1
end
/-- The argument, with its weight. -/
theorem open_arg {H : Type} {enc : TypeId × Value → H} {W : World} {base : Nat} {spare : Nat → Bool} {held : Bool} {v : Value} {d : DataW H} {ps : List MemPlace} {ts : List TypeId} {ds : List (DataW H)} {j : Nat}
    (hsz : (DataW.weightsEach Tryd.prog ts ds).all (· ≤ reachBytes) = true) (ht : ts[j]? = some 31) (hd : ds[j]? = some d) (hv : ∃ a len cap, v = .slice a len cap) (h : DataW.Trod enc Tryd.prog W base spare held 31 v d ps) :
    ∃ (a : Option Addr) (cap : Nat) (l : List S23), v = .slice a l.length cap ∧ Kd.C k23 W a l.length l ∧ l.length ≤ cap ∧ (∀ y ∈ l, Fine y) ∧ l.length * 32 ≤ 140737488351232 := by
  obtain ⟨a0, len0, cap0, rfl⟩ := hv
  obtain ⟨fuel, hf⟩ := h
  obtain ⟨a, cap, l, hcs, hC, hl, hm, hfine, hx⟩ := open_vals hf
  simp only [Value.cells, List.cons.injEq, and_true] at hcs
  refine ⟨a, cap, l, by simpa [Value.cells] using hcs, hC, hl, hfine, ?_⟩
  rcases hx with ⟨_, rfl⟩ | ⟨es, sp, hx, hlen⟩
  · simp
  · simp only at hx
    subst hx
    have z := sized_slice hsz ht hd Tryd.underlying31
    rw [vF_bytes] at z
    have : reachBytes = 140737488351232 := by decide
    rw [this] at z
    have : es.length * 32 ≤ (es.length + sp.length) * 32 := Nat.mul_le_mul_right _ (by omega)
    omega
end Go.Proofs.YteehcopkljiikaaDoorV
