/- The argument of DiskAtomic, opened; no conditions beyond those in each theorem's head. -/
import Derived.Test.YtakhnkkcllfbjaaDoorOB
namespace Go.Proofs.YtakhnkkcllfbjaaDoorX
open Go.RowKit Go.Proofs.YtakhnkkcllfbjaaDoorW.PrintWords Go.Proofs.YtakhnkkcllfbjaaDoorW.PrintLast Go.Proofs.YtakhnkkcllfbjaaDoorW.PrintMore
open Go.ChangeShapes Go.WideShapes Go.Deep
set_option linter.unusedVariables false
set_option linter.unusedSimpArgs false
def f41F : Array Field := #[{ name := "Old", type := 9, offset := 0, embedded := false, tag := "", pkgPath := "", byteOffset := 0 }, { name := "Fresh", type := 9, offset := 1, embedded := false, tag := "", pkgPath := "", byteOffset := 16 }, { name := "Fall", type := 3, offset := 2, embedded := false, tag := "", pkgPath := "", byteOffset := 32 }, { name := "Keep", type := 39, offset := 3, embedded := false, tag := "", pkgPath := "", byteOffset := 40 }]
theorem f41F_und : Tryd.prog.underlying 41 = some (.struct f41F) := Tryd.underlying41
theorem f41F_one : oneCellFields Tryd.prog f41F = true := by kernel_rfl
theorem f41F_cells : Tryd.prog.cellsOf 41 = f41F.size := by kernel_rfl
set_option maxRecDepth 100000 in
theorem open_f41_arg {H : Type} {enc : TypeId × Value → H} {w : World} {base : Nat} {spare : Nat → Bool} {held : Bool} {v : Value} {d : DataW H} {ps : List MemPlace}
    (hv : ∃ cs, v = .agg cs ∧ cs.size = Tryd.prog.cellsOf 41) (h : DataW.Trod enc Tryd.prog w base spare held 41 v d ps) :
    ∃ (old fresh : ByteArray) (fall : Int) (A : Option Addr) (c : Nat) (keep : List Int), v = .agg #[.string old, .string fresh, .int .i64 fall, .slice A keep.length c] ∧ (Lit.int .i64 fall).wf = true ∧ keep.length ≤ c ∧ keep.length ≤ maxLen ∧ (Kd.int .i64).C w A keep.length keep := by
  obtain ⟨ca, rfl, hca⟩ := hv
  obtain ⟨fuel, ht0⟩ := h
  have h : DataW.trod enc Tryd.prog w base spare held fuel 41 ca.toList = some (d, ps) := ht0
  have hcl : ca.toList.length = 4 := by rw [Array.length_toList, hca]; exact f41F_cells
  obtain ⟨cs, hcs0⟩ : ∃ cs, ca.toList = cs := ⟨_, rfl⟩
  have hca2 : ca = cs.toArray := by rw [← hcs0]
  subst hca2
  rw [hcs0] at h hcl
  clear hcs0 ht0 hca
  obtain ⟨ys, n', hn', hy, hlen, hyl, hf⟩ := DataW.trod_struct f41F_und h
  have g : ∀ (j : Nat) (f : Field), f41F[j]? = some f → ∃ (v : Value) (y : DataW H × List MemPlace), cs[j]? = some v ∧ DataW.trod enc Tryd.prog w base spare held n' f.type [v] = some y := by
    intro j f hj
    obtain ⟨ho, hk⟩ := hone_of f41F_one j f hj
    have hj3 : j < 4 := (Array.getElem?_eq_some_iff.1 hj).1
    have hv : cs[j]? = some (cs[j]'(by omega)) := List.getElem?_eq_getElem (by omega)
    have h1 := hf j f hj
    rw [ho, hk] at h1
    have hone' : (cs.drop j).take 1 = [cs[j]'(by omega)] := by
      rw [List.drop_eq_getElem_cons (by omega)]
      rfl
    rw [hone'] at h1
    have hyl3 : ys.length = 4 := hyl
    have hys : ys[j]? = some (ys[j]'(by omega)) := List.getElem?_eq_getElem (by omega)
    exact ⟨_, _, hv, h1.trans hys⟩
  obtain ⟨v0, y0, e0, t0⟩ := g 0 _ rfl
  obtain ⟨v1, y1, e1, t1⟩ := g 1 _ rfl
  obtain ⟨v2, y2, e2, t2⟩ := g 2 _ rfl
  obtain ⟨v3, y3, e3, t3⟩ := g 3 _ rfl
  obtain ⟨n0, q0, _, w0⟩ := DataW.trod_string Tryd.underlying9 t0
  obtain ⟨n1, q1, _, w1⟩ := DataW.trod_string Tryd.underlying9 t1
  obtain ⟨n2, q2, _, w2⟩ := DataW.trod_int Tryd.underlying3 t2
  obtain ⟨A3, c3, n3, rfl, l3, m3, C3, w3⟩ := open_row_ints t3
  simp only [List.cons.injEq, and_true] at q0 q1 q2
  subst q0; subst q1; subst q2
  have hcs : cs = [.string n0, .string n1, .int .i64 n2, .slice A3 n3.length c3] := by
    match cs, hcl with
    | [a0, a1, a2, a3], _ =>
      simp only [List.getElem?_cons_zero, List.getElem?_cons_succ, Option.some.injEq] at e0 e1 e2 e3
      rw [e0, e1, e2, e3]
  rw [hcs]
  exact ⟨n0, n1, n2, A3, c3, n3, rfl, w2, l3, m3, C3⟩
end Go.Proofs.YtakhnkkcllfbjaaDoorX
