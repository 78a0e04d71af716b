/- An argument that is a value (struct: a kind, a number, a text), opened; no conditions beyond those in each theorem's head. -/
import Derived.Test.YteehcopkljiikaaDoorXV
namespace Go.Proofs.YteehcopkljiikaaDoorV
open Go.RowKit Go.Proofs.YteehcopkljiikaaDoorW.PrintWords Go.Proofs.YteehcopkljiikaaDoorW.PrintLast Go.Proofs.YteehcopkljiikaaDoorW.PrintMore Go.Proofs.YteehcopkljiikaaDoorX Go.Proofs.YteehcopkljiikaaDoor.PA
open Go.ChangeShapes Go.WideShapes Go.Deep
set_option linter.unusedVariables false
set_option linter.unusedSimpArgs false
theorem open_val {H : Type} {enc : TypeId × Value → H} {w : World} {base : Nat} {spare : Nat → Bool} {held : Bool} {v : Value} {d : DataW H} {ps : List MemPlace}
    (hv : ∃ cs, v = .agg cs ∧ cs.size = Tryd.prog.cellsOf 23) (h : DataW.Trod enc Tryd.prog w base spare held 23 v d ps) :
    ∃ (n0 n1 : Int) (s2 : ByteArray), v = .agg #[.int .i64 n0, .int .i64 n1, .string s2] ∧ (Lit.int .i64 n0).wf = true ∧ (Lit.int .i64 n1).wf = true ∧ s2.size ≤ maxLen := by
  obtain ⟨cs, rfl, hcs⟩ := hv
  obtain ⟨fuel, ht0⟩ := h
  have ht' : DataW.trod enc Tryd.prog w base spare held fuel 23 cs.toList = some (d, ps) := ht0
  have hc3 : cs.size = 3 := by rw [hcs]; exact vF_cells
  obtain ⟨ys, n', hn', hy, hlen, hyl, hf⟩ := DataW.trod_struct vF_und ht'
  have g : ∀ (j : Nat) (f : Field), vF[j]? = some f → ∃ (v : Value) (y : DataW H × List MemPlace), cs.toList[j]? = some v ∧ DataW.trod enc Tryd.prog w base spare held n' f.type [v] = some y := by
    intro j f hj
    obtain ⟨ho, hk⟩ := hone_of vF_one j f hj
    have hjl : j < vF.size := (Array.getElem?_eq_some_iff.1 hj).1
    have hj3 : j < 3 := hjl
    have hl : j < cs.toList.length := by rw [Array.length_toList, hc3]; exact hj3
    have hv : cs.toList[j]? = some (cs.toList[j]'hl) := List.getElem?_eq_getElem hl
    have h1 := hf j f hj
    rw [ho, hk] at h1
    have hone' : (cs.toList.drop j).take 1 = [cs.toList[j]'hl] := by
      rw [List.drop_eq_getElem_cons hl]
      rfl
    rw [hone'] at h1
    have hyl3 : ys.length = 3 := hyl
    have hys : ys[j]? = some (ys[j]'(by omega)) := List.getElem?_eq_getElem (by omega)
    exact ⟨_, _, hv, h1.trans hys⟩
  obtain ⟨v0, y0, e0, t0⟩ := g 0 _ rfl
  obtain ⟨v1, y1, e1, t1⟩ := g 1 _ rfl
  obtain ⟨v2, y2, e2, t2⟩ := g 2 _ rfl
  obtain ⟨n0, q0, _, w0⟩ := DataW.trod_int Tryd.underlying3 t0
  obtain ⟨n1, q1, _, w1⟩ := DataW.trod_int Tryd.underlying3 t1
  obtain ⟨s2, q2, _, w2⟩ := DataW.trod_string Tryd.underlying9 t2
  simp only [List.cons.injEq, and_true] at q0 q1 q2
  subst q0; subst q1; subst q2
  refine ⟨n0, n1, s2, ?_, w0, w1, w2⟩
  congr 1
  apply Array.toList_inj.1
  match hcl : cs.toList, (show cs.toList.length = 3 by rw [Array.length_toList]; exact hc3) with
  | [a0, a1, a2], _ =>
    rw [hcl] at e0 e1 e2
    simp only [List.getElem?_cons_zero, List.getElem?_cons_succ, Option.some.injEq] at e0 e1 e2
    rw [e0, e1, e2]
end Go.Proofs.YteehcopkljiikaaDoorV
