/- An argument that is a slice of slices of values, opened to a list of lists; no conditions beyond those in each theorem's head. -/
import Derived.Test.YtohknmlcleifpaaDoorXV
namespace Go.Proofs.YtohknmlcleifpaaDoorV
open Go.RowKit Go.Proofs.YtohknmlcleifpaaDoorW.PrintWords Go.Proofs.YtohknmlcleifpaaDoorW.PrintLast Go.Proofs.YtohknmlcleifpaaDoorW.PrintMore Go.Proofs.YtohknmlcleifpaaDoorX Go.Proofs.YtohknmlcleifpaaDoor.PA
open Go.ChangeShapes Go.WideShapes Go.Deep
set_option linter.unusedVariables false
set_option linter.unusedSimpArgs false
theorem heap25 : Kd.Heap k25 := Kd.heap_iso _ (Kd.heap_pair (Kd.heap_int .i64) (Kd.heap_pair (Kd.heap_int .i64) Kd.heap_string))
theorem open_rows {H : Type} {enc : TypeId × Value → H} {w : World} {base base' : Nat} {spare : Nat → Bool} {held : Bool} {v : Value} {d : DataW H} {ps : List MemPlace}
    (hv : ∃ a len cap, v = .slice a len cap) (h : DataW.Trod enc Tryd.prog w base spare held 42 v d ps) :
    ∃ (a : Option Addr) (cap : Nat) (l : List (List S25)), v = .slice a l.length cap ∧ Kd.V (Kd.slice 25 k25) 22 w base' (fun k => k < w.heap.size) (.slice a l.length cap) l := by
  obtain ⟨a0, len0, cap0, rfl⟩ := hv
  obtain ⟨fuel, h⟩ := h
  rcases open_slice Tryd.underlying42 h with ⟨hcs, hx⟩ | ⟨a, len, cap, m, n, D, Pl, hcs, hb, hl, hm, hmm, hx, hi⟩
  · refine ⟨none, 0, [], by simpa [Value.cells] using hcs, Kd.V_nil _ _ _ _ _⟩
  · have hlm : len ≤ m := by rw [hmm]; split <;> omega
    have one : ∀ i, i < len → ∃ y : List S25, True ∧ ∃ c : List Value, c.length = 1 ∧ (Kd.slice 25 k25).K w y c ∧ ∀ j u, c[j]? = some u → w.cell? (a.add (i * 1 + j)) = some u := by
      intro i hil
      obtain ⟨cs', hc, ht'⟩ := hi i (by omega)
      rw [show Tryd.prog.cellsOf 22 = 1 from by kernel_rfl] at hc
      obtain ⟨a1, cap1, l1, rfl, hC, hl1, _, _, _⟩ := open_vals ht'
      obtain ⟨_, hcl, hat⟩ := World.cells?_some hc
      refine ⟨l1, trivial, _, rfl, ⟨a1, cap1, rfl, hl1, hC⟩, fun j u hj => ?_⟩
      have hj1 : j < 1 := (List.getElem?_eq_some_iff.1 hj).1
      rw [← Go.Deep.add_add, hat j hj1]
      exact hj
    obtain ⟨F, hF⟩ := @choose_lt (List S25) ⟨[]⟩ len _ one
    have hC : (Kd.slice 25 k25).C w (some a) ((List.range len).map F).length ((List.range len).map F) := by
      refine ⟨rfl, by simp only [List.length_map, List.length_range]; simp only [maxLen] at hm; omega, fun _ => ⟨a, rfl, fun j p hj => ?_⟩⟩
      have hjl : j < len := by
        have := (List.getElem?_eq_some_iff.1 hj).1
        simpa using this
      have hp : p = F j := by
        rw [List.getElem?_map, List.getElem?_range hjl] at hj
        simpa using hj.symm
      subst hp
      exact (hF j hjl).2
    refine ⟨some a, cap, (List.range len).map F, by simpa [Value.cells] using hcs, Kd.V_mk (by simpa using hl) (Kd.C_F (Kd.heap_slice 25 heap25) hC)⟩
end Go.Proofs.YtohknmlcleifpaaDoorV
