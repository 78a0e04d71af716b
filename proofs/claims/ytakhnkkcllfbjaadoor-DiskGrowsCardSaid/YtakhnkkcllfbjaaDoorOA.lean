/- Rows of texts and of truths that come in as arguments; no conditions beyond those in each theorem's head. -/
import Derived.Test.YtakhnkkcllfbjaaDoorWWords
import Derived.Test.YtakhnkkcllfbjaaDoorProg
import Derived.Deep.Strs
import Derived.Deep.Grids
import Derived.WideShapes
import Derived.RowKit
namespace Go.Proofs.YtakhnkkcllfbjaaDoorX
open Go.RowKit Go.Proofs.YtakhnkkcllfbjaaDoorW.PrintWords Go.WideShapes Go.Deep
set_option linter.unusedVariables false
set_option linter.unusedSimpArgs false
theorem reads_map {α : Type} (enc : α → Value) (d : α) (w : World) (a : Addr) (n : Nat) (hn : n ≤ maxLen) (S : Nat → α) (h : ∀ i, i < n → w.cell? (a.add i) = some (enc (S i))) : ReadsOf enc d w (some a) n ((List.range n).map S) := by
  refine ⟨by simp, Nat.le_trans hn (by decide), fun _ => ⟨a, rfl, fun j hj => ?_⟩⟩
  rw [h j hj, List.getD_eq_getElem?_getD, List.getElem?_map, List.getElem?_range hj]
  rfl
theorem reads_none {α : Type} (enc : α → Value) (d : α) (w : World) (A : Option Addr) : ReadsOf enc d w A 0 [] := ⟨rfl, by decide, fun h => absurd h (by decide)⟩
section
variable {H : Type} {enc : TypeId × Value → H} {W : World} {base : Nat} {spare : Nat → Bool} {held : Bool} {v : Value} {d : DataW H} {ps : List MemPlace} {t e : TypeId}
theorem open_strs_arg (hu : Tryd.prog.underlying t = some (.slice e)) (he : Tryd.prog.underlying e = some .string) (hc : Tryd.prog.cellsOf e = 1) (hv : ∃ a len cap, v = .slice a len cap) (h : DataW.Trod enc Tryd.prog W base spare held t v d ps) :
    ∃ (A : Option Addr) (c : Nat) (l : List ByteArray), v = .slice A l.length c ∧ Kd.C Kd.string W A l.length l := by
  obtain ⟨a0, len0, cap0, rfl⟩ := hv
  obtain ⟨fuel, hf⟩ := h
  rcases open_strs hu he hc hf with ⟨hcs, _⟩ | ⟨a, len, cap, m, Sx, hcs, _, hl, hm, hmm, _, hcell⟩
  · simp only [Value.cells, List.cons.injEq, and_true] at hcs
    exact ⟨none, 0, [], by simpa [Value.cells] using hcs, Kd.C_of_reads (reads_none _ ⟨#[]⟩ _ _)⟩
  · simp only [Value.cells, List.cons.injEq, and_true] at hcs
    have hlm : len ≤ m := by rw [hmm]; split <;> omega
    refine ⟨some a, cap, (List.range len).map Sx, by simpa [Value.cells] using hcs, ?_⟩
    rw [List.length_map, List.length_range]
    exact Kd.C_of_reads (reads_map _ ⟨#[]⟩ _ _ _ (by omega) _ (fun i hi => (hcell i (by omega)).1))
theorem open_bools_arg {held : Bool} (hu : Tryd.prog.underlying t = some (.slice e)) (he : Tryd.prog.underlying e = some .bool) (hc : Tryd.prog.cellsOf e = 1) (hv : ∃ a len cap, v = .slice a len cap) (h : DataW.Trod enc Tryd.prog W base (fun _ => true) held t v d ps) :
    ∃ (A : Option Addr) (c : Nat) (l : List Bool), v = .slice A l.length c ∧ Kd.C Kd.bool W A l.length l := by
  obtain ⟨a0, len0, cap0, rfl⟩ := hv
  obtain ⟨fuel, hf⟩ := h
  rcases open_bools hu he hc hf with ⟨hcs, _⟩ | ⟨a, len, cap, B, hcs, _, hl, hm, _, hcell⟩
  · simp only [Value.cells, List.cons.injEq, and_true] at hcs
    exact ⟨none, 0, [], by simpa [Value.cells] using hcs, Kd.C_of_reads (reads_none _ false _ _)⟩
  · simp only [Value.cells, List.cons.injEq, and_true] at hcs
    refine ⟨some a, cap, (List.range len).map B, by simpa [Value.cells] using hcs, ?_⟩
    rw [List.length_map, List.length_range]
    exact Kd.C_of_reads (reads_map _ false _ _ _ (by omega) _ (fun i hi => hcell i (by omega)))
end
end Go.Proofs.YtakhnkkcllfbjaaDoorX
