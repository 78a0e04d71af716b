/- New's first test: whether a file is not in order, by a closure over the list; no conditions beyond those in each theorem's head. -/
import Derived.Test.YtakhnkkcllfbjaaDoorED
import Derived.Test.YtakhnkkcllfbjaaDoorPAx0
namespace Go.Proofs.YtakhnkkcllfbjaaDoorX
open Go.RowKit Go.Proofs.YtakhnkkcllfbjaaDoorW.PrintWords Go.Proofs.YtakhnkkcllfbjaaDoorW.PrintLast Go.Proofs.YtakhnkkcllfbjaaDoorW.PrintMore
open Go.Proofs.YtakhnkkcllfbjaaDoor.PA (S37 k37 z37 rd_T37 at_T37)
set_option linter.unusedVariables false
set_option linter.unusedSimpArgs false
/-- A file's safe bytes are less than none, or more than it has. -/
def badF (x : S37) : Bool := decide (x.f2 < 0) || decide ((x.f1.size : Int) < x.f2)
theorem file_box {w1 : World} {gb : Nat} {x0 x1 : ByteArray} {x2 : Int} (h : w1.heap[gb]? = some (.cells #[.string x0, .string x1, .int .i64 x2] 37 (0, 0))) :
    w1.cell? ⟨gb, 0, none⟩ = some (.string x0) ∧ w1.cell? ⟨gb, 1, none⟩ = some (.string x1) ∧ w1.cell? ⟨gb, 2, none⟩ = some (.int .i64 x2) :=
  ⟨(blk_cell h 0).trans rfl, (blk_cell h 1).trans rfl, (blk_cell h 2).trans rfl⟩
set_option maxRecDepth 100000 in
theorem bad_calls (x : S37) (w : World) : Calls Tryd.prog 28 #[.agg #[.string x.f0, .string x.f1, .int .i64 x.f2]] w fun e w' => e = .returned (.bool (badF x)) ∧ Below w.heap.size w w' := by
  obtain ⟨x0, x1, x2⟩ := x
  have hu := Tryd.underlying37
  by_cases h0 : x2 < 0
  · have e0 : decide (x2 < 0) = true := decide_eq_true h0
    have E : Aside0 (badF ⟨x0, x1, x2⟩ = true) := ⟨by unfold badF; simp [h0]⟩
    rw [E.out]
    clear h0
    go_enter Tryd.func28, Tryd.ntmps28
    go_wp2_with (((with_reducible refine gate_dst (N := 1) rfl ?_); refine box_event ?hg (N := 1) ?hd (cs := #[.string x0, .string x1, .int .i64 x2]) (t := 37) ?hr ?_; (case hd => rfl); (case hg => rfl); (case hr => first | (go_simp; done) | (go_simp; rfl)); intro gb hg w1 hbox hb; have B1 := Aside0.mk hb; obtain ⟨q0, q1, q2⟩ := file_box hbox; clear hb hbox hg))
    go_ret
    exact ⟨rfl, B1.out⟩
  · have e0 : decide (x2 < 0) = false := decide_eq_false h0
    have E : Aside0 (badF ⟨x0, x1, x2⟩ = decide ((x1.size : Int) < x2)) := ⟨by unfold badF; simp [h0]⟩
    rw [E.out]
    clear h0
    go_enter Tryd.func28, Tryd.ntmps28
    go_wp2_with (((with_reducible refine gate_dst (N := 1) rfl ?_); refine box_event ?hg (N := 1) ?hd (cs := #[.string x0, .string x1, .int .i64 x2]) (t := 37) ?hr ?_; (case hd => rfl); (case hg => rfl); (case hr => first | (go_simp; done) | (go_simp; rfl)); intro gb hg w1 hbox hb; have B1 := Aside0.mk hb; obtain ⟨q0, q1, q2⟩ := file_box hbox; clear hb hbox hg))
    go_ret
    exact ⟨rfl, B1.out⟩
theorem file_at {w : World} {A : Option Addr} {n : Nat} {xs : List S37} (h : Kd.C k37 w A n xs) {i : Nat} {x : S37} (hi : xs[i]? = some x) : ∃ ad, A = some ad ∧ w.cell? (ad.add (i * 3)) = some (.string x.f0) ∧ w.cell? ⟨(ad.add (i * 3)).block, (ad.add (i * 3)).off + 1, none⟩ = some (.string x.f1) ∧ w.cell? ⟨(ad.add (i * 3)).block, (ad.add (i * 3)).off + 2, none⟩ = some (.int .i64 x.f2) := by
  have hl := (List.getElem?_eq_some_iff.1 hi).1
  have hx : rd_T37 xs (i : Int) = x := by
    show xs.getD (i : Int).toNat z37 = x
    rw [Int.toNat_natCast, List.getD_eq_getElem?_getD, hi]
    rfl
  have := at_T37 h (i : Int) (by omega) (by have := h.1; omega)
  rw [hx, Int.toNat_natCast] at this
  exact this
/-- The same three cells in every world behind. -/
theorem file_later {w W : World} {p : Addr} {x : S37} (hW : Below w.heap.size w W) (h : w.cell? p = some (.string x.f0) ∧ w.cell? ⟨p.block, p.off + 1, none⟩ = some (.string x.f1) ∧ w.cell? ⟨p.block, p.off + 2, none⟩ = some (.int .i64 x.f2)) :
    W.cell? p = some (.string x.f0) ∧ W.cell? ⟨p.block, p.off + 1, none⟩ = some (.string x.f1) ∧ W.cell? ⟨p.block, p.off + 2, none⟩ = some (.int .i64 x.f2) :=
  ⟨(hW.cell (World.block_lt_of_cell? w _ h.1)).trans h.1, (hW.cell (World.block_lt_of_cell? w _ h.2.1)).trans h.2.1, (hW.cell (World.block_lt_of_cell? w _ h.2.2)).trans h.2.2⟩
theorem any_take {l : List S37} {i : Nat} {x : S37} (hi : l[i]? = some x) : (l.take (i + 1)).any badF = ((l.take i).any badF || badF x) := by
  rw [List.take_add_one, hi]
  simp
set_option maxRecDepth 100000 in
theorem index_calls (A : Option Addr) (c : Nat) (l : List S37) (w : World) (hr : Kd.C k37 w A l.length l) : Calls Tryd.prog 46 #[.slice A l.length c, .func (.func 28) #[] #[]] w fun e w' => (∃ r, e = .returned (.int .i64 r) ∧ decide (0 ≤ r) = l.any badF) ∧ Below w.heap.size w w' := by
  have R0 := Aside0.mk hr
  have hu := Tryd.underlying37
  have HL : Aside0 (l.length ≤ 9223372036854775807) := ⟨hr.2.1⟩
  clear hr
  go_enter Tryd.func46, Tryd.ntmps46
  go_wp2
  go_loopg [8] l.length (fun kq v8 wr => ∃ i : Nat, v8 = .int .i64 i ∧ Aside0 (i + kq = l.length) ∧ Aside0 ((l.take i).any badF = false) ∧ Aside0 (Below w.heap.size w wr))
  case atStart => exact ⟨0, rfl, ⟨by omega⟩, ⟨rfl⟩, ⟨Below.refl _ _⟩⟩
  case round =>
    obtain ⟨j, rfl, h1, h2, h3⟩ := hrel
    by_cases hj : j < l.length
    · have e2 : decide ((j : Int) < (l.length : Int)) = true := decide_eq_true (by omega)
      have e2' : decide (j < l.length) = true := decide_eq_true hj
      obtain ⟨x, hx0⟩ : ∃ x, l[j]? = some x := ⟨_, List.getElem?_eq_getElem hj⟩
      obtain ⟨ad, rfl, hq⟩ := file_at R0.out hx0
      obtain ⟨q0, q1, q2⟩ := file_later h3.out hq
      have cB : Aside0 (∀ w6, Calls Tryd.prog 28 #[.agg #[.string x.f0, .string x.f1, .int .i64 x.f2]] w6 fun e w' => e = .returned (.bool (badF x)) ∧ Below w6.heap.size w6 w') := ⟨fun w6 => bad_calls x w6⟩
      have e5 : IntKind.i64.wrap ((j : Int) + 1) = ((j + 1 : Nat) : Int) := by have := HL.out; rw [i64_w]; unfold wrap64; omega
      have AT := Aside0.mk (any_take hx0)
      have HX := Aside0.mk hx0
      have HJ := Aside0.mk hj
      clear hx0 hq
      cases hb : badF x with
      | true =>
        rw [hb] at AT cB
        clear hb
        go_wp2_with (go_at_call 28; refine (cB.out _).mono ?_; rintro e w6 ⟨rfl, hb6⟩; have B6 : Aside0 (Below w.heap.size w w6) := ⟨h3.out.trans (hb6.mono h3.out.size)⟩; clear hb6)
        go_ret
        refine ⟨⟨_, rfl, ?_⟩, B6.out⟩
        have h9 : l.any badF = true := List.any_eq_true.2 ⟨x, List.mem_of_getElem? HX.out, by
          have := AT.out
          rw [List.take_add_one, HX.out] at this
          simpa [h2.out] using this⟩
        rw [h9]
        exact decide_eq_true (by omega)
      | false =>
        rw [hb] at AT cB
        clear hb
        go_wp2_with (go_at_call 28; refine (cB.out _).mono ?_; rintro e w6 ⟨rfl, hb6⟩; have B6 : Aside0 (Below w.heap.size w w6) := ⟨h3.out.trans (hb6.mono h3.out.size)⟩; clear hb6)
        go_roundg (l.length - (j + 1))
        case measure => have := HJ.out; have := h1.out; omega
        case rel => exact ⟨j + 1, by simp, ⟨by have := HJ.out; have := h1.out; omega⟩, ⟨by rw [AT.out, h2.out]; rfl⟩, B6⟩
    · have e2 : decide ((j : Int) < (l.length : Int)) = false := decide_eq_false (by omega)
      have e2' : decide (j < l.length) = false := decide_eq_false hj
      have hl : l.take j = l := List.take_of_length_le (by omega)
      have hh := h2.out
      rw [hl] at hh
      have HH := Aside0.mk hh
      clear hj hl hh
      go_wp2
      go_ret
      exact ⟨⟨-1, rfl, by rw [HH.out]; decide⟩, h3.out⟩
theorem contains27_calls (A : Option Addr) (c : Nat) (l : List S37) (w : World) (hr : Kd.C k37 w A l.length l) : Calls Tryd.prog 27 #[.slice A l.length c, .func (.func 28) #[] #[]] w fun e w' => e = .returned (.bool (l.any badF)) ∧ Below w.heap.size w w' := by
  have cI := index_calls A c l w hr
  clear hr
  generalize l.any badF = b at cI
  cases b with
  | true =>
    go_enter Tryd.func27, Tryd.ntmps27
    go_wp2_with (go_at_call 46; refine cI.mono ?_; rintro e w1 ⟨⟨r, rfl, e1⟩, hb⟩; have B1 := Aside0.mk hb; clear hb)
    go_ret
    exact ⟨rfl, B1.out⟩
  | false =>
    go_enter Tryd.func27, Tryd.ntmps27
    go_wp2_with (go_at_call 46; refine cI.mono ?_; rintro e w1 ⟨⟨r, rfl, e1⟩, hb⟩; have B1 := Aside0.mk hb; clear hb)
    go_ret
    exact ⟨rfl, B1.out⟩
end Go.Proofs.YtakhnkkcllfbjaaDoorX
