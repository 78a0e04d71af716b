/- One of a script on the program's disk: goes; no conditions beyond those in each theorem's head. -/
import Derived.Test.YtakhnkkcllfbjaaDoorED
import Derived.Test.YtakhnkkcllfbjaaDoorPAx0
namespace Go.Proofs.YtakhnkkcllfbjaaDoorX
open Go.RowKit Go.Proofs.YtakhnkkcllfbjaaDoorW.PrintWords Go.Proofs.YtakhnkkcllfbjaaDoorW.PrintLast Go.Proofs.YtakhnkkcllfbjaaDoorW.PrintMore
open Go.Proofs.YtakhnkkcllfbjaaDoor.PA (S51 k51)
set_option linter.unusedVariables false
set_option linter.unusedSimpArgs false
/-- What one of a script does to a disk, and its answer. -/
def AD.goes (d : AD) (x : S51) : AD × Int :=
  if x.f0 = 1 then d.append x.f1.data.toList x.f3 else if x.f0 = 2 then d.sync x.f1.data.toList else if x.f0 = 3 then d.rename x.f1.data.toList x.f2.data.toList
  else if x.f0 = 4 then d.remove x.f1.data.toList else (d, 1)
theorem AD.Ok.goes {d : AD} (h : d.Ok) (x : S51) : (d.goes x).1.Ok := by
  unfold AD.goes
  split
  · exact h.append _ _
  split
  · exact h.sync _
  split
  · exact h.rename _ _
  split
  · exact h.remove _
  · exact h
theorem box_cells {w w1 : World} {gb : Nat} {x0 : Int} {x1 x2 x3 : ByteArray} {x4 : Int} {v : Value} (h : w1.heap[gb]? = some (.cells #[.int .i64 x0, .string x1, .string x2, .string x3, .int .i64 x4, v] 51 (0, 0))) :
    w1.cell? ⟨gb, 0, none⟩ = some (.int .i64 x0) ∧ w1.cell? ⟨gb, 1, none⟩ = some (.string x1) ∧ w1.cell? ⟨gb, 2, none⟩ = some (.string x2) ∧ w1.cell? ⟨gb, 3, none⟩ = some (.string x3) ∧ w1.cell? ⟨gb, 4, none⟩ = some (.int .i64 x4) :=
  ⟨(blk_cell h 0).trans rfl, (blk_cell h 1).trans rfl, (blk_cell h 2).trans rfl, (blk_cell h 3).trans rfl, (blk_cell h 4).trans rfl⟩
set_option maxRecDepth 100000 in
theorem goes_calls {B : Nat} {w0 w : World} {a : Nat} {S : List Nat} {D : AD} (h : Mine B w0 w a S D) (x : S51) (v : Value) (hs1 : x.f1.size ≤ maxLen) (hs2 : x.f2.size ≤ maxLen) :
    Calls Tryd.prog 20 #[.pointer (some ⟨a, 0, none⟩), .agg #[.int .i64 x.f0, .string x.f1, .string x.f2, .string x.f3, .int .i64 x.f4, v]] w fun e w' => e = .returned (.int .i64 (D.goes x).2) ∧ ∃ S', Mine B w0 w' a S' (D.goes x).1 := by
  obtain ⟨x0, x1, x2, x3, x4, x5⟩ := x
  have hu := Tryd.underlying51
  have M0 := Aside0.mk h
  have cA : ∀ {w1}, Mine B w0 w1 a S D → Calls Tryd.prog 10 #[.pointer (some ⟨a, 0, none⟩), .string x1, .string x3] w1 fun e w' => e = .returned (.int .i64 (D.append x1.data.toList x3).2) ∧ ∃ S', Mine B w0 w' a S' (D.append x1.data.toList x3).1 ∧ Fr S w1 w' := fun h => M_append h x1 x3 hs1
  have cS : ∀ {w1}, Mine B w0 w1 a S D → Calls Tryd.prog 11 #[.pointer (some ⟨a, 0, none⟩), .string x1] w1 fun e w' => e = .returned (.int .i64 (D.sync x1.data.toList).2) ∧ ∃ S', Mine B w0 w' a S' (D.sync x1.data.toList).1 ∧ Fr S w1 w' := fun h => M_sync h x1 hs1
  have cN : ∀ {w1}, Mine B w0 w1 a S D → Calls Tryd.prog 16 #[.pointer (some ⟨a, 0, none⟩), .string x1, .string x2] w1 fun e w' => e = .returned (.int .i64 (D.rename x1.data.toList x2.data.toList).2) ∧ ∃ S', Mine B w0 w' a S' (D.rename x1.data.toList x2.data.toList).1 ∧ Fr S w1 w' := fun h => M_rename h x1 x2 hs1 hs2
  have cR : ∀ {w1}, Mine B w0 w1 a S D → Calls Tryd.prog 36 #[.pointer (some ⟨a, 0, none⟩), .string x1] w1 fun e w' => e = .returned (.int .i64 (D.remove x1.data.toList).2) ∧ ∃ S', Mine B w0 w' a S' (D.remove x1.data.toList).1 ∧ Fr S w1 w' := fun h => M_remove h x1 hs1
  have CA := Aside0.mk @cA
  have CS := Aside0.mk @cS
  have CN := Aside0.mk @cN
  have CR := Aside0.mk @cR
  clear cA cS cN cR h hs1 hs2
  show Calls Tryd.prog 20 _ w fun e w' => e = .returned (.int .i64 (D.goes ⟨x0, x1, x2, x3, x4, x5⟩).2) ∧ ∃ S', Mine B w0 w' a S' (D.goes ⟨x0, x1, x2, x3, x4, x5⟩).1
  obtain ⟨E, hE⟩ : ∃ E, D.goes ⟨x0, x1, x2, x3, x4, x5⟩ = E := ⟨_, rfl⟩
  rw [hE]
  unfold AD.goes at hE
  simp only at hE
  go_enter Tryd.func20, Tryd.ntmps20
  go_upto_region 2 with (((with_reducible refine gate_dst (N := 3) rfl ?_); refine box_event ?hg (N := 3) ?hd (cs := #[.int .i64 x0, .string x1, .string x2, .string x3, .int .i64 x4, v]) (t := 51) ?hr ?_; (case hd => rfl); (case hg => rfl); (case hr => first | (go_simp; done) | (go_simp; rfl)); intro gb hg w1 hbox hb; have M1 := Aside0.mk (M0.out.on hb); obtain ⟨q0, q1, q2, q3, q4⟩ := box_cells (w := w) hbox; clear hb hbox hg))
  by_cases c1 : x0 = 1
  · subst c1
    rw [if_pos rfl] at hE
    have HE := Aside0.mk hE
    clear hE
    go_wp2_with (go_at_call 10; refine (CA.out M1.out).mono ?_; rintro e w2 ⟨rfl, S2, hm, -⟩; rw [HE.out] at hm; have M2 := Aside0.mk hm; clear hm)
    go_ret
    exact ⟨by rw [← HE.out]; rfl, _, M2.out⟩
  · rw [if_neg c1] at hE
    have e1 : (x0 == 1) = false := by rw [beq_eq_false_iff_ne]; exact c1
    clear c1
    by_cases c2 : x0 = 2
    · subst c2
      rw [if_pos rfl] at hE
      have HE := Aside0.mk hE
      clear hE
      go_wp2_with (go_at_call 11; refine (CS.out M1.out).mono ?_; rintro e w2 ⟨rfl, S2, hm, -⟩; rw [HE.out] at hm; have M2 := Aside0.mk hm; clear hm)
      go_ret
      exact ⟨by rw [← HE.out]; rfl, _, M2.out⟩
    · rw [if_neg c2] at hE
      have e2 : (x0 == 2) = false := by rw [beq_eq_false_iff_ne]; exact c2
      clear c2
      by_cases c3 : x0 = 3
      · subst c3
        rw [if_pos rfl] at hE
        have HE := Aside0.mk hE
        clear hE
        go_wp2_with (go_at_call 16; refine (CN.out M1.out).mono ?_; rintro e w2 ⟨rfl, S2, hm, -⟩; rw [HE.out] at hm; have M2 := Aside0.mk hm; clear hm)
        go_ret
        exact ⟨by rw [← HE.out]; rfl, _, M2.out⟩
      · rw [if_neg c3] at hE
        have e3 : (x0 == 3) = false := by rw [beq_eq_false_iff_ne]; exact c3
        clear c3
        by_cases c4 : x0 = 4
        · subst c4
          rw [if_pos rfl] at hE
          have HE := Aside0.mk hE
          clear hE
          go_wp2_with (go_at_call 36; refine (CR.out M1.out).mono ?_; rintro e w2 ⟨rfl, S2, hm, -⟩; rw [HE.out] at hm; have M2 := Aside0.mk hm; clear hm)
          go_ret
          exact ⟨by rw [← HE.out]; rfl, _, M2.out⟩
        · rw [if_neg c4] at hE
          have e4 : (x0 == 4) = false := by rw [beq_eq_false_iff_ne]; exact c4
          clear c4
          subst hE
          go_wp2
          go_ret
          exact ⟨rfl, _, M1.out⟩
end Go.Proofs.YtakhnkkcllfbjaaDoorX
