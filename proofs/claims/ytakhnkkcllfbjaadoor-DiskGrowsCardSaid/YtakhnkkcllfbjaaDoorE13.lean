/- Files of a disk: what the call tells. -/
import Derived.Test.YtakhnkkcllfbjaaDoorE12
import Derived.Test.YtakhnkkcllfbjaaDoorPAx0
namespace Go.Proofs.YtakhnkkcllfbjaaDoorX
open Go.RowKit Go.Proofs.YtakhnkkcllfbjaaDoorW.PrintWords Go.Proofs.YtakhnkkcllfbjaaDoorW.PrintLast Go.Proofs.YtakhnkkcllfbjaaDoorW.PrintMore
open Go.Proofs.YtakhnkkcllfbjaaDoor.PA (S37 k37 z37 k37_mkM)
set_option linter.unusedVariables false
set_option linter.unusedSimpArgs false
theorem info37 : (Tryd.prog.info? 37).map (fun i => (i.zero, i.size, i.bytes)) = some (some (.agg #[.string ⟨#[]⟩, .string ⟨#[]⟩, .int .i64 0]), 3, 40) := by kernel_rfl
def fileT (f : AF) : S37 := ⟨⟨f.name.toArray⟩, f.data, f.safe⟩
def filesT (L : List AF) : List S37 := L.map fileT
theorem names_at {L : List AF} {i : Nat} (h : i < L.length) : ((namesL L).map encStr)[i]? = some (encStr (L[i]).name) := by simp [namesL, h]
theorem R_nil0 {w : World} {base : Nat} {ok : Nat → Prop} : Kd.R k37 37 w base ok (.slice none 0 0) [] := Kd.R_nil _ _ _ _ _
theorem row_cell {w : World} {base : Nat} {e : TypeId} {A : Option Addr} {n m c : Nat} {xs : List Value} (h : w.ownsRow base e 1 (.slice A n c) m xs) {i : Nat} (hi : i < xs.length) {u : Value} (hu : xs[i]? = some u) : ∃ g, A = some ⟨g, 0, none⟩ ∧ w.cell? ⟨g, i, none⟩ = some u := by
  rcases h.2 with ⟨h1, h2⟩ | ⟨g, cap, cur, h1, _, hg, _, _, _, ht⟩
  · have := h.1; omega
  · cases h1
    refine ⟨g, rfl, ?_⟩
    rw [cell_of_row w g i cur e (0, 0) hg]
    rw [← ht, List.getElem?_take] at hu
    split at hu
    · simpa using hu
    · cases hu
theorem Files_calls {w : World} {a m : Nat} {lay : Lay} {D : AD} (h : DK w a m lay D) : Calls Tryd.prog 13 #[.pointer (some ⟨a, 0, none⟩)] w fun e w' => ∃ v, e = .returned v ∧ Kd.R k37 37 w' w.heap.size (fun _ => True) v (filesT D.L) ∧ Below w.heap.size w w' := by
  obtain ⟨c0, c1, c2, c3, c4, c5⟩ := head_cells h.head
  have H := Aside0.mk h
  have cK := keys_calls (some m) w
  have cS := sorted_calls h
  have hmany := h.ok.many
  clear h c0 c2 c3 c4 c5
  go_enter Tryd.func13, Tryd.ntmps13
  go_wp2_with (first
    | (go_at_call 33; refine cK.mono ?_; rintro e w1 ⟨rfl, rfl⟩)
    | (go_at_call 32; refine cS.mono ?_; rintro e w2 ⟨v, rfl, hrow, hb⟩; obtain ⟨A, cv, rfl⟩ := row_shape hrow; have HR := Aside0.mk hrow; have HB : Aside0 (Below w.heap.size w w2) := ⟨((Below.refl _ w).alloc (Nat.le_refl _) _).trans (hb.mono (Nat.le_succ _))⟩; clear hrow hb))
  go_loopg [3, 14] D.L.length (fun kq v3 v14 wr => ∃ i : Nat, v14 = .int .i64 i ∧ Aside0 (i + kq = D.L.length) ∧ Aside0 (Kd.R k37 37 wr w.heap.size (fun k => some k ≠ (Value.slice A D.L.length cv).ownBlock) v3 (filesT (D.L.take i))) ∧ Aside0 (wr.ownsRow w.heap.size 9 1 (.slice A D.L.length cv) D.L.length ((namesL D.L).map encStr)) ∧ Aside0 (Below w.heap.size w wr))
  case atStart => exact ⟨0, rfl, ⟨by omega⟩, ⟨R_nil0⟩, HR, HB⟩
  case round =>
    obtain ⟨i, rfl, h1, h2, h3, h4⟩ := hrel
    by_cases hi : i < D.L.length
    · have e1 : decide ((i : Int) < (D.L.length : Int)) = true := decide_eq_true (by omega)
      have e2 : decide (i < D.L.length) = true := decide_eq_true hi
      have e5 : IntKind.i64.wrap ((i : Int) + 1) = ((i + 1 : Nat) : Int) := by rw [i64_w]; unfold wrap64; omega
      obtain ⟨g, rfl, hc⟩ := row_cell h3.out (by simpa [namesL] using hi) (names_at hi)
      have hmem : D.L[i] ∈ D.L := List.getElem_mem hi
      have hnext : D.L.take (i + 1) = D.L.take i ++ [D.L[i]] := by rw [List.take_add_one, List.getElem?_eq_getElem hi]; rfl
      generalize D.L[i] = f at hc hmem hnext
      have H1 := H.out.below h4.out
      have c1r := (head_cells H1.head).2.1
      have hf : findL f.name D.L = some f := findL_mem H.out.ok.rising hmem
      have hat := H1.at hf
      obtain ⟨fp, fc, hv⟩ := hat.2.shape
      obtain ⟨d0, d1⟩ := file_cells hat
      rw [hv] at d0
      have dv := hat.2.back (P := Tryd.prog) 68 9 Tryd.underlying68 Tryd.underlying5 Tryd.underlying9
      rw [hv] at dv
      have dv2 : (convert 68 9 (.slice fp f.data.size fc)).run Tryd.prog wr.drew = .ok (.string f.data) wr.drew := by
        have h9 := (H1.step (w' := wr.drew) (fun _ _ => rfl)).at hf
        have h10 := h9.2.back (P := Tryd.prog) 68 9 Tryd.underlying68 Tryd.underlying5 Tryd.underlying9
        rw [hv] at h10
        exact h10
      have hM : Aside0 (mapL lay D.L f.name = some (some (lay f.name).1)) := ⟨mapL_some hf⟩
      have MP := Aside0.mk H1.map
      have HN : Aside0 ((⟨f.name.toArray⟩ : ByteArray).size ≤ maxLen) := ⟨by have := H.out.ok.named _ hmem; simp only [named, Bool.and_eq_true, decide_eq_true_eq] at this; show f.name.toArray.size ≤ _; simp only [List.size_toArray, maxLen]; omega⟩
      have HI := Aside0.mk hi
      have DV := Aside0.mk (And.intro dv dv2)
      clear dv dv2
      have NX := Aside0.mk hnext
      clear H1 hf hat hv hmem hnext
      go_upto_region 6 with (at_lookup; refine wp_look rfl MP.out _ _ rfl Tryd.underlying9 Tryd.underlying62 (Tryd.zeroValue65 wr) rfl ⟨f.name.toArray⟩ rfl HN.out ?_; simp only [List.toList_toArray]; rw [hM.out]; simp only [Option.getD, ptrVal])
      obtain ⟨dv, dv2⟩ := DV.out
      have aF : Aside0 (∀ k, wr.drew.heap.size ≤ k → some k ≠ (Value.slice (some ⟨g, 0, none⟩) D.L.length cv).ownBlock) := ⟨fun k hk e => by have := (World.ownsRow.lt h3.out k e.symm).2; exact absurd hk (by show ¬ wr.heap.size ≤ k; omega)⟩
      have aL : Aside0 (((filesT (D.L.take i)).length + 1) * 40 ≤ 140737488355328) := ⟨by have := HI.out; simp only [filesT, List.length_map, List.length_take]; omega⟩
      go_region_law (refine Kd.R_append_step k37 (w0 := w) w.heap.size (by rfl) (.tmp 24) (.tmp 36) 32 37 _ 40 rfl Tryd.underlying32 info37 rfl (by decide) (by omega) _ (filesT (D.L.take i)) (fileT f) [.string ⟨f.name.toArray⟩, .string f.data, .int .i64 f.safe] (fun k => some k ≠ (Value.slice (some ⟨g, 0, none⟩) D.L.length cv).ownBlock) (fun _ => False) rfl rfl (k37_mkM _ _ _ (fileT f)) (fun _ hk => hk.elim) aF.out (Kd.R_drew h2.out) h4.out.drew h4.out.size aL.out ?_; intro v1 w1 hR1 hB1 hg1 hat1; replace hR1 := Aside0.mk hR1; replace hB1 := Aside0.mk hB1; replace hg1 := Aside0.mk hg1; clear hat1)
      all_goals (go_wp2; go_roundg (D.L.length - (i + 1)))
      all_goals first
        | (have h1' := h1.out; have hi' := HI.out; omega)
        | skip
      all_goals (refine ⟨i + 1, by simp, ⟨by have h1' := h1.out; have hi' := HI.out; omega⟩, ⟨?_⟩, ⟨?_⟩, hB1⟩)
      all_goals first
        | (rw [NX.out]; simp only [filesT, List.map_append]; exact hR1.out)
        | (exact World.ownsRow.kept (w := wr.drew) h3.out hg1.out (.inr (fun e => h2.out.1 g e.symm rfl)))
    · have e1 : decide ((i : Int) < (D.L.length : Int)) = false := decide_eq_false (by omega)
      have e2 : decide (i < D.L.length) = false := decide_eq_false hi
      have hi2 : i = D.L.length := by have := h1.out; omega
      have HT : Aside0 (D.L.take i = D.L) := ⟨by rw [hi2]; exact List.take_length⟩
      clear hi hi2
      go_wp2
      go_ret
      refine ⟨_, rfl, ?_, h4.out⟩
      have h9 := h2.out
      rw [HT.out] at h9
      exact Kd.R_mono h9 (fun _ _ => trivial)
end Go.Proofs.YtakhnkkcllfbjaaDoorX
