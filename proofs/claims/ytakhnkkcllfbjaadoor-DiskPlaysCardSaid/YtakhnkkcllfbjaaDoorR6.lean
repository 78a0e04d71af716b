/- Both disks at once, and what an Op does; no conditions beyond those in each theorem's head. -/
import Derived.Test.YtakhnkkcllfbjaaDoorRN
import Derived.Test.YtakhnkkcllfbjaaDoorG8
namespace Go.Proofs.YtakhnkkcllfbjaaDoorX
open Go.RowKit Go.Proofs.YtakhnkkcllfbjaaDoorW.PrintWords Go.Proofs.YtakhnkkcllfbjaaDoorW.PrintLast Go.Proofs.YtakhnkkcllfbjaaDoorW.PrintMore
open Go.Proofs.YtakhnkkcllfbjaaDoor.PA (S37 k37 z37 S51 k37_open k37_openM k37_mk k37_mkM)
set_option linter.unusedVariables false
set_option linter.unusedSimpArgs false
def AD.plays (d : AD) (x : S51) : AD :=
  if x.f0 = 1 then (d.append x.f1.data.toList x.f3).1 else if x.f0 = 2 then (d.sync x.f1.data.toList).1 else if x.f0 = 3 then (d.rename x.f1.data.toList x.f2.data.toList).1
  else if x.f0 = 4 then (d.remove x.f1.data.toList).1 else if x.f0 = 6 then (d.arm x.f4).1 else if x.f0 = 7 then d.crash x.f5 else d
/-- The program's disk and the reference's, apart. -/
structure Both (B : Nat) (w0 w : World) (a : Nat) (S : List Nat) (r : Nat) (v : Value) (D E : AD) : Prop where
  p : Mine B w0 w a S D
  q : MineR B w0 w r v E
  apart : ∀ k ∈ S, k ∉ r :: v.ownBlock.toList
theorem Mine.fr {B : Nat} {w0 w w' : World} {a : Nat} {S T : List Nat} {D : AD} (h : Mine B w0 w a S D) (hf : Fr T w w') (hT : ∀ k ∈ T, B ≤ k) (hn : ∀ k ∈ S, k ∉ T) : Mine B w0 w' a S D := by
  obtain ⟨m, lay, h1, rfl, h3, h4, h5⟩ := h
  exact ⟨m, lay, h1.fr hf hn, rfl, h3.trans (hf.below_base hT h4), Nat.le_trans h4 hf.size, h5⟩
theorem MineR.fr {B : Nat} {w0 w w' : World} {r : Nat} {v : Value} {T : List Nat} {D : AD} (h : MineR B w0 w r v D) (hf : Fr T w w') (hT : ∀ k ∈ T, B ≤ k) (hn : ∀ k ∈ r :: v.ownBlock.toList, k ∉ T) : MineR B w0 w' r v D :=
  ⟨h.1.fr hf hn, h.2.1.trans (hf.below_base hT h.2.2.1), Nat.le_trans h.2.2.1 hf.size, h.2.2.2⟩
theorem Mine.low {B : Nat} {w0 w1 w : World} {a : Nat} {S : List Nat} {D : AD} (h : Mine w1.heap.size w1 w a S D) (hb : Below B w0 w1) (hB : B ≤ w1.heap.size) : Mine B w0 w a S D := by
  obtain ⟨m, lay, h1, rfl, h3, h4, h5⟩ := h
  exact ⟨m, lay, h1, rfl, hb.trans (h3.mono hB), Nat.le_trans hB h4, fun k hk => Nat.le_trans hB (h5 k hk)⟩
theorem MineR.low {B : Nat} {w0 w1 w : World} {r : Nat} {v : Value} {D : AD} (h : MineR w1.heap.size w1 w r v D) (hb : Below B w0 w1) (hB : B ≤ w1.heap.size) : MineR B w0 w r v D :=
  ⟨h.1, hb.trans (h.2.1.mono hB), Nat.le_trans hB h.2.2.1, fun k hk => Nat.le_trans hB (h.2.2.2 k hk)⟩
namespace Both
variable {B : Nat} {w0 w w' : World} {a r : Nat} {S : List Nat} {v : Value} {D E D' E' : AD}
theorem on (h : Both B w0 w a S r v D E) (hb : Below w.heap.size w w') : Both B w0 w' a S r v D E := ⟨h.p.on hb, h.q.on hb, h.apart⟩
theorem fr {T : List Nat} (h : Both B w0 w a S r v D E) (hf : Fr T w w') (hT : ∀ k ∈ T, B ≤ k) (h1 : ∀ k ∈ S, k ∉ T) (h2 : ∀ k ∈ r :: v.ownBlock.toList, k ∉ T) : Both B w0 w' a S r v D E := ⟨h.p.fr hf hT h1, h.q.fr hf hT h2, h.apart⟩
theorem prog (h : Both B w0 w a S r v D E) (hd : ∃ S', Mine B w0 w' a S' D' ∧ Fr S w w' ∧ ∀ k ∈ S', k ∈ S ∨ w.heap.size ≤ k) : ∃ S', Both B w0 w' a S' r v D' E ∧ Fr S w w' ∧ ∀ k ∈ S', k ∈ S ∨ w.heap.size ≤ k := by
  obtain ⟨S', h1, h2, h3⟩ := hd
  have hS : ∀ k ∈ S, B ≤ k := by
    obtain ⟨m, lay, q1, rfl, q3, q4, q5⟩ := h.p
    exact q5
  refine ⟨S', ⟨h1, h.q.fr h2 hS (fun k hk hx => h.apart k hx hk), fun k hk hx => ?_⟩, h2, h3⟩
  rcases h3 k hk with h9 | h9
  · exact h.apart k h9 hx
  · have := h.q.1.lt k hx
    omega
theorem ref (h : Both B w0 w a S r v D E) (hd : RDid w w' r v E') : ∃ v', Both B w0 w' a S r v' D E' ∧ Fr (r :: v.ownBlock.toList) w w' ∧ ∀ k ∈ v'.ownBlock.toList, k ∈ v.ownBlock.toList ∨ w.heap.size ≤ k := by
  obtain ⟨v', h1, h2, h3⟩ := h.q.did hd
  refine ⟨v', ⟨h.p.fr h2 h.q.2.2.2 h.apart, h1, fun k hk hx => ?_⟩, h2, h3⟩
  simp only [List.mem_cons] at hx
  rcases hx with rfl | hx
  · exact h.apart k hk (by simp)
  · rcases h3 k hx with h9 | h9
    · exact h.apart k hk (by simp only [List.mem_cons]; exact .inr h9)
    · have := h.p.lt k hk
      omega
theorem below (h : Both B w0 w a S r v D E) : Below B w0 w := h.p.below
theorem size (h : Both B w0 w a S r v D E) : B ≤ w.heap.size := h.q.2.2.1
end Both
section
variable {B : Nat} {w0 w : World} {a : Nat} {S : List Nat} {D : AD}
theorem M_append2 (h : Mine B w0 w a S D) (s y : ByteArray) (hs : s.size ≤ maxLen) : Calls Tryd.prog 10 #[.pointer (some ⟨a, 0, none⟩), .string s, .string y] w fun e w' => e = .returned (.int .i64 (D.append s.data.toList y).2) ∧ ∃ S', Mine B w0 w' a S' (D.append s.data.toList y).1 ∧ Fr S w w' ∧ ∀ k ∈ S', k ∈ S ∨ w.heap.size ≤ k := by
  obtain ⟨m, lay, h1, rfl, h3, h4, h5⟩ := h
  exact (Append_calls h1 s y hs).mono (fun e w' ⟨q1, q2⟩ => ⟨q1, Mine.did2 rfl h3 h4 h5 q2⟩)
theorem M_sync2 (h : Mine B w0 w a S D) (s : ByteArray) (hs : s.size ≤ maxLen) : Calls Tryd.prog 11 #[.pointer (some ⟨a, 0, none⟩), .string s] w fun e w' => e = .returned (.int .i64 (D.sync s.data.toList).2) ∧ ∃ S', Mine B w0 w' a S' (D.sync s.data.toList).1 ∧ Fr S w w' ∧ ∀ k ∈ S', k ∈ S ∨ w.heap.size ≤ k := by
  obtain ⟨m, lay, h1, rfl, h3, h4, h5⟩ := h
  refine (Sync_calls h1 s hs).mono (fun e w' hh => ⟨hh.1, Mine.did2 rfl h3 h4 h5 ⟨lay, hh.2.1, hh.2.2, fun k hk => .inl ?_⟩⟩)
  obtain ⟨f, hf, hk⟩ := mem_ownL.1 hk
  have h9 : hasL f.name D.L = true := by
    have h10 : hasL f.name (D.sync s.data.toList).1.L = true := mem_names.1 (List.mem_map_of_mem hf)
    unfold AD.sync at h10
    split at h10
    · exact h10
    · split at h10
      · exact h10
      · rw [hasL_upd (g := safeF) (fun _ => rfl)] at h10
        exact h10
  obtain ⟨g, hg, e⟩ := List.mem_map.1 (mem_names.2 h9)
  exact mem_ownL.2 ⟨g, hg, by rw [e]; exact hk⟩
theorem M_rename2 (h : Mine B w0 w a S D) (s t : ByteArray) (hs : s.size ≤ maxLen) (ht : t.size ≤ maxLen) : Calls Tryd.prog 16 #[.pointer (some ⟨a, 0, none⟩), .string s, .string t] w fun e w' => e = .returned (.int .i64 (D.rename s.data.toList t.data.toList).2) ∧ ∃ S', Mine B w0 w' a S' (D.rename s.data.toList t.data.toList).1 ∧ Fr S w w' ∧ ∀ k ∈ S', k ∈ S ∨ w.heap.size ≤ k := by
  obtain ⟨m, lay, h1, rfl, h3, h4, h5⟩ := h
  exact (Rename_calls h1 s t hs ht).mono (fun e w' hh => ⟨hh.1, Mine.did2 rfl h3 h4 h5 hh.2⟩)
theorem M_remove2 (h : Mine B w0 w a S D) (s : ByteArray) (hs : s.size ≤ maxLen) : Calls Tryd.prog 36 #[.pointer (some ⟨a, 0, none⟩), .string s] w fun e w' => e = .returned (.int .i64 (D.remove s.data.toList).2) ∧ ∃ S', Mine B w0 w' a S' (D.remove s.data.toList).1 ∧ Fr S w w' ∧ ∀ k ∈ S', k ∈ S ∨ w.heap.size ≤ k := by
  obtain ⟨m, lay, h1, rfl, h3, h4, h5⟩ := h
  exact (Remove_calls h1 s hs).mono (fun e w' hh => ⟨hh.1, Mine.did2 rfl h3 h4 h5 hh.2⟩)
theorem M_arm2 (h : Mine B w0 w a S D) (n : Int) (hn : n ≤ 9223372036854775807) : Calls Tryd.prog 15 #[.pointer (some ⟨a, 0, none⟩), .int .i64 n] w fun e w' => e = .returned (.int .i64 (D.arm n).2) ∧ ∃ S', Mine B w0 w' a S' (D.arm n).1 ∧ Fr S w w' ∧ ∀ k ∈ S', k ∈ S ∨ w.heap.size ≤ k := by
  obtain ⟨m, lay, h1, rfl, h3, h4, h5⟩ := h
  exact (Arm_calls h1 n hn).mono (fun e w' hh => ⟨hh.1, Mine.did2 rfl h3 h4 h5 (Did.same hh.2.1 (arm_L D n) (hh.2.2.mono (fun x hx => by simp at hx; simp [hx])))⟩)
end
end Go.Proofs.YtakhnkkcllfbjaaDoorX
