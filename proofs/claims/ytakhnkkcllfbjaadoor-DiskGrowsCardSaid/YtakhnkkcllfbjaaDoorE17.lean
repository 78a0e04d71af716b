/- A disk of a law's own: each call, as the law meets it. -/
import Derived.Test.YtakhnkkcllfbjaaDoorE16
namespace Go.Proofs.YtakhnkkcllfbjaaDoorX
open Go.RowKit Go.Proofs.YtakhnkkcllfbjaaDoorW.PrintWords Go.Proofs.YtakhnkkcllfbjaaDoorW.PrintLast Go.Proofs.YtakhnkkcllfbjaaDoorW.PrintMore
open Go.Proofs.YtakhnkkcllfbjaaDoor.PA (S37 k37 z37 k37_mkM)
set_option linter.unusedVariables false
set_option linter.unusedSimpArgs false
/-- A disk at a that was made since w0 (from block B on). -/
def Mine (B : Nat) (w0 w : World) (a : Nat) (S : List Nat) (D : AD) : Prop := ∃ m lay, DK w a m lay D ∧ S = a :: m :: ownL lay D.L ∧ Below B w0 w ∧ B ≤ w.heap.size ∧ ∀ k ∈ S, B ≤ k
section
variable {B : Nat} {w0 w : World} {a : Nat} {S : List Nat} {D : AD}
theorem Mine.below (h : Mine B w0 w a S D) : Below B w0 w := by obtain ⟨m, lay, h1, h2, h3, h4, h5⟩ := h; exact h3
theorem Mine.lt (h : Mine B w0 w a S D) : ∀ k ∈ S, k < w.heap.size := by
  obtain ⟨m, lay, h1, rfl, h3, h4, h5⟩ := h
  exact h1.lt
theorem Mine.ok (h : Mine B w0 w a S D) : D.Ok := by obtain ⟨m, lay, h1, h2, h3, h4, h5⟩ := h; exact h1.ok
theorem Mine.on {w' : World} (h : Mine B w0 w a S D) (hb : Below w.heap.size w w') : Mine B w0 w' a S D := by
  obtain ⟨m, lay, h1, rfl, h3, h4, h5⟩ := h
  exact ⟨m, lay, h1.below hb, rfl, h3.trans (hb.mono h4), Nat.le_trans h4 hb.size, h5⟩
theorem Mine.drewN (h : Mine B w0 w a S D) (n : Nat) : Mine B w0 (w.drewN n) a S D := by
  obtain ⟨m, lay, h1, rfl, h3, h4, h5⟩ := h
  exact ⟨m, lay, h1.step (fun _ _ => rfl), rfl, pw_below_drewN h3 n, h4, h5⟩
theorem Mine.did {w' : World} {D' : AD} {m : Nat} {lay : Lay} (h3 : Below B w0 w) (h4 : B ≤ w.heap.size) (h5 : ∀ k ∈ a :: m :: ownL lay D.L, B ≤ k) (hd : Did w w' a m lay D D') : ∃ S', Mine B w0 w' a S' D' ∧ Fr (a :: m :: ownL lay D.L) w w' := by
  obtain ⟨lay', k1, k2, k3⟩ := hd
  refine ⟨_, ⟨m, lay', k1, rfl, h3.trans (k2.below_base h5 h4), Nat.le_trans h4 k2.size, fun k hk => ?_⟩, k2⟩
  simp only [List.mem_cons] at hk
  rcases hk with rfl | rfl | hk
  · exact h5 _ (by simp)
  · exact h5 _ (by simp)
  · rcases k3 k hk with h | h
    · exact h5 k (by simp [h])
    · exact Nat.le_trans h4 h
theorem M_append (h : Mine B w0 w a S D) (s y : ByteArray) (hs : s.size ≤ maxLen) : Calls Tryd.prog 10 #[.pointer (some ⟨a, 0, none⟩), .string s, .string y] w fun e w' => e = .returned (.int .i64 (D.append s.data.toList y).2) ∧ ∃ S', Mine B w0 w' a S' (D.append s.data.toList y).1 ∧ Fr S w w' := by
  obtain ⟨m, lay, h1, rfl, h3, h4, h5⟩ := h
  exact (Append_calls h1 s y hs).mono (fun e w' hh => ⟨hh.1, Mine.did h3 h4 h5 hh.2⟩)
theorem M_sync (h : Mine B w0 w a S D) (s : ByteArray) (hs : s.size ≤ maxLen) : Calls Tryd.prog 11 #[.pointer (some ⟨a, 0, none⟩), .string s] w fun e w' => e = .returned (.int .i64 (D.sync s.data.toList).2) ∧ ∃ S', Mine B w0 w' a S' (D.sync s.data.toList).1 ∧ Fr S w w' := by
  obtain ⟨m, lay, h1, rfl, h3, h4, h5⟩ := h
  refine (Sync_calls h1 s hs).mono (fun e w' hh => ⟨hh.1, Mine.did h3 h4 h5 ⟨lay, hh.2.1, hh.2.2, fun k hk => .inl ?_⟩⟩)
  obtain ⟨f, hf, hk⟩ := mem_ownL.1 hk
  have h9 : hasL f.name D.L = true := by
    have h10 : hasL f.name (D.sync s.data.toList).1.L = true := mem_names.1 (List.mem_map_of_mem hf)
    unfold AD.sync at h10
    split at h10
    · exact h10
    · split at h10
      · exact h10
      · rw [hasL_upd (g := safeF) (fun _ => rfl)] at h10
        exact h10
  obtain ⟨g, hg, e⟩ := List.mem_map.1 (mem_names.2 h9)
  exact mem_ownL.2 ⟨g, hg, by rw [e]; exact hk⟩
theorem M_rename (h : Mine B w0 w a S D) (s t : ByteArray) (hs : s.size ≤ maxLen) (ht : t.size ≤ maxLen) : Calls Tryd.prog 16 #[.pointer (some ⟨a, 0, none⟩), .string s, .string t] w fun e w' => e = .returned (.int .i64 (D.rename s.data.toList t.data.toList).2) ∧ ∃ S', Mine B w0 w' a S' (D.rename s.data.toList t.data.toList).1 ∧ Fr S w w' := by
  obtain ⟨m, lay, h1, rfl, h3, h4, h5⟩ := h
  exact (Rename_calls h1 s t hs ht).mono (fun e w' hh => ⟨hh.1, Mine.did h3 h4 h5 hh.2⟩)
theorem M_remove (h : Mine B w0 w a S D) (s : ByteArray) (hs : s.size ≤ maxLen) : Calls Tryd.prog 36 #[.pointer (some ⟨a, 0, none⟩), .string s] w fun e w' => e = .returned (.int .i64 (D.remove s.data.toList).2) ∧ ∃ S', Mine B w0 w' a S' (D.remove s.data.toList).1 ∧ Fr S w w' := by
  obtain ⟨m, lay, h1, rfl, h3, h4, h5⟩ := h
  exact (Remove_calls h1 s hs).mono (fun e w' hh => ⟨hh.1, Mine.did h3 h4 h5 hh.2⟩)
theorem arm_L (D : AD) (n : Int) : (D.arm n).1.L = D.L := by
  unfold AD.arm
  split
  · rfl
  · split <;> rfl
theorem M_arm (h : Mine B w0 w a S D) (n : Int) (hn : n ≤ 9223372036854775807) : Calls Tryd.prog 15 #[.pointer (some ⟨a, 0, none⟩), .int .i64 n] w fun e w' => e = .returned (.int .i64 (D.arm n).2) ∧ ∃ S', Mine B w0 w' a S' (D.arm n).1 ∧ Fr S w w' := by
  obtain ⟨m, lay, h1, rfl, h3, h4, h5⟩ := h
  exact (Arm_calls h1 n hn).mono (fun e w' hh => ⟨hh.1, Mine.did h3 h4 h5 (Did.same hh.2.1 (arm_L D n) (hh.2.2.mono (fun x hx => by simp at hx; simp [hx])))⟩)
theorem M_crash (h : Mine B w0 w a S D) (A : Option Addr) (c : Nat) (ks : List Int) (hk : Keeps S w A ks) (hc : ks.length ≤ c) (hkl : ks.length ≤ 4611686018427387904) : Calls Tryd.prog 17 #[.pointer (some ⟨a, 0, none⟩), .slice A ks.length c] w fun e w' => e = .returned (.tuple #[]) ∧ ∃ S', Mine B w0 w' a S' (D.crash ks) ∧ Fr S w w' := by
  obtain ⟨m, lay, h1, rfl, h3, h4, h5⟩ := h
  exact (Crash_calls h1 A c ks hk hc hkl).mono (fun e w' hh => ⟨hh.1, Mine.did h3 h4 h5 hh.2⟩)
theorem M_free (h : Mine B w0 w a S D) : Calls Tryd.prog 12 #[.pointer (some ⟨a, 0, none⟩)] w fun e w' => e = .returned (.int .i64 D.free) ∧ Mine B w0 w' a S D ∧ Below w.heap.size w w' := by
  obtain ⟨m, lay, h1, h2⟩ := h
  exact (Free_calls h1).mono (fun e w' hh => by obtain ⟨rfl, n, rfl⟩ := hh; exact ⟨rfl, Mine.drewN ⟨m, lay, h1, h2⟩ n, pw_below_drewN (Below.refl _ _) n⟩)
theorem M_steps (h : Mine B w0 w a S D) : Calls Tryd.prog 24 #[.pointer (some ⟨a, 0, none⟩)] w fun e w' => e = .returned (.int .i64 D.steps) ∧ Mine B w0 w' a S D ∧ Below w.heap.size w w' := by
  obtain ⟨m, lay, h1, h2⟩ := h
  exact (Steps_calls h1).mono (fun e w' hh => by obtain ⟨rfl, n, rfl⟩ := hh; exact ⟨rfl, Mine.drewN ⟨m, lay, h1, h2⟩ n, pw_below_drewN (Below.refl _ _) n⟩)
theorem M_down (h : Mine B w0 w a S D) : Calls Tryd.prog 21 #[.pointer (some ⟨a, 0, none⟩)] w fun e w' => e = .returned (.bool D.down) ∧ Mine B w0 w' a S D ∧ Below w.heap.size w w' := by
  obtain ⟨m, lay, h1, h2⟩ := h
  exact (Down_calls h1).mono (fun e w' hh => by obtain ⟨rfl, n, rfl⟩ := hh; exact ⟨rfl, Mine.drewN ⟨m, lay, h1, h2⟩ n, pw_below_drewN (Below.refl _ _) n⟩)
theorem M_files (h : Mine B w0 w a S D) : Calls Tryd.prog 13 #[.pointer (some ⟨a, 0, none⟩)] w fun e w' => ∃ v, e = .returned v ∧ Kd.R k37 37 w' w.heap.size (fun _ => True) v (filesT D.L) ∧ Mine B w0 w' a S D ∧ Below w.heap.size w w' := by
  have hh := h
  obtain ⟨m, lay, h1, h2⟩ := h
  exact (Files_calls h1).mono (fun e w' ⟨v, k1, k2, k3⟩ => ⟨v, k1, k2, hh.on k3, k3⟩)
theorem M_read (h : Mine B w0 w a S D) (s : ByteArray) (hs : s.size ≤ maxLen) : Calls Tryd.prog 14 #[.pointer (some ⟨a, 0, none⟩), .string s] w fun e w' => e = .returned (.tuple #[.string (D.read s.data.toList).1, .int .i64 (D.read s.data.toList).2]) ∧ Mine B w0 w' a S D ∧ Below w.heap.size w w' := by
  have hh := h
  obtain ⟨m, lay, h1, h2⟩ := h
  exact (Read_calls h1 s hs).mono (fun e w' k => ⟨k.1, hh.on k.2, k.2⟩)
theorem M_new (size : Int) (h0 : 0 ≤ size) (h1 : size ≤ 1048576) (h : Below B w0 w) (hB : B ≤ w.heap.size) : Calls Tryd.prog 9 #[.int .i64 size, .slice none 0 0] w fun e w' => ∃ a S, e = .returned (.tuple #[.pointer (some ⟨a, 0, none⟩), .int .i64 0]) ∧ Mine B w0 w' a S (AD.fresh size []) ∧ Below w.heap.size w w' :=
  (New_nil size h0 h1 w).mono (fun e w' ⟨a, m, lay, k1, k2, k3, k4⟩ => ⟨a, _, k1, ⟨m, lay, k2, rfl, h.trans (k3.mono hB), Nat.le_trans hB k3.size, fun k hk => Nat.le_trans hB (k4 k hk)⟩, k3⟩)
end
end Go.Proofs.YtakhnkkcllfbjaaDoorX
