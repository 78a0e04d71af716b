/- New of no files: an empty disk. -/
import Derived.Test.YtakhnkkcllfbjaaDoorE15
namespace Go.Proofs.YtakhnkkcllfbjaaDoorX
open Go.RowKit Go.Proofs.YtakhnkkcllfbjaaDoorW.PrintWords Go.Proofs.YtakhnkkcllfbjaaDoorW.PrintLast Go.Proofs.YtakhnkkcllfbjaaDoorW.PrintMore
set_option linter.unusedVariables false
set_option linter.unusedSimpArgs false
theorem none46_calls (w : World) : Calls Tryd.prog 46 #[.slice none 0 0, .func (.func 28) #[] #[]] w fun e w' => e = .returned (.int .i64 (-1)) ∧ w' = w := by
  go_enter Tryd.func46, Tryd.ntmps46
  go_wp2
  go_loopg [8] 1 (fun kq v8 wr => v8 = .int .i64 0 ∧ wr = w)
  case atStart => exact ⟨rfl, rfl⟩
  case round =>
    obtain ⟨rfl, rfl⟩ := hrel
    go_wp2
    go_ret
    exact ⟨rfl, rfl⟩
theorem none27_calls (w : World) : Calls Tryd.prog 27 #[.slice none 0 0, .func (.func 28) #[] #[]] w fun e w' => e = .returned (.bool false) ∧ w' = w := by
  have c := none46_calls w
  go_enter Tryd.func27, Tryd.ntmps27
  go_wp2_with (go_at_call 46; refine c.mono ?_; rintro e w1 ⟨rfl, rfl⟩)
  go_ret
  exact ⟨rfl, rfl⟩
/-- A disk that has just been made. -/
def Made (w w' : World) (a m : Nat) (lay : Lay) (D : AD) : Prop := DK w' a m lay D ∧ Below w.heap.size w w' ∧ ∀ k ∈ a :: m :: ownL lay D.L, w.heap.size ≤ k
theorem fresh_ok {size : Int} (h0 : 0 ≤ size) (h1 : size ≤ 1048576) : (AD.fresh size []).Ok :=
  ⟨h0, h1, h0, by show 0 ≤ 64; omega, List.Pairwise.nil, fun _ h => (by cases h), fun _ h => (by cases h), by show (-1 : Int) ≤ -1; omega, by show (-1 : Int) ≤ _; omega, by show _ ≤ (0 : Int); omega, by show (0 : Int) ≤ _; omega⟩
theorem New_nil (size : Int) (h0 : 0 ≤ size) (h1 : size ≤ 1048576) (w : World) : Calls Tryd.prog 9 #[.int .i64 size, .slice none 0 0] w fun e w' => ∃ a m lay, e = .returned (.tuple #[.pointer (some ⟨a, 0, none⟩), .int .i64 0]) ∧ Made w w' a m lay (AD.fresh size []) := by
  have c27 := none27_calls w
  have e1 : decide (size < 0) = false := decide_eq_false (by omega)
  have e2 : decide (1048576 < size) = false := decide_eq_false (by omega)
  have OK := Aside0.mk (fresh_ok h0 h1)
  clear h0 h1
  have hmm := @run_makeMap Tryd.prog
  go_enter Tryd.func9, Tryd.ntmps9
  go_wp2_with (go_at_call 27; refine c27.mono ?_; rintro e w1 ⟨rfl, rfl⟩)
  generalize hW : ((w1.alloc (.map #[] 0)).alloc (.cells #[.int .i64 size, .map (some w1.heap.size), .int .i64 0, .int .i64 (-1), .bool false, .int .i64 0] 64)) = W
  have HW := Aside0.mk hW
  clear hW
  go_loopg [29] 1 (fun kq v29 wr => v29 = .int .i64 0 ∧ wr = W)
  case atStart => exact ⟨rfl, rfl⟩
  case round =>
    obtain ⟨rfl, rfl⟩ := hrel
    go_wp2
    go_loopg [59] 1 (fun kq v59 wr2 => v59 = .int .i64 0 ∧ wr2 = wr)
    case atStart => exact ⟨rfl, rfl⟩
    case round =>
      obtain ⟨rfl, rfl⟩ := hrel
      go_wp2
      go_ret2
      refine ⟨w1.heap.size + 1, w1.heap.size, fun _ => (0, .slice none 0 0), rfl, ⟨?_, ?_, ?_, ⟨by omega, fun f hf => (by cases hf), fun f hf => (by cases hf), fun f hf => (by cases hf), fun f hf => (by cases hf)⟩, OK.out⟩, ?_, ?_⟩
      · rw [← HW.out]
        have h9 := blk_new (w1.alloc (.map #[] 0)) (.cells #[.int .i64 size, .map (some w1.heap.size), .int .i64 0, .int .i64 (-1), .bool false, .int .i64 0] 64)
        rw [show (w1.alloc (.map #[] 0)).heap.size = w1.heap.size + 1 by simp] at h9
        exact h9
      · rw [← HW.out]
        exact (MapP.made Tryd.prog 9 w1).step (Below.heap_alloc _ _ _ (by simp))
      · exact fun f hf => by cases hf
      · rw [← HW.out]
        exact below_alloc (below_alloc (Below.refl _ _) _) _
      · intro k hk
        simp only [List.mem_cons] at hk
        rcases hk with rfl | rfl | hk
        · omega
        · exact Nat.le_refl _
        · cases hk
end Go.Proofs.YtakhnkkcllfbjaaDoorX
