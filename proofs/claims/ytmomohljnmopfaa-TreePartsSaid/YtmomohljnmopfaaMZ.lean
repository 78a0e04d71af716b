/- Several texts in one: XB; no conditions beyond those in each theorem's head. -/
import Derived.Test.YtmomohljnmopfaaMJ
import Derived.Test.YtmomohljnmopfaaME
import Derived.Test.YtmomohljnmopfaaMK
section
namespace Go.Proofs.YtmomohljnmopfaaX
open Go.RowKit Go.Lib Go.Proofs.YtmomohljnmopfaaW.PrintWords Go.Proofs.YtmomohljnmopfaaW.PrintLast Go.Proofs.YtmomohljnmopfaaW.PrintMore
set_option linter.unusedVariables false
set_option linter.unusedSimpArgs false
open Classical in
/-- What the reference's New promises. -/
def NewR (m : Int) (l : List KV) (w : World) (e : Ending) (w' : World) : Prop :=
  if m < 4 ∨ 64 < m then e = .returned (.tuple #[.pointer none, .int .i64 70]) ∧ Below w.heap.size w w'
  else if Rises l then ∃ rb S, e = .returned (.tuple #[.pointer (some ⟨rb, 0, none⟩), .int .i64 0]) ∧ RefT w' rb m l S ∧ Below w.heap.size w w' ∧ ∀ k ∈ S, w.heap.size ≤ k
  else e = .returned (.tuple #[.pointer none, .int .i64 71]) ∧ Below w.heap.size w w'
set_option maxRecDepth 100000 in
set_option maxHeartbeats 8000000 in
theorem newR_bad {m : Int} {n c : Nat} {l : List KV} {A : Option Addr} {w : World} (hb : m < 4 ∨ 64 < m) : Calls Try.prog 12 #[.int .i64 m, .slice A n c] w (NewR m l w) := by
  have e0 : NewR m l w = fun e w' => e = .returned (.tuple #[.pointer none, .int .i64 70]) ∧ Below w.heap.size w w' := by funext e w'; unfold NewR; rw [if_pos hb]
  rw [e0]
  clear e0
  rcases hb with hb | hb
  · have e1 : decide (m < 4) = true := decide_eq_true hb
    go_enter Try.func12, Try.ntmps12
    go_wp2
    go_ret2
    exact ⟨rfl, Below.refl _ _⟩
  · have e1 : decide (m < 4) = false := decide_eq_false (by omega)
    have e2 : decide (64 < m) = true := decide_eq_true hb
    go_enter Try.func12, Try.ntmps12
    go_wp2
    go_ret2
    exact ⟨rfl, Below.refl _ _⟩
set_option maxRecDepth 100000 in
set_option maxHeartbeats 8000000 in
theorem newR_calls {m : Int} {c : Nat} {A : Option Addr} {l : List KV} {w : World} (h4 : 4 ≤ m) (hm : m ≤ 64) (hs : SrcP w A l) (hc : l.length ≤ c) (hn : l.length ≤ 2147483648) : Calls Try.prog 12 #[.int .i64 m, .slice A l.length c] w (NewR m l w) := by
  have e1 : decide ((m : Int) < 4) = false := decide_eq_false (by omega)
  have e3 : decide (64 < (m : Int)) = false := decide_eq_false (by omega)
  obtain ⟨n, hnn⟩ : ∃ n, l.length = n := ⟨_, rfl⟩
  rw [hnn] at hc hn ⊢
  have HL := Aside0.mk (And.intro hnn (And.intro hc hn))
  have HS := Aside0.mk hs
  have HM := Aside0.mk (And.intro h4 hm)
  clear hs hc hn hnn h4 hm
  go_enter Try.func12, Try.ntmps12
  go_upto_region 4 with fail
  go_loopg [6] n (fun kq v27 wr => ∃ (i j : Nat), v27 = .int .i64 i ∧ wr = w.drewN j ∧ Aside0 (i + kq = n + 1 ∧ 1 ≤ i) ∧ Aside0 (AdjTo l i))
  case atStart => exact ⟨1, 0, rfl, rfl, ⟨by omega⟩, ⟨fun j p q hj => absurd hj (by omega)⟩⟩
  case round =>
    obtain ⟨i, j, rfl, rfl, h1, h2⟩ := hrel
    by_cases hi : i < n
    · have d1 : decide ((i : Int) < (n : Int)) = true := decide_eq_true (by omega)
      have d2 : decide (i < n) = true := decide_eq_true hi
      obtain ⟨W, hW⟩ : ∃ W, w.drewN j = W := ⟨_, rfl⟩
      have HW := Aside0.mk hW
      rw [hW]
      clear hW
      obtain ⟨i0, hi0⟩ : ∃ i0, i = i0 + 1 := ⟨i - 1, by have := h1.out; omega⟩
      obtain ⟨p, hp⟩ : ∃ p, l[i0]? = some p := ⟨_, List.getElem?_eq_getElem (by have := HL.out.1; omega)⟩
      obtain ⟨q, hq⟩ : ∃ q, l[i]? = some q := ⟨_, List.getElem?_eq_getElem (by have := HL.out.1; omega)⟩
      have hSW : SrcP W A l := by rw [← HW.out]; exact HS.out.below (pw_below_drewN (Below.refl _ _) j)
      obtain ⟨ad, rfl, z0, -⟩ := hSW i0 p hp
      obtain ⟨ad', had, z1, -⟩ := hSW i q hq
      cases had
      have d4 : (i : Int) < (n : Int) := by omega
      have d5 : (i0 : Int) < (n : Int) := by omega
      have HPQ := Aside0.mk (And.intro hp (And.intro hq (And.intro hi0 hi)))
      have hn5 : i ≤ 2147483648 := by have := HL.out; omega
      have d6 : wrap64 ((i : Int) - 1) = (i0 : Int) := by rw [hi0]; clear d1 d2; unfold wrap64; omega
      have d6' : IntKind.i64.wrap ((i : Int) - 1) = (i0 : Int) := by rw [i64w]; exact d6
      clear hp hq hSW hi0 hn5 hi
      by_cases hlt : p.1 < q.1
      · have d7 : Op.bytesLess p.1 q.1 = true := by rw [nlt_eq]; exact decide_eq_true hlt
        have HLT := Aside0.mk hlt
        clear hlt
        go_upto_region 6 with fail
        go_quiet (fail)
        go_wp2
        go_roundg (gk - 1)
        case measure => have := h1.out; have := HPQ.out; omega
        case rel => exact ⟨i + 1, j + nq, by rw [w64j (by have := HPQ.out; have := HL.out; have := h1.out; omega)], by rw [← HW.out, World.drewN_drewN], ⟨by have := h1.out; have := HPQ.out; omega⟩, ⟨adj_next h2.out HPQ.out.2.2.1 HPQ.out.1 HPQ.out.2.1 HLT.out⟩⟩
      · have d7 : Op.bytesLess p.1 q.1 = false := by rw [nlt_eq]; exact decide_eq_false hlt
        have HLT : Aside0 (¬ p.1 < q.1) := ⟨hlt⟩
        clear hlt
        go_upto_region 6 with fail
        go_quiet (fail)
        go_wp2
        go_ret2
        have hnr : ¬ Rises l := fun h9 => HLT.out (by
          have h8 := rises_adj h9 (i + 1) i0 p q (by have := HPQ.out; omega) HPQ.out.1 (by rw [← HPQ.out.2.2.1]; exact HPQ.out.2.1)
          exact h8)
        unfold NewR
        rw [if_neg (by have := HM.out; omega), if_neg hnr]
        have hbw : Below w.heap.size w (W.drewN nq) := by rw [← HW.out]; exact pw_below_drewN (pw_below_drewN (Below.refl _ _) _) _
        exact ⟨rfl, hbw⟩
    · have d1 : decide ((i : Int) < (n : Int)) = false := decide_eq_false (by omega)
      have d2 : decide (i < n) = false := decide_eq_false hi
      have hra : Rises l := adj_rises (by
        have h9 := h2.out
        have h8 := HL.out.1
        rw [h8]
        exact fun j p q hj => h9 j p q (by omega))
      obtain ⟨W, hW⟩ : ∃ W, w.drewN j = W := ⟨_, rfl⟩
      have HW : Aside0 (Below w.heap.size w W ∧ SrcP W A l) := ⟨by rw [← hW]; exact ⟨pw_below_drewN (Below.refl _ _) _, HS.out.below (pw_below_drewN (Below.refl _ _) _)⟩⟩
      rw [hW]
      have hn4 : n ≤ 4294967296 := by have := HL.out; omega
      have hmk := run_make22 W n hn4
      have HRA := Aside0.mk hra
      have r1 := rowP_made W hn4
      obtain ⟨W1, hW1⟩ : ∃ W1, W.alloc (.cells (madeCells zeroP (n * 2)) 40) = W1 := ⟨_, rfl⟩
      have b1 : Below W.heap.size W W1 := by rw [← hW1]; exact below_alloc (Below.refl _ _) _
      have s1 : W1.heap.size = W.heap.size + 1 := by rw [← hW1]; simp
      rw [hW1] at r1 hmk
      obtain ⟨W2, hW2⟩ : ∃ W2, W1.alloc (.cells #[.int .i64 m, .slice (some ⟨W.heap.size, 0, none⟩) n n] 67) = W2 := ⟨_, rfl⟩
      have b2 : Below W1.heap.size W1 W2 := by rw [← hW2]; exact below_alloc (Below.refl _ _) _
      have h67 : W2.heap[W1.heap.size]? = some (.cells #[.int .i64 m, .slice (some ⟨W.heap.size, 0, none⟩) n n] 67 (0, 0)) := by rw [← hW2]; exact blk_new _ _
      have r2 := r1.below b2
      have hs2 : SrcP W2 A l := (HW.out.2.below b1).below b2
      obtain ⟨L, hL⟩ : ∃ L, List.replicate n zKV = L := ⟨_, rfl⟩
      have hLn : L.length = n := by rw [← hL]; simp
      have hln := HL.out.1
      obtain ⟨W3, hcp, r3, g3⟩ := copy_rowp (cA := c) (show RowP W2 (.slice (some ⟨W.heap.size, 0, none⟩) L.length n) L from by rw [hLn, ← hL]; exact r2) hs2 (by omega)
      rw [hLn, hln] at hcp
      rw [hLn, List.drop_of_length_le (by omega), List.append_nil] at r3
      have h673 : W3.heap[W1.heap.size]? = some (.cells #[.int .i64 m, .slice (some ⟨W.heap.size, 0, none⟩) n n] 67 (0, 0)) := (g3.block _ (blk_lt h67) (fun e => by have := Option.some.inj e; omega)).trans h67
      have HE : Aside0 (NewR m l w (.returned (.tuple #[.pointer (some ⟨W1.heap.size, 0, none⟩), .int .i64 0])) W3) := ⟨by
        unfold NewR
        rw [if_neg (by have := HM.out; omega), if_pos HRA.out]
        have bz := HW.out.1.size
        have bb : Below w.heap.size w W2 := (HW.out.1.trans (b1.mono bz)).trans (b2.mono (by omega))
        refine ⟨W1.heap.size, _, rfl, ⟨_, h673, r3, rfl, ?_⟩, bb.grown g3 (by have := bb.size; omega) (fun k hk => by have := Option.some.inj hk; omega), fun k hk => ?_⟩
        · simp [Value.ownBlock]; omega
        · simp [Value.ownBlock] at hk
          rcases hk with rfl | rfl <;> omega⟩
      have c67 := (blk_cell h67 1).trans rfl
      clear hra r1 b1 s1 b2 h67 r2 hs2 r3 g3 h673 hln hLn hn4
      go_wp2
      go_ret2
      exact HE.out
end Go.Proofs.YtmomohljnmopfaaX
end
