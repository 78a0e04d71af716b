/- Several texts in one: VR, XA; no conditions beyond those in each theorem's head. -/
import Derived.Test.YtmomohljnmopfaaME
import Derived.Stop.RegionWithIn
import Derived.Sort.LoopGhostIn
import Derived.Sort.CutIn
import Derived.Shelf.Abstract
import Derived.Test.YtmomohljnmopfaaPK
section
namespace Go.Proofs.YtmomohljnmopfaaX
open Go.RowKit Go.Lib Go.Proofs.YtmomohljnmopfaaW.PrintWords Go.Proofs.YtmomohljnmopfaaW.PrintLast Go.Proofs.YtmomohljnmopfaaW.PrintMore
set_option linter.unusedVariables false
set_option linter.unusedSimpArgs false
attribute [local go_sem high] eqlNil71 eqlNil72
attribute [local go_sem] Oper.semAt_some
open Classical in
/-- What New promises. -/
def NewP (m : Int) (l : List KV) (w : World) (e : Ending) (w' : World) : Prop :=
  if m < 4 ∨ 64 < m then e = .returned (.tuple #[.pointer none, .int .i64 70]) ∧ Below w.heap.size w w'
  else if Rises l then ∃ tb S, e = .returned (.tuple #[.pointer (some ⟨tb, 0, none⟩), .int .i64 0]) ∧ Tr m.toNat w' tb l S ∧ Below w.heap.size w w' ∧ ∀ k ∈ S, w.heap.size ≤ k
  else e = .returned (.tuple #[.pointer none, .int .i64 71]) ∧ Below w.heap.size w w'
set_option maxRecDepth 100000 in
set_option maxHeartbeats 8000000 in
theorem new_bad {m : Int} {n c : Nat} {l : List KV} {A : Option Addr} {w : World} (hb : m < 4 ∨ 64 < m) : Calls Try.prog 11 #[.int .i64 m, .slice A n c] w (NewP m l w) := by
  have e0 : NewP m l w = fun e w' => e = .returned (.tuple #[.pointer none, .int .i64 70]) ∧ Below w.heap.size w w' := by funext e w'; unfold NewP; rw [if_pos hb]
  rw [e0]
  clear e0
  rcases hb with hb | hb
  · have e1 : decide (m < 4) = true := decide_eq_true hb
    go_enter Try.func11, Try.ntmps11
    go_wp2
    go_ret2
    exact ⟨rfl, below_alloc (Below.refl _ _) _⟩
  · have e1 : decide (m < 4) = false := decide_eq_false (by omega)
    have e2 : decide (64 < m) = true := decide_eq_true hb
    go_enter Try.func11, Try.ntmps11
    go_wp2
    go_ret2
    exact ⟨rfl, below_alloc (Below.refl _ _) _⟩
set_option maxRecDepth 100000 in
set_option maxHeartbeats 8000000 in
theorem new_calls {m c : Nat} {A : Option Addr} {l : List KV} {w : World} (h4 : 4 ≤ m) (hm : m ≤ 64) (hs : SrcP w A l) (hc : l.length ≤ c) (hn : l.length ≤ 2147483648) : Calls Try.prog 11 #[.int .i64 m, .slice A l.length c] w (NewP m l w) := by
  refine (callsIn_wide (n := 20)).1 ?_
  refine callsIn_of_wp_marks Try.func11 rfl trivial ?_ rfl
  simp only [Try.ntmps11, List.size_toArray, List.length_cons, List.length_nil, Nat.reduceAdd, Nat.reduceSub, Array.replicate_succ, Array.replicate_zero, List.push_toArray, List.append_toArray, List.nil_append, List.cons_append]
  refine wpIn_wide.2 ?_
  have e1 : decide ((m : Int) < 4) = false := decide_eq_false (by omega)
  have e2 : decide (m < 4) = false := decide_eq_false (by omega)
  have e3 : decide (64 < (m : Int)) = false := decide_eq_false (by omega)
  have e4 : decide (64 < m) = false := decide_eq_false (by omega)
  obtain ⟨n, hnn⟩ : ∃ n, l.length = n := ⟨_, rfl⟩
  rw [hnn] at hc hn ⊢
  have HL := Aside0.mk (And.intro hnn (And.intro hc hn))
  have HS := Aside0.mk hs
  clear hs hc hn hnn
  go_upto_region 4 with fail
  obtain ⟨W0, hW0⟩ : ∃ W0, w.alloc (.cells #[.slice A n c] 22) = W0 := ⟨_, rfl⟩
  have HB0 : Aside0 (Below w.heap.size w W0 ∧ W0.heap[w.heap.size]? = some (.cells #[.slice A n c] 22 (0, 0)) ∧ W0.heap.size = w.heap.size + 1) := ⟨by rw [← hW0]; exact ⟨below_alloc (Below.refl _ _) _, blk_new w _, by simp⟩⟩
  rw [hW0]
  clear hW0
  obtain ⟨b3, hb3⟩ : ∃ b3, w.heap.size = b3 := ⟨_, rfl⟩
  have HB3 := Aside0.mk hb3
  rw [hb3] at HB0 ⊢
  clear hb3
  go_loopg [27] n (fun kq v27 wr => ∃ (i j : Nat), v27 = .int .i64 i ∧ wr = W0.drewN j ∧ Aside0 (i + kq = n) ∧ Aside0 (AdjTo l i))
  case atStart => exact ⟨0, 0, rfl, rfl, ⟨by omega⟩, ⟨fun j p q hj => absurd hj (by omega)⟩⟩
  case round =>
    obtain ⟨i, j, rfl, rfl, h1, h2⟩ := hrel
    by_cases hi : i < n
    · have d1 : decide ((i : Int) < (n : Int)) = true := decide_eq_true (by omega)
      have d2 : decide (i < n) = true := decide_eq_true hi
      have c3 : (W0.drewN j).cell? ⟨b3, 0, none⟩ = some (.slice A n c) := (blk_cell HB0.out.2.1 0).trans rfl
      obtain ⟨W, hW⟩ : ∃ W, W0.drewN j = W := ⟨_, rfl⟩
      have HW := Aside0.mk hW
      rw [hW] at c3 ⊢
      clear hW
      by_cases h0 : i = 0
      · subst h0
        have d3 : decide ((0 : Int) < ((0 : Nat) : Int)) = false := by decide
        go_upto_region 6 with fail
        go_quiet (fail)
        go_wp2
        go_roundg (gk - 1)
        case measure => have := h1.out; omega
        case rel => exact ⟨1, j + nq, by simp, by rw [← HW.out, World.drewN_drewN], ⟨by have := h1.out; omega⟩, ⟨fun j p q hj => absurd hj (by omega)⟩⟩
      · obtain ⟨i0, hi0⟩ : ∃ i0, i = i0 + 1 := ⟨i - 1, by omega⟩
        obtain ⟨p, hp⟩ : ∃ p, l[i0]? = some p := ⟨_, List.getElem?_eq_getElem (by have := HL.out.1; omega)⟩
        obtain ⟨q, hq⟩ : ∃ q, l[i]? = some q := ⟨_, List.getElem?_eq_getElem (by have := HL.out.1; omega)⟩
        have hSW : SrcP W A l := by rw [← HW.out]; exact (HS.out.below (by rw [HB3.out]; exact HB0.out.1)).below (pw_below_drewN (Below.refl _ _) j)
        obtain ⟨ad, rfl, z0, -⟩ := hSW i0 p hp
        obtain ⟨ad', had, z1, -⟩ := hSW i q hq
        cases had
        have d3 : decide (0 < (i : Int)) = true := decide_eq_true (by omega)
        have d3' : decide (0 < i) = true := decide_eq_true (by omega)
        have d4 : (i : Int) < (n : Int) := by omega
        have d5 : (i0 : Int) < (n : Int) := by omega
        have hi5 : i ≤ 100000 ∨ True := .inr trivial
        have HPQ := Aside0.mk (And.intro hp (And.intro hq (And.intro hi0 hi)))
        have hn5 : i ≤ 2147483648 := by have := HL.out; omega
        have d6 : wrap64 ((i : Int) - 1) = (i0 : Int) := by rw [hi0]; clear d1 d2; unfold wrap64; omega
        have d6' : IntKind.i64.wrap ((i : Int) - 1) = (i0 : Int) := by rw [i64w]; exact d6
        clear hp hq hSW hi0 hi5 hn5 h0 hi
        by_cases hlt : p.1 < q.1
        · have d7 : Op.bytesLess p.1 q.1 = true := by rw [nlt_eq]; exact decide_eq_true hlt
          have HLT := Aside0.mk hlt
          clear hlt
          go_upto_region 6 with fail
          go_quiet (fail)
          go_wp2
          go_roundg (gk - 1)
          case measure => have := h1.out; have := HPQ.out; omega
          case rel => exact ⟨i + 1, j + nq, by rw [w64j (by have := HPQ.out; have := HL.out; have := h1.out; omega)], by rw [← HW.out, World.drewN_drewN], ⟨by have := h1.out; have := HPQ.out; omega⟩, ⟨adj_next h2.out HPQ.out.2.2.1 HPQ.out.1 HPQ.out.2.1 HLT.out⟩⟩
        · have d7 : Op.bytesLess p.1 q.1 = false := by rw [nlt_eq]; exact decide_eq_false hlt
          have HLT : Aside0 (¬ p.1 < q.1) := ⟨hlt⟩
          clear hlt
          go_upto_region 6 with fail
          go_quiet (fail)
          go_wp2
          have hb3 := HB3.out
          refine leave_marks rfl [] _ List.nodup_nil (fun D hD => by cases hD) (fun W' hW' => ?_)
          have hnr : ¬ Rises l := fun h9 => HLT.out (by
            have h8 := rises_adj h9 (i + 1) i0 p q (by have := HPQ.out; omega) HPQ.out.1 (by rw [← HPQ.out.2.2.1]; exact HPQ.out.2.1)
            exact h8)
          unfold NewP
          rw [if_neg (by omega), if_neg hnr, hb3]
          have hbw : Below b3 w (W.drewN nq) := by rw [← HW.out]; exact pw_below_drewN (pw_below_drewN HB0.out.1 _) _
          exact ⟨rfl, hbw.trans (hW'.below_base (fun x hx => by cases hx) (by have := hbw.size; omega))⟩
    · have d1 : decide ((i : Int) < (n : Int)) = false := decide_eq_false (by omega)
      have d2 : decide (i < n) = false := decide_eq_false hi
      have c3 : (W0.drewN j).cell? ⟨b3, 0, none⟩ = some (.slice A n c) := (blk_cell HB0.out.2.1 0).trans rfl
      obtain ⟨W, hW⟩ : ∃ W, W0.drewN j = W := ⟨_, rfl⟩
      rw [hW] at c3 ⊢
      have hb3 : W.heap[b3]? = some (.cells #[.slice A n c] 22 (0, 0)) := by rw [← hW]; exact HB0.out.2.1
      have q1 : ∀ o1, (W.alloc o1).cell? ⟨b3, 0, none⟩ = some (.slice A n c) := fun o1 => (blk_cell (blk_alloc hb3 o1) 0).trans rfl
      have q2 : ∀ o1 o2, ((W.alloc o1).alloc o2).cell? ⟨b3, 0, none⟩ = some (.slice A n c) := fun o1 o2 => (blk_cell (blk_alloc (blk_alloc hb3 o1) o2) 0).trans rfl
      have q3 : ∀ o1 o2 o3, (((W.alloc o1).alloc o2).alloc o3).cell? ⟨b3, 0, none⟩ = some (.slice A n c) := fun o1 o2 o3 => (blk_cell (blk_alloc (blk_alloc (blk_alloc hb3 o1) o2) o3) 0).trans rfl
      have q4 : ∀ o1 o2 o3 o4, ((((W.alloc o1).alloc o2).alloc o3).alloc o4).cell? ⟨b3, 0, none⟩ = some (.slice A n c) := fun o1 o2 o3 o4 => (blk_cell (blk_alloc (blk_alloc (blk_alloc (blk_alloc hb3 o1) o2) o3) o4) 0).trans rfl
      have HW := Aside0.mk hW
      clear hW
      go_wp2_with (go_at_call 28; refine (parts_calls _ _ _).mono ?_; rintro e w2 ⟨rfl, rfl⟩)
      clear q1 q2 q3 q4 c3
      obtain ⟨rt, hrt⟩ : ∃ rt, W.heap.size = rt := ⟨_, rfl⟩
      have s1 : ∀ o1, (W.alloc o1).heap.size = rt + 1 := fun o1 => by simp [hrt]
      rw [hrt]
      obtain ⟨tb, htb⟩ : ∃ tb, rt + 1 = tb := ⟨_, rfl⟩
      rw [htb] at s1 ⊢
      obtain ⟨lv, hlv⟩ : ∃ lv, tb + 1 = lv := ⟨_, rfl⟩
      rw [hlv]
      obtain ⟨le, hle⟩ : ∃ le, lv + 1 = le := ⟨_, rfl⟩
      rw [hle]
      obtain ⟨nb, hnb⟩ : ∃ nb, le + 1 = nb := ⟨_, rfl⟩
      rw [hnb]
      obtain ⟨mb, hmb⟩ : ∃ mb, nb + 1 = mb := ⟨_, rfl⟩
      rw [hmb]
      obtain ⟨W1, hW1⟩ : ∃ W1, ((((((W.alloc (.cells #[.slice none 0 0, .slice none 0 0, .slice none 0 0] 74)).alloc (.cells #[.int .i64 m, .int .i64 n, .pointer (some ⟨rt, 0, none⟩)] 76)).alloc (.cells #[.slice none 0 0] 72)).alloc (.cells #[.slice none 0 0] 71)).alloc (.cells #[.int .i64 n] 3)).alloc (.cells #[.int .i64 m] 3)) = W1 := ⟨_, rfl⟩
      have HF : Aside0 (W1.heap[b3]? = some (.cells #[.slice A n c] 22 (0, 0)) ∧ W1.heap[rt]? = some (.cells #[.slice none 0 0, .slice none 0 0, .slice none 0 0] 74 (0, 0)) ∧ W1.heap[tb]? = some (.cells #[.int .i64 m, .int .i64 n, .pointer (some ⟨rt, 0, none⟩)] 76 (0, 0)) ∧ W1.heap[lv]? = some (.cells #[.slice none 0 0] 72 (0, 0)) ∧ W1.heap[le]? = some (.cells #[.slice none 0 0] 71 (0, 0)) ∧ W1.heap[nb]? = some (.cells #[.int .i64 n] 3 (0, 0)) ∧ W1.heap[mb]? = some (.cells #[.int .i64 m] 3 (0, 0)) ∧ W1.heap.size = mb + 1) := ⟨by
        rw [← hW1]
        refine ⟨?_, ?_, ?_, ?_, ?_, ?_, ?_, ?_⟩
        · exact blk_alloc (blk_alloc (blk_alloc (blk_alloc (blk_alloc (blk_alloc hb3 _) _) _) _) _) _
        · have h9 := blk_new W (.cells #[.slice none 0 0, .slice none 0 0, .slice none 0 0] 74)
          rw [hrt] at h9
          exact blk_alloc (blk_alloc (blk_alloc (blk_alloc (blk_alloc h9 _) _) _) _) _
        · refine blk_alloc (blk_alloc (blk_alloc (blk_alloc (o := .cells #[.int .i64 m, .int .i64 n, .pointer (some ⟨rt, 0, none⟩)] 76) ?_ _) _) _) _
          have h9 := blk_new (W.alloc (.cells #[.slice none 0 0, .slice none 0 0, .slice none 0 0] 74)) (.cells #[.int .i64 m, .int .i64 n, .pointer (some ⟨rt, 0, none⟩)] 76)
          rw [show (W.alloc (.cells #[.slice none 0 0, .slice none 0 0, .slice none 0 0] 74)).heap.size = tb by simp; omega] at h9
          exact h9
        · refine blk_alloc (blk_alloc (blk_alloc (o := .cells #[.slice none 0 0] 72) ?_ _) _) _
          have h9 := blk_new ((W.alloc (.cells #[.slice none 0 0, .slice none 0 0, .slice none 0 0] 74)).alloc (.cells #[.int .i64 m, .int .i64 n, .pointer (some ⟨rt, 0, none⟩)] 76)) (.cells #[.slice none 0 0] 72)
          rw [show ((W.alloc (.cells #[.slice none 0 0, .slice none 0 0, .slice none 0 0] 74)).alloc (.cells #[.int .i64 m, .int .i64 n, .pointer (some ⟨rt, 0, none⟩)] 76)).heap.size = lv by simp; omega] at h9
          exact h9
        · refine blk_alloc (blk_alloc (o := .cells #[.slice none 0 0] 71) ?_ _) _
          have h9 := blk_new (((W.alloc (.cells #[.slice none 0 0, .slice none 0 0, .slice none 0 0] 74)).alloc (.cells #[.int .i64 m, .int .i64 n, .pointer (some ⟨rt, 0, none⟩)] 76)).alloc (.cells #[.slice none 0 0] 72)) (.cells #[.slice none 0 0] 71)
          rw [show (((W.alloc (.cells #[.slice none 0 0, .slice none 0 0, .slice none 0 0] 74)).alloc (.cells #[.int .i64 m, .int .i64 n, .pointer (some ⟨rt, 0, none⟩)] 76)).alloc (.cells #[.slice none 0 0] 72)).heap.size = le by simp; omega] at h9
          exact h9
        · refine blk_alloc (o := .cells #[.int .i64 n] 3) ?_ _
          have h9 := blk_new ((((W.alloc (.cells #[.slice none 0 0, .slice none 0 0, .slice none 0 0] 74)).alloc (.cells #[.int .i64 m, .int .i64 n, .pointer (some ⟨rt, 0, none⟩)] 76)).alloc (.cells #[.slice none 0 0] 72)).alloc (.cells #[.slice none 0 0] 71)) (.cells #[.int .i64 n] 3)
          rw [show ((((W.alloc (.cells #[.slice none 0 0, .slice none 0 0, .slice none 0 0] 74)).alloc (.cells #[.int .i64 m, .int .i64 n, .pointer (some ⟨rt, 0, none⟩)] 76)).alloc (.cells #[.slice none 0 0] 72)).alloc (.cells #[.slice none 0 0] 71)).heap.size = nb by simp; omega] at h9
          exact h9
        · have h9 := blk_new (((((W.alloc (.cells #[.slice none 0 0, .slice none 0 0, .slice none 0 0] 74)).alloc (.cells #[.int .i64 m, .int .i64 n, .pointer (some ⟨rt, 0, none⟩)] 76)).alloc (.cells #[.slice none 0 0] 72)).alloc (.cells #[.slice none 0 0] 71)).alloc (.cells #[.int .i64 n] 3)) (.cells #[.int .i64 m] 3)
          rw [show (((((W.alloc (.cells #[.slice none 0 0, .slice none 0 0, .slice none 0 0] 74)).alloc (.cells #[.int .i64 m, .int .i64 n, .pointer (some ⟨rt, 0, none⟩)] 76)).alloc (.cells #[.slice none 0 0] 72)).alloc (.cells #[.slice none 0 0] 71)).alloc (.cells #[.int .i64 n] 3)).heap.size = mb by simp; omega] at h9
          exact h9
        · simp; omega⟩
      have HB1 : Aside0 (Below b3 w W1) := ⟨by
        rw [← hW1]
        have h9 : Below b3 w W := by rw [← HW.out]; exact pw_below_drewN HB0.out.1 _
        have hb3l := blk_lt hb3
        exact (((((h9.alloc (by omega) _).alloc (by simp; omega) _).alloc (by simp; omega) _).alloc (by simp; omega) _).alloc (by simp; omega) _).alloc (by simp; omega) _⟩
      have HN9 : Aside0 (b3 < rt ∧ tb = rt + 1 ∧ lv = tb + 1 ∧ le = lv + 1 ∧ nb = le + 1 ∧ mb = nb + 1) := ⟨by rw [← hrt]; exact ⟨blk_lt hb3, by omega, by omega, by omega, by omega, by omega⟩⟩
      have HR : Aside0 (Rises l) := ⟨adj_rises (by have h9 := h2.out; have h8 := HL.out.1; have h7 : i = n := by have := h1.out; omega
                                                   rw [h7, ← h8] at h9; exact h9)⟩
      have HSW : Aside0 (SrcP W1 A l) := ⟨HS.out.below (by rw [HB3.out]; exact HB1.out)⟩
      rw [hW1]
      clear hW1 hrt htb hlv hle hnb hmb s1 hb3 d1 d2 hi h1 h2 HW
      have H4M := Aside0.mk (And.intro h4 hm)
      clear h4 hm e1 e2 e3 e4
      refine (wpIn_wide (n := 20)).1 ?_
      obtain ⟨M, hM⟩ : ∃ M, manyOf n m = M := ⟨_, rfl⟩
      refine wpIn_rangeFunc_ownH (F := Fence.wide) (n := 20) rfl (by omega) (gf := 43) (lb := #[.pointer (some ⟨nb, 0, none⟩), .pointer (some ⟨mb, 0, none⟩)]) rfl trivial (enters_of Try.func43 (by kernel_rfl) rfl)
        (parts_stops Fence.wide 19 trivial rfl (by omega) nb mb n m M hM.symm H4M.out.1 H4M.out.2 HL.out.2.2 W1 HF.out.2.2.2.2.2.1 HF.out.2.2.2.2.2.2.1)
        (fun h k => ⟨k.1.trans h.1, k.2.trans h.2⟩) (fun W l o o' hl ho _ _ => kpB_put (by have := HF.out.2.2.2.2.2.2.2; have := HN9.out; omega) (by have := HF.out.2.2.2.2.2.2.2; omega)) (Below.refl _ _) (fun _ => rfl)
        (St1 M n b3 rt tb lv le nb mb l w W1) (fun _ _ _ => False) (st1_own (by have := HF.out.2.2.2.2.2.2.2; have := HN9.out; omega) (by have := HB3.out; omega)) (fun c s A B row h _ _ => h.elim)
        (st1_start HF.out.2.2.2.1 HF.out.2.2.2.2.1 (by simp only [List.forall_mem_cons]; exact ⟨⟨_, _, _, HF.out.1⟩, ⟨_, _, _, HF.out.2.1⟩, ⟨_, _, _, HF.out.2.2.1⟩, ⟨_, _, _, HF.out.2.2.2.2.2.1⟩, ⟨_, _, _, HF.out.2.2.2.2.2.2.1⟩, fun _ h => by cases h⟩) HB1.out HN9.out)
        (fun x a' W => ∃ Bx, W.heap[Bx]? = some (.cells #[.int .i64 (cutAt n M x), .int .i64 (cutAt n M (x + 1))] 79 (0, 0)) ∧ a' = { tmps := #[Value.int IntKind.i64 m, Value.slice A n c, undef, Value.pointer (some ⟨b3, 0, none⟩), u4, u5, u6, Value.pointer (some ⟨tb, 0, none⟩), Value.pointer (some ⟨lv, 0, none⟩), Value.pointer (some ⟨le, 0, none⟩), Value.pointer (some ⟨Bx, 0, none⟩), undef, undef, undef, undef, undef, undef, undef, undef, Value.int IntKind.i64 m, Value.bool false, Value.bool false, Value.int IntKind.i64 m, Value.bool false, Value.bool false, Value.slice A n c, Value.int IntKind.i64 n, Value.int IntKind.i64 i, Value.bool false, u29, u30, u31, u32, u33, u34, u35, u36, u37, u38, u39, u40, u41, u42, u43, u44, u45, u46, Value.int IntKind.i64 m, Value.slice A n c, Value.int IntKind.i64 n, Value.agg #[Value.slice none 0 0, Value.slice none 0 0, Value.slice none 0 0], Value.pointer (some ⟨rt, 0, none⟩), Value.agg #[Value.int IntKind.i64 m, Value.int IntKind.i64 n, Value.pointer (some ⟨rt, 0, none⟩)], Value.pointer (some ⟨tb, 0, none⟩), Value.slice A n c, Value.int IntKind.i64 n, Value.int IntKind.i64 m, Value.func (.func 43) #[] #[Value.pointer (some ⟨nb, 0, none⟩), Value.pointer (some ⟨mb, 0, none⟩)], Value.agg #[Value.int IntKind.i64 (cutAt n M x), Value.int IntKind.i64 (cutAt n M (x + 1))], undef, undef, undef, undef, undef, undef, undef, undef, undef, undef, undef, undef, undef, undef, undef, undef, undef, undef, undef, undef, undef, undef, undef, undef, undef, undef, undef, undef, undef, undef, undef, undef, undef, undef, undef, undef, undef, undef, undef, undef, undef, undef, undef, undef, undef, undef, undef, undef, undef, undef, undef, undef, undef, undef, undef, undef, undef, undef, undef, undef, undef, undef, undef, undef, undef, undef, undef, undef, undef, undef, undef, undef, undef, undef, undef, undef, undef, undef, undef, undef, undef, undef, undef, undef, undef, undef, undef, undef, undef, undef, undef, undef, undef, undef, undef, undef], defers := [] }) ?hAx ?assign ?body ?done (fun D c pre W _ _ h => h.elim)
      case hAx =>
        rintro x a' _ X Y row ⟨Bx, e1, e2⟩ hg hr
        exact ⟨Bx, (grown_cells hg (fun r e => (hr r e).2) ⟨_, _, _, e1⟩).trans e1, e2⟩
      case assign =>
        intro lx pre x W K hI hK
        have HI := Aside0.mk hI
        clear hI
        unfold encPart
        gi_wp2
        have hz := blk_new W (.cells #[.int .i64 (cutAt n M x), .int .i64 (cutAt n M (x + 1))] 79)
        have hal : KeepsFrom W1.heap.size W (W.alloc (.cells #[.int .i64 (cutAt n M x), .int .i64 (cutAt n M (x + 1))] 79)) := (KeepsOthers.alloc _ _).from _
        have hIa := (st1_own (M := M) (n := n) (b3 := b3) (rt := rt) (tb := tb) (lv := lv) (le := le) (nb := nb) (mb := mb) (B0 := W1.heap.size) (l := l) (w := w) (W1 := W1) (by have := HF.out.2.2.2.2.2.2.2; have := HN9.out; omega) (by have := HB3.out; omega)).alloc (.cells #[.int .i64 (cutAt n M x), .int .i64 (cutAt n M (x + 1))] 79) HI.out
        have hk2 : KpB nb mb W (W.alloc (.cells #[.int .i64 (cutAt n M x), .int .i64 (cutAt n M (x + 1))] 79)) := ⟨(hIa.2.1 nb (by simp)).trans (HI.out.2.1 nb (by simp)).symm, (hIa.2.1 mb (by simp)).trans (HI.out.2.1 mb (by simp)).symm⟩
        exact hK _ _ hal hk2 hIa ⟨W.heap.size, hz, rfl⟩
      case body =>
        rintro lx pre x a' W hlx hLr hI ⟨Bx, hBx, rfl⟩ hlen
        have HLX := Aside0.mk (And.intro hlx (And.intro hLr hlen))
        have HI := Aside0.mk hI
        have hb3 := hI.2.1 b3 (by simp)
        have c3 : W.cell? ⟨b3, 0, none⟩ = some (.slice A n c) := (blk_cell (hb3.trans HF.out.1) 0).trans rfl
        have x0 : W.cell? ⟨Bx, 0, none⟩ = some (.int .i64 (cutAt n M x)) := (blk_cell hBx 0).trans rfl
        have x1 : W.cell? ⟨Bx, 1, none⟩ = some (.int .i64 (cutAt n M (x + 1))) := (blk_cell hBx 1).trans rfl
        have hxM := x.isLt
        obtain ⟨i1, hi1⟩ : ∃ i1, x.val = i1 := ⟨_, rfl⟩
        rw [hi1] at x0 x1 hxM hBx ⊢
        have hn0 : 0 < n := by
          rcases Nat.eq_zero_or_pos n with h9 | h9
          · exfalso; rw [h9, many_zero H4M.out.1] at hM; omega
          · exact h9
        obtain ⟨p1, p2, p3, p4⟩ := part_size (n := n) (m := m) (i := i1) H4M.out.1 hn0
        rw [hM] at p1 p2 p3 p4
        have p5 : cutAt n M (i1 + 1) ≤ n := cut_mono (by omega) (by omega)
        obtain ⟨a0, ha0⟩ : ∃ a0, cutAt n M i1 = a0 := ⟨_, rfl⟩
        obtain ⟨b0, hb0⟩ : ∃ b0, cutAt n M (i1 + 1) = b0 := ⟨_, rfl⟩
        rw [ha0] at p1 p2 p3 p4 x0 hBx
        rw [hb0] at p1 p2 p3 p4 p5 x1 hBx
        rw [ha0, hb0]
        have hm9 := H4M.out.2
        have hc9 := HL.out.2.1
        obtain ⟨pp, hpp⟩ : ∃ pp, l[0]? = some pp := ⟨_, List.getElem?_eq_getElem (by have := HL.out.1; omega)⟩
        obtain ⟨ad, hAd, -, -⟩ := HS.out 0 pp hpp
        have HX1 := Aside0.mk (And.intro hAd (And.intro hi1 (And.intro ha0 (And.intro hb0 (And.intro hxM (And.intro p1 (And.intro p2 (And.intro p3 (And.intro p4 p5)))))))))
        subst hAd
        have q1 : (a0 : Int) ≤ (b0 : Int) := by omega
        have q2 : (b0 : Int) ≤ (c : Int) := by omega
        have q3 : b0 ≤ c := by omega
        have c3' := fun o => cell_alloc c3 o
        have x0' := fun o => cell_alloc x0 o
        have x1' := fun o => cell_alloc x1 o
        have q4 : ¬ (c = a0) := by omega
        clear hI hlx hLr hlen hb3 hBx hpp hi1 hn0 p1 p2 p4 p5 hm9 hc9 hxM ha0 hb0 c3 x0 x1
        gi_wp2
        obtain ⟨k1, hk1⟩ : ∃ k1, b0 - a0 = k1 := ⟨_, rfl⟩
        obtain ⟨cs, hcs⟩ : ∃ cs, (l.drop a0).take k1 = cs := ⟨_, rfl⟩
        have hkl : cs.length = k1 ∧ k1 ≤ 64 := by
          rw [← hcs, List.length_take, List.length_drop]; have := HX1.out; have := HL.out; have := H4M.out; omega
        have HK := Aside0.mk (And.intro hk1 (And.intro hcs hkl))
        have HSC : Aside0 (∀ W', Below b3 w W' → SrcP W' (some (ad.add (a0 * 2))) cs) := ⟨fun W' hW' => by rw [← hcs]; exact (HS.out.below (by rw [HB3.out]; exact hW')).cut rfl _ _⟩
        obtain ⟨NB, hNB⟩ : ∃ NB, W.heap.size = NB := ⟨_, rfl⟩
        obtain ⟨W2, hW2⟩ : ∃ W2, W.alloc (.cells #[.slice none 0 0, .slice none 0 0, .slice none 0 0] 74) = W2 := ⟨_, rfl⟩
        have HW2 : Aside0 (W2.heap[NB]? = some (.cells #[.slice none 0 0, .slice none 0 0, .slice none 0 0] 74 (0, 0)) ∧ Below NB W W2) := ⟨by rw [← hW2, ← hNB]; exact ⟨blk_new _ _, below_alloc (Below.refl _ _) _⟩⟩
        have HNB := Aside0.mk hNB
        rw [hW2, hNB, hk1]
        clear hW2 hk1 hcs hkl q1 q2 q3 q4 c3' x0' x1' p3 hNB
        gi_loopg [68] k1 (fun kq v68 wr => ∃ (j : Nat) (S : List Nat), v68 = .int .i64 j ∧ Aside0 (j + kq = k1) ∧ Aside0 (LeafAt wr NB (cs.take j) S ∧ ∀ y ∈ S, NB ≤ y) ∧ Aside0 (Below NB W wr))
        case atStart => exact ⟨0, [NB], rfl, ⟨by omega⟩, ⟨⟨.slice none 0 0, .slice none 0 0, HW2.out.1, RowV.nil _ _, RowV.nil _ _, rfl, by simp⟩, by simp⟩, ⟨HW2.out.2⟩⟩
        case round =>
          obtain ⟨j, S, rfl, h1, h2, h3⟩ := hrel
          by_cases hj : j < k1
          · have d1 : decide ((j : Int) < (k1 : Int)) = true := decide_eq_true (by omega)
            have d2 : decide (j < k1) = true := decide_eq_true hj
            obtain ⟨q, hq⟩ : ∃ q, cs[j]? = some q := ⟨_, List.getElem?_eq_getElem (by have := HK.out; omega)⟩
            have hSC := HSC.out wr (HI.out.2.2.2.trans (h3.out.mono (by have := HI.out.2.2.2.size; have := HNB.out; have := HB3.out; omega)))
            obtain ⟨ad', had, z0, z1⟩ := hSC j q hq
            cases had
            have d4 : (j : Int) < (k1 : Int) := by omega
            have HQ := Aside0.mk (And.intro hq hj)
            clear hSC hq hj
            gi_upto_region 18 with fail
            obtain ⟨PB, hPB⟩ : ∃ PB, wr.heap.size = PB := ⟨_, rfl⟩
            obtain ⟨WB, hWB⟩ : ∃ WB, wr.alloc (.cells #[.string ⟨q.1.toArray⟩, .string q.2] 40) = WB := ⟨_, rfl⟩
            have HP : Aside0 (WB.heap[PB]? = some (.cells #[.string ⟨q.1.toArray⟩, .string q.2] 40 (0, 0)) ∧ Below PB wr WB ∧ WB.heap.size = PB + 1) := ⟨by rw [← hWB, ← hPB]; exact ⟨blk_new _ _, below_alloc (Below.refl _ _) _, by simp⟩⟩
            obtain ⟨⟨kv, vv, e0, e1, e2, rfl, e4⟩, e5⟩ := h2.out
            have HPB := Aside0.mk hPB
            rw [hWB, hPB]
            obtain ⟨xs, hxs⟩ : ∃ xs, encKs (keysOf (cs.take j)) = xs := ⟨_, rfl⟩
            obtain ⟨ys, hys⟩ : ∃ ys, encVs (cs.take j) = ys := ⟨_, rfl⟩
            have hxl : xs.length = j ∧ ys.length = j := by
              have hjl : (cs.take j).length = j := by rw [List.length_take]; have := HK.out; have := HQ.out.2; omega
              rw [← hxs, ← hys]; simp only [encKs, keysOf, encVs, List.length_map, hjl]; exact ⟨trivial, trivial⟩
            rw [hxs] at e1
            rw [hys] at e2
            obtain ⟨Al, ckl, rfl, -, -⟩ := e1.shape
            obtain ⟨Ax, cxl, rfl, -, -⟩ := e2.shape
            rw [hxl.1] at e0 e1 e4 e5
            rw [hxl.2] at e0 e2 e4 e5
            have hB9 : Below wr.heap.size wr WB := by rw [hPB]; exact HP.out.2.1
            have g0 := blk_below e0 hB9
            have TW : Aside0 (Two WB NB (.slice Al j ckl) (.slice Ax j cxl) [PB]) := ⟨⟨blk_lt g0, fun k hk => (e1.below hB9).lt k hk, fun k hk => (e2.below hB9).lt k hk, fun k hk => by simp at hk; rw [hk]; exact blk_lt HP.out.1, by
              have h9 : ∀ y ∈ NB :: ((Value.slice Al j ckl).ownBlock.toList ++ (Value.slice Ax j cxl).ownBlock.toList), y < PB := fun y hy => by
                rw [← hPB]
                rcases List.mem_cons.1 hy with rfl | hy
                · exact blk_lt e0
                · rcases List.mem_append.1 hy with hy | hy
                  · exact e1.lt y hy
                  · exact e2.lt y hy
              rw [← List.append_assoc]
              exact (List.nodup_append (l₁ := NB :: ((Value.slice Al j ckl).ownBlock.toList ++ (Value.slice Ax j cxl).ownBlock.toList)) (l₂ := [PB])).2 ⟨e4, by simp, fun a ha b hb => by simp at hb; rw [hb]; exact Nat.ne_of_lt (h9 a ha)⟩⟩⟩
            have HR2 : Aside0 (WB.heap[NB]? = some (.cells #[.slice Al j ckl, .slice Ax j cxl, .slice none 0 0] 74 (0, 0)) ∧ RowV 9 WB (.slice Al j ckl) xs ∧ RowV 9 WB (.slice Ax j cxl) ys ∧ j ≤ 1000) := ⟨g0, e1.below hB9, e2.below hB9, by have := HK.out; have := HQ.out.2; omega⟩
            have HXY := Aside0.mk (And.intro hxs (And.intro hys e5))
            obtain ⟨d0, d1', -⟩ := leaf_cells (show WB.heap[NB]? = some (.cells #[_, _, .slice none 0 0] 74 (0, 0)) from g0)
            have r0 : WB.cell? ⟨PB, 0, none⟩ = some (.string ⟨q.1.toArray⟩) := (blk_cell HP.out.1 0).trans rfl
            have r1 : WB.cell? ⟨PB, 1, none⟩ = some (.string q.2) := (blk_cell HP.out.1 1).trans rfl
            have hN : Aside0 (∀ g ∈ [NB, PB], g ∉ (Value.slice Al j ckl).ownBlock.toList ++ (Value.slice Ax j cxl).ownBlock.toList) := ⟨fun g hg hx => by
              have h9 : (((Value.slice Al j ckl).ownBlock.toList ++ (Value.slice Ax j cxl).ownBlock.toList) ++ [NB, PB]).Nodup := nd_perm TW.out.nd (fun a => by simp only [List.count_append, List.count_cons, List.count_nil]; omega)
              exact (List.nodup_append.1 h9).2.2 g hx g hg rfl⟩
            have aK : Aside0 (∀ W vb, Below WB.heap.size WB W → W.heap[vb]? = some (.cells #[.string ⟨q.1.toArray⟩] 9 (0, 0)) → ∃ v' w2, (Builtin.append_ #[71, 71] 71 #[(.slice Al j ckl), .slice (some ⟨vb, 0, none⟩) 1 1]).run Try.prog W = .ok v' w2 ∧ ∃ g c, v' = .slice (some ⟨g, 0, none⟩) (j + 1) c ∧ Step1 9 WB W w2 (.slice Al j ckl) (.slice (some ⟨g, 0, none⟩) (j + 1) c) (xs ++ [.string ⟨q.1.toArray⟩])) := ⟨fun W vb hW hvb => by
              obtain ⟨g, c, w2, h1, h2⟩ := appS (HR2.out.2.1.below hW) hvb HR2.out.2.2.2
              exact ⟨_, w2, h1, g, c, rfl, hW, h2⟩⟩
            have aV : Aside0 (∀ W vb, Below WB.heap.size WB W → W.heap[vb]? = some (.cells #[.string q.2] 9 (0, 0)) → ∃ v' w2, (Builtin.append_ #[71, 71] 71 #[(.slice Ax j cxl), .slice (some ⟨vb, 0, none⟩) 1 1]).run Try.prog W = .ok v' w2 ∧ ∃ g c, v' = .slice (some ⟨g, 0, none⟩) (j + 1) c ∧ Step1 9 WB W w2 (.slice Ax j cxl) (.slice (some ⟨g, 0, none⟩) (j + 1) c) (ys ++ [.string q.2])) := ⟨fun W vb hW hvb => by
              obtain ⟨g, c, w2, h1, h2⟩ := appS (HR2.out.2.2.1.below hW) hvb HR2.out.2.2.2
              exact ⟨_, w2, h1, g, c, rfl, hW, h2⟩⟩
            have aKV : Aside0 (∀ w2 g c W W2 vb, Step1 9 WB W w2 (.slice Al j ckl) (.slice (some ⟨g, 0, none⟩) (j + 1) c) (xs ++ [.string ⟨q.1.toArray⟩]) → Below w2.heap.size w2 W2 → W2.heap[vb]? = some (.cells #[.string q.2] 9 (0, 0)) → ∃ v' w3, (Builtin.append_ #[71, 71] 71 #[(.slice Ax j cxl), .slice (some ⟨vb, 0, none⟩) 1 1]).run Try.prog W2 = .ok v' w3 ∧ ∃ g' c', v' = .slice (some ⟨g', 0, none⟩) (j + 1) c' ∧ Done 9 9 WB w3 NB (.slice Al j ckl) (.slice (some ⟨g, 0, none⟩) (j + 1) c) (xs ++ [.string ⟨q.1.toArray⟩]) (.slice Ax j cxl) (.slice (some ⟨g', 0, none⟩) (j + 1) c') (ys ++ [.string q.2]) [PB]) := ⟨fun w2 g c W W2 vb s1 hW hvb => by
              obtain ⟨g', c', w3, h1, h2⟩ := appS ((s1.row HR2.out.2.2.1 TW.out).below hW) hvb HR2.out.2.2.2
              exact ⟨_, w3, h1, g', c', rfl, Step2.done ⟨s1, hW, h2⟩ TW.out⟩⟩
            have aVK : Aside0 (∀ w2 g c W W2 vb, Step1 9 WB W w2 (.slice Ax j cxl) (.slice (some ⟨g, 0, none⟩) (j + 1) c) (ys ++ [.string q.2]) → Below w2.heap.size w2 W2 → W2.heap[vb]? = some (.cells #[.string ⟨q.1.toArray⟩] 9 (0, 0)) → ∃ v' w3, (Builtin.append_ #[71, 71] 71 #[(.slice Al j ckl), .slice (some ⟨vb, 0, none⟩) 1 1]).run Try.prog W2 = .ok v' w3 ∧ ∃ g' c', v' = .slice (some ⟨g', 0, none⟩) (j + 1) c' ∧ Done 9 9 WB w3 NB (.slice Al j ckl) (.slice (some ⟨g', 0, none⟩) (j + 1) c') (xs ++ [.string ⟨q.1.toArray⟩]) (.slice Ax j cxl) (.slice (some ⟨g, 0, none⟩) (j + 1) c) (ys ++ [.string q.2]) [PB]) := ⟨fun w2 g c W W2 vb s1 hW hvb => by
              obtain ⟨g', c', w3, h1, h2⟩ := appS ((s1.row HR2.out.2.1 TW.out.swap).below hW) hvb HR2.out.2.2.2
              exact ⟨_, w3, h1, g', c', rfl, (Step2.done ⟨s1, hW, h2⟩ TW.out.swap).swap⟩⟩
            clear hWB hPB e0 e1 e2 e4 e5 hxs hys hxl hB9 g0 z0 z1 d1 d2 d4 h2
            refine startIn_ (k := 24) (S := fun w' => w'.cell? ⟨NB, 0, none⟩ = some (.slice Al j ckl) ∧ w'.cell? ⟨NB, 1, none⟩ = some (.slice Ax j cxl) ∧ w'.cell? ⟨PB, 0, none⟩ = some (.string ⟨q.1.toArray⟩) ∧ w'.cell? ⟨PB, 1, none⟩ = some (.string q.2)) (ds := [20, 23]) (mK 24 0) (by kernel_rfl) rfl rfl (by kernel_rfl) (no_lets (fun _ _ h => h)) ⟨d0, d1', r0, r1⟩ (fun hHeld => ?_)
            refine with_tabW (T := (true, [([], []), ([], []), ([], []), ([2], [2]), ([3], [3]), ([4], [4]), ([], []), ([6], [6]), ([7], [7]), ([5, 8], [5, 8]), ([], []), ([10], [10]), ([11], [11]), ([12], [12]), ([], []), ([14], [14]), ([15], [15]), ([13, 16, 9], [13, 16]), ([0, 0, 2, 3, 4, 5, 6, 7, 8, 9, 13, 17], [0]), ([18, 0, 2, 3, 4, 5, 6, 7, 8, 9, 13, 17], [18]), ([19, 9, 17, 0, 2, 3, 4, 5, 6, 7, 8, 9, 13, 17], [9, 19]), ([1, 0, 1, 2, 3, 4, 5, 6, 7, 8, 9, 10, 11, 12, 13, 14, 15, 16, 17, 18, 19, 20], [1]), ([21, 0, 1, 2, 3, 4, 5, 6, 7, 8, 9, 10, 11, 12, 13, 14, 15, 16, 17, 18, 19, 20], [21]), ([22, 17, 20, 0, 1, 2, 3, 4, 5, 6, 7, 8, 9, 10, 11, 12, 13, 14, 15, 16, 17, 18, 19, 20], [17, 22])])) (B := [0, 0, 0, 4, 12, 28, 0, 64, 192, 508, 0, 1024, 3072, 7168, 0, 16384, 49152, 131068, 262141, 524285, 1048573, 2097151, 4194303, 8388607]) (by kernel_rfl) (by kernel_rfl) (fun HT_ HW_ => ?_)
            refine pK 0 72 (mK 24 1) rfl rfl HT_ ?_
            refine pK 1 73 (mK 24 3) rfl rfl HT_ ?_
            refine pK 2 74 (mK 24 7) rfl rfl HT_ ?_
            refine pK 3 75 (mK 24 15) rfl rfl HT_ ?_
            refine pK 4 76 (mK 24 31) rfl rfl HT_ ?_
            refine pK 6 78 (mK 24 95) rfl rfl HT_ ?_
            refine pK 10 82 (mK 24 1119) rfl rfl HT_ ?_
            refine pK 11 83 (mK 24 3167) rfl rfl HT_ ?_
            refine pK 12 84 (mK 24 7263) rfl rfl HT_ ?_
            refine pK 14 86 (mK 24 23647) rfl rfl HT_ ?_
            refine take_ (i := 5) (N := some 77) (v := ?_) (a' := ?_) (mK 24 23679) rfl rfl (take_ofW HT_.out HW_.out (by kernel_rfl)) (fun _ _ _ h => h) (Or.inl ⟨by rfl, ?_⟩) hHeld ?_ ?_
            rotate_left; focus (rintro w' ⟨s0, s1, s2, s3⟩; go_simp; with_reducible rfl; done)
            rotate_left; focus (first | (simp only [Act.put, List.setIfInBounds_toArray, List.set_cons_zero, List.set_cons_succ, i64_w, i32_w]; rfl; done) | (rfl; done))
            refine take_ (i := 7) (N := some 79) (v := ?_) (a' := ?_) (mK 24 23807) rfl rfl (take_ofW HT_.out HW_.out (by kernel_rfl)) (fun _ _ _ h => h) (Or.inl ⟨by rfl, ?_⟩) hHeld ?_ ?_
            rotate_left; focus (rintro w' ⟨s0, s1, s2, s3⟩; go_simp; with_reducible rfl; done)
            rotate_left; focus (first | (simp only [Act.put, List.setIfInBounds_toArray, List.set_cons_zero, List.set_cons_succ, i64_w, i32_w]; rfl; done) | (rfl; done))
            refine take_ (i := 13) (N := some 85) (v := ?_) (a' := ?_) (mK 24 31999) rfl rfl (take_ofW HT_.out HW_.out (by kernel_rfl)) (fun _ _ _ h => h) (Or.inl ⟨by rfl, ?_⟩) hHeld ?_ ?_
            rotate_left; focus (rintro w' ⟨s0, s1, s2, s3⟩; go_simp; with_reducible rfl; done)
            rotate_left; focus (first | (simp only [Act.put, List.setIfInBounds_toArray, List.set_cons_zero, List.set_cons_succ, i64_w, i32_w]; rfl; done) | (rfl; done))
            refine take_ (i := 15) (N := some 87) (v := ?_) (a' := ?_) (mK 24 64767) rfl rfl (take_ofW HT_.out HW_.out (by kernel_rfl)) (fun _ _ _ h => h) (Or.inl ⟨by rfl, ?_⟩) hHeld ?_ ?_
            rotate_left; focus (rintro w' ⟨s0, s1, s2, s3⟩; go_simp; with_reducible rfl; done)
            rotate_left; focus (first | (simp only [Act.put, List.setIfInBounds_toArray, List.set_cons_zero, List.set_cons_succ, i64_w, i32_w]; rfl; done) | (rfl; done))
            refine two_ (i := 8) (j := 16) (mK 24 65023) (mK 24 130303) rfl rfl rfl rfl (two_of HT_.out (by kernel_rfl)) (by decide) (by decide) (fun K hK => ?_) (fun K hK => ?_)
            focus
             go_simp
             refine hK.out _ _ ⟨cell_alloc hHeld.1 _, cell_alloc hHeld.2.1 _, cell_alloc hHeld.2.2.1 _, cell_alloc hHeld.2.2.2 _⟩ (fun hHeld => ?_)
             clear hK K
             refine two_ (i := 9) (j := 16) (mK 24 65535) (mK 24 130559) rfl rfl rfl rfl (two_of HT_.out (by kernel_rfl)) (by decide) (by decide) (fun K hK => ?_) (fun K hK => ?_)
             focus
              first
               | (refine step_appK rfl _ _ 71 71 rfl (.slice Al j ckl) _ (by simp [Act.eval, Act.put]) (by simp only [Act.eval, Act.put]; rfl)  (aVK.out _ _ _ _ _ _ SA.out ?_ ?_) ?_; exact (by first | exact Below.refl _ _ | exact below_alloc (Below.refl _ _) _); exact (by first | exact blk_new _ _ | exact SA.out.new (by first | exact blk_new _ _ | exact blk_new2 _ _ _ | exact blk_alloc (blk_new _ _) _) (by first | exact Nat.le_refl _ | exact Nat.le_succ _) TW.out.clt); rintro _ w3 ⟨g2, c2, rfl, dn⟩; have DN := Aside0.mk dn; have FX := Aside0.mk dn.fr; have h0_ := FX.out.cell d0 (hN.out NB (by simp)); have h1_ := FX.out.cell d1' (hN.out NB (by simp)); have h2_ := FX.out.cell r0 (hN.out PB (by simp)); have h3_ := FX.out.cell r1 (hN.out PB (by simp)); have SX := Aside0.mk (And.intro h0_ (And.intro h1_ (And.intro h2_ h3_))); have f0 := blk_frozen (dn.blk TW.out HR2.out.1) 0; have f1 := blk_frozen (dn.blk TW.out HR2.out.1) 1; have g0 := SX.out.1; have g1 := SX.out.2.1; clear dn h0_ h1_ h2_ h3_ FX)
               | (refine step_appK rfl _ _ 71 71 rfl (.slice Al j ckl) _ (by simp [Act.eval, Act.put]) (by simp only [Act.eval, Act.put]; rfl)  (aK.out _ _ ?_ ?_) ?_; exact (by first | exact below_drew1 (below_alloc (Below.refl _ _) _) | exact below_drew1 (below_alloc (below_alloc (Below.refl _ _) _) _)); exact (by first | exact blk_new _ _ | exact blk_new2 _ _ _ | exact blk_alloc (blk_new _ _) _); rintro _ w2 ⟨g2, c2, rfl, s1⟩; have SA := Aside0.mk s1; have FX : Aside0 (Fr ((Value.slice Al j ckl).ownBlock.toList ++ (Value.slice Ax j cxl).ownBlock.toList) WB w2) := ⟨s1.fr.mono (fun x hx => by simp only [List.mem_append]; simp [hx])⟩; have h0_ := FX.out.cell d0 (hN.out NB (by simp)); have h1_ := FX.out.cell d1' (hN.out NB (by simp)); have h2_ := FX.out.cell r0 (hN.out PB (by simp)); have h3_ := FX.out.cell r1 (hN.out PB (by simp)); have SX := Aside0.mk (And.intro h0_ (And.intro h1_ (And.intro h2_ h3_))); clear s1 h0_ h1_ h2_ h3_ FX)
              go_simp
              refine hK.out _ _ SX.out (fun hHeld => ?_)
              clear hK K
              refine one_ (i := 16) (N := some 88) (mK 24 131071) rfl rfl (one_of HT_.out (by kernel_rfl)) (by decide) (fun K hK => ?_)
              focus
               go_simp
               refine hK.out _ _ ⟨cell_alloc hHeld.1 _, cell_alloc hHeld.2.1 _, cell_alloc hHeld.2.2.1 _, cell_alloc hHeld.2.2.2 _⟩ (fun hHeld => ?_)
               clear hK K
               refine one_ (i := 17) (N := some 89) (mK 24 262143) rfl rfl (one_of HT_.out (by kernel_rfl)) (by decide) (fun K hK => ?_)
               focus
                first
                 | (refine step_appK rfl _ _ 71 71 rfl (.slice Ax j cxl) _ (by simp [Act.eval, Act.put]) (by simp only [Act.eval, Act.put]; rfl)  (aKV.out _ _ _ _ _ _ SA.out ?_ ?_) ?_; exact (by first | exact Below.refl _ _ | exact below_alloc (Below.refl _ _) _); exact (by first | exact blk_new _ _ | exact SA.out.new (by first | exact blk_new _ _ | exact blk_new2 _ _ _ | exact blk_alloc (blk_new _ _) _) (by first | exact Nat.le_refl _ | exact Nat.le_succ _) TW.out.klt); rintro _ w3 ⟨g3, c3, rfl, dn⟩; have DN := Aside0.mk dn; have FX := Aside0.mk dn.fr; have h0_ := FX.out.cell d0 (hN.out NB (by simp)); have h1_ := FX.out.cell d1' (hN.out NB (by simp)); have h2_ := FX.out.cell r0 (hN.out PB (by simp)); have h3_ := FX.out.cell r1 (hN.out PB (by simp)); have SX := Aside0.mk (And.intro h0_ (And.intro h1_ (And.intro h2_ h3_))); have f0 := blk_frozen (dn.blk TW.out HR2.out.1) 0; have f1 := blk_frozen (dn.blk TW.out HR2.out.1) 1; have g0 := SX.out.1; have g1 := SX.out.2.1; clear dn h0_ h1_ h2_ h3_ FX)
                 | (refine step_appK rfl _ _ 71 71 rfl (.slice Ax j cxl) _ (by simp [Act.eval, Act.put]) (by simp only [Act.eval, Act.put]; rfl)  (aV.out _ _ ?_ ?_) ?_; exact (by first | exact below_drew1 (below_alloc (Below.refl _ _) _) | exact below_drew1 (below_alloc (below_alloc (Below.refl _ _) _) _)); exact (by first | exact blk_new _ _ | exact blk_new2 _ _ _ | exact blk_alloc (blk_new _ _) _); rintro _ w2 ⟨g3, c3, rfl, s1⟩; have SA := Aside0.mk s1; have FX : Aside0 (Fr ((Value.slice Al j ckl).ownBlock.toList ++ (Value.slice Ax j cxl).ownBlock.toList) WB w2) := ⟨s1.fr.mono (fun x hx => by simp only [List.mem_append]; simp [hx])⟩; have h0_ := FX.out.cell d0 (hN.out NB (by simp)); have h1_ := FX.out.cell d1' (hN.out NB (by simp)); have h2_ := FX.out.cell r0 (hN.out PB (by simp)); have h3_ := FX.out.cell r1 (hN.out PB (by simp)); have SX := Aside0.mk (And.intro h0_ (And.intro h1_ (And.intro h2_ h3_))); clear s1 h0_ h1_ h2_ h3_ FX)
                go_simp
                refine hK.out _ _ SX.out (fun hHeld => ?_)
                clear hK K
                refine pK 18 90 (mK 24 524287) rfl rfl HT_ ?_
                refine pK 19 91 (mK 24 1048575) rfl rfl HT_ ?_
                refine last_ (i := 20) (N := none) (mK 24 2097151) rfl rfl (one_of HT_.out (by kernel_rfl)) (by decide) (fun K hK => ?_)
                focus
                 go_simp
                 (skip)
                 refine hK.out _ _ ?_
                 clear hK K
                 refine pK 21 92 (mK 24 4194303) rfl rfl HT_ ?_
                 refine pK 22 93 (mK 24 8388607) rfl rfl HT_ ?_
                 refine last_ (i := 23) (N := none) (mK 24 16777215) rfl rfl (one_of HT_.out (by kernel_rfl)) (by decide) (fun K hK => ?_)
                 focus
                  go_simp
                  skip
                  refine hK.out _ _ ?_
                  clear hK K
                  refine done_ (done_of HT_.out (by kernel_rfl)) ?_
             rotate_left 1
             focus
              go_simp
              refine hK.out _ _ ⟨cell_alloc hHeld.1 _, cell_alloc hHeld.2.1 _, cell_alloc hHeld.2.2.1 _, cell_alloc hHeld.2.2.2 _⟩ (fun hHeld => ?_)
              clear hK K
              refine one_ (i := 9) (N := some 81) (mK 24 131071) rfl rfl (one_of HT_.out (by kernel_rfl)) (by decide) (fun K hK => ?_)
              focus
               first
                | (refine step_appK rfl _ _ 71 71 rfl (.slice Al j ckl) _ (by simp [Act.eval, Act.put]) (by simp only [Act.eval, Act.put]; rfl)  (aVK.out _ _ _ _ _ _ SA.out ?_ ?_) ?_; exact (by first | exact Below.refl _ _ | exact below_alloc (Below.refl _ _) _); exact (by first | exact blk_new _ _ | exact SA.out.new (by first | exact blk_new _ _ | exact blk_new2 _ _ _ | exact blk_alloc (blk_new _ _) _) (by first | exact Nat.le_refl _ | exact Nat.le_succ _) TW.out.clt); rintro _ w3 ⟨g2, c2, rfl, dn⟩; have DN := Aside0.mk dn; have FX := Aside0.mk dn.fr; have h0_ := FX.out.cell d0 (hN.out NB (by simp)); have h1_ := FX.out.cell d1' (hN.out NB (by simp)); have h2_ := FX.out.cell r0 (hN.out PB (by simp)); have h3_ := FX.out.cell r1 (hN.out PB (by simp)); have SX := Aside0.mk (And.intro h0_ (And.intro h1_ (And.intro h2_ h3_))); have f0 := blk_frozen (dn.blk TW.out HR2.out.1) 0; have f1 := blk_frozen (dn.blk TW.out HR2.out.1) 1; have g0 := SX.out.1; have g1 := SX.out.2.1; clear dn h0_ h1_ h2_ h3_ FX)
                | (refine step_appK rfl _ _ 71 71 rfl (.slice Al j ckl) _ (by simp [Act.eval, Act.put]) (by simp only [Act.eval, Act.put]; rfl)  (aK.out _ _ ?_ ?_) ?_; exact (by first | exact below_drew1 (below_alloc (Below.refl _ _) _) | exact below_drew1 (below_alloc (below_alloc (Below.refl _ _) _) _)); exact (by first | exact blk_new _ _ | exact blk_new2 _ _ _ | exact blk_alloc (blk_new _ _) _); rintro _ w2 ⟨g2, c2, rfl, s1⟩; have SA := Aside0.mk s1; have FX : Aside0 (Fr ((Value.slice Al j ckl).ownBlock.toList ++ (Value.slice Ax j cxl).ownBlock.toList) WB w2) := ⟨s1.fr.mono (fun x hx => by simp only [List.mem_append]; simp [hx])⟩; have h0_ := FX.out.cell d0 (hN.out NB (by simp)); have h1_ := FX.out.cell d1' (hN.out NB (by simp)); have h2_ := FX.out.cell r0 (hN.out PB (by simp)); have h3_ := FX.out.cell r1 (hN.out PB (by simp)); have SX := Aside0.mk (And.intro h0_ (And.intro h1_ (And.intro h2_ h3_))); clear s1 h0_ h1_ h2_ h3_ FX)
               go_simp
               refine hK.out _ _ SX.out (fun hHeld => ?_)
               clear hK K
               refine one_ (i := 17) (N := some 89) (mK 24 262143) rfl rfl (one_of HT_.out (by kernel_rfl)) (by decide) (fun K hK => ?_)
               focus
                first
                 | (refine step_appK rfl _ _ 71 71 rfl (.slice Ax j cxl) _ (by simp [Act.eval, Act.put]) (by simp only [Act.eval, Act.put]; rfl)  (aKV.out _ _ _ _ _ _ SA.out ?_ ?_) ?_; exact (by first | exact Below.refl _ _ | exact below_alloc (Below.refl _ _) _); exact (by first | exact blk_new _ _ | exact SA.out.new (by first | exact blk_new _ _ | exact blk_new2 _ _ _ | exact blk_alloc (blk_new _ _) _) (by first | exact Nat.le_refl _ | exact Nat.le_succ _) TW.out.klt); rintro _ w3 ⟨g3, c3, rfl, dn⟩; have DN := Aside0.mk dn; have FX := Aside0.mk dn.fr; have h0_ := FX.out.cell d0 (hN.out NB (by simp)); have h1_ := FX.out.cell d1' (hN.out NB (by simp)); have h2_ := FX.out.cell r0 (hN.out PB (by simp)); have h3_ := FX.out.cell r1 (hN.out PB (by simp)); have SX := Aside0.mk (And.intro h0_ (And.intro h1_ (And.intro h2_ h3_))); have f0 := blk_frozen (dn.blk TW.out HR2.out.1) 0; have f1 := blk_frozen (dn.blk TW.out HR2.out.1) 1; have g0 := SX.out.1; have g1 := SX.out.2.1; clear dn h0_ h1_ h2_ h3_ FX)
                 | (refine step_appK rfl _ _ 71 71 rfl (.slice Ax j cxl) _ (by simp [Act.eval, Act.put]) (by simp only [Act.eval, Act.put]; rfl)  (aV.out _ _ ?_ ?_) ?_; exact (by first | exact below_drew1 (below_alloc (Below.refl _ _) _) | exact below_drew1 (below_alloc (below_alloc (Below.refl _ _) _) _)); exact (by first | exact blk_new _ _ | exact blk_new2 _ _ _ | exact blk_alloc (blk_new _ _) _); rintro _ w2 ⟨g3, c3, rfl, s1⟩; have SA := Aside0.mk s1; have FX : Aside0 (Fr ((Value.slice Al j ckl).ownBlock.toList ++ (Value.slice Ax j cxl).ownBlock.toList) WB w2) := ⟨s1.fr.mono (fun x hx => by simp only [List.mem_append]; simp [hx])⟩; have h0_ := FX.out.cell d0 (hN.out NB (by simp)); have h1_ := FX.out.cell d1' (hN.out NB (by simp)); have h2_ := FX.out.cell r0 (hN.out PB (by simp)); have h3_ := FX.out.cell r1 (hN.out PB (by simp)); have SX := Aside0.mk (And.intro h0_ (And.intro h1_ (And.intro h2_ h3_))); clear s1 h0_ h1_ h2_ h3_ FX)
                go_simp
                refine hK.out _ _ SX.out (fun hHeld => ?_)
                clear hK K
                refine pK 18 90 (mK 24 524287) rfl rfl HT_ ?_
                refine pK 19 91 (mK 24 1048575) rfl rfl HT_ ?_
                refine last_ (i := 20) (N := none) (mK 24 2097151) rfl rfl (one_of HT_.out (by kernel_rfl)) (by decide) (fun K hK => ?_)
                focus
                 go_simp
                 (skip)
                 refine hK.out _ _ ?_
                 clear hK K
                 refine pK 21 92 (mK 24 4194303) rfl rfl HT_ ?_
                 refine pK 22 93 (mK 24 8388607) rfl rfl HT_ ?_
                 refine last_ (i := 23) (N := none) (mK 24 16777215) rfl rfl (one_of HT_.out (by kernel_rfl)) (by decide) (fun K hK => ?_)
                 focus
                  go_simp
                  skip
                  refine hK.out _ _ ?_
                  clear hK K
                  refine done_ (done_of HT_.out (by kernel_rfl)) ?_
             rotate_left 1
            rotate_left 2
            focus
             go_simp
             refine hK.out _ _ ⟨cell_alloc hHeld.1 _, cell_alloc hHeld.2.1 _, cell_alloc hHeld.2.2.1 _, cell_alloc hHeld.2.2.2 _⟩ (fun hHeld => ?_)
             clear hK K
             refine one_ (i := 8) (N := some 80) (mK 24 130559) rfl rfl (one_of HT_.out (by kernel_rfl)) (by decide) (fun K hK => ?_)
             focus
              go_simp
              refine hK.out _ _ ⟨cell_alloc hHeld.1 _, cell_alloc hHeld.2.1 _, cell_alloc hHeld.2.2.1 _, cell_alloc hHeld.2.2.2 _⟩ (fun hHeld => ?_)
              clear hK K
              refine one_ (i := 9) (N := some 81) (mK 24 131071) rfl rfl (one_of HT_.out (by kernel_rfl)) (by decide) (fun K hK => ?_)
              focus
               first
                | (refine step_appK rfl _ _ 71 71 rfl (.slice Al j ckl) _ (by simp [Act.eval, Act.put]) (by simp only [Act.eval, Act.put]; rfl)  (aVK.out _ _ _ _ _ _ SA.out ?_ ?_) ?_; exact (by first | exact Below.refl _ _ | exact below_alloc (Below.refl _ _) _); exact (by first | exact blk_new _ _ | exact SA.out.new (by first | exact blk_new _ _ | exact blk_new2 _ _ _ | exact blk_alloc (blk_new _ _) _) (by first | exact Nat.le_refl _ | exact Nat.le_succ _) TW.out.clt); rintro _ w3 ⟨g2, c2, rfl, dn⟩; have DN := Aside0.mk dn; have FX := Aside0.mk dn.fr; have h0_ := FX.out.cell d0 (hN.out NB (by simp)); have h1_ := FX.out.cell d1' (hN.out NB (by simp)); have h2_ := FX.out.cell r0 (hN.out PB (by simp)); have h3_ := FX.out.cell r1 (hN.out PB (by simp)); have SX := Aside0.mk (And.intro h0_ (And.intro h1_ (And.intro h2_ h3_))); have f0 := blk_frozen (dn.blk TW.out HR2.out.1) 0; have f1 := blk_frozen (dn.blk TW.out HR2.out.1) 1; have g0 := SX.out.1; have g1 := SX.out.2.1; clear dn h0_ h1_ h2_ h3_ FX)
                | (refine step_appK rfl _ _ 71 71 rfl (.slice Al j ckl) _ (by simp [Act.eval, Act.put]) (by simp only [Act.eval, Act.put]; rfl)  (aK.out _ _ ?_ ?_) ?_; exact (by first | exact below_drew1 (below_alloc (Below.refl _ _) _) | exact below_drew1 (below_alloc (below_alloc (Below.refl _ _) _) _)); exact (by first | exact blk_new _ _ | exact blk_new2 _ _ _ | exact blk_alloc (blk_new _ _) _); rintro _ w2 ⟨g2, c2, rfl, s1⟩; have SA := Aside0.mk s1; have FX : Aside0 (Fr ((Value.slice Al j ckl).ownBlock.toList ++ (Value.slice Ax j cxl).ownBlock.toList) WB w2) := ⟨s1.fr.mono (fun x hx => by simp only [List.mem_append]; simp [hx])⟩; have h0_ := FX.out.cell d0 (hN.out NB (by simp)); have h1_ := FX.out.cell d1' (hN.out NB (by simp)); have h2_ := FX.out.cell r0 (hN.out PB (by simp)); have h3_ := FX.out.cell r1 (hN.out PB (by simp)); have SX := Aside0.mk (And.intro h0_ (And.intro h1_ (And.intro h2_ h3_))); clear s1 h0_ h1_ h2_ h3_ FX)
               go_simp
               refine hK.out _ _ SX.out (fun hHeld => ?_)
               clear hK K
               refine one_ (i := 17) (N := some 89) (mK 24 262143) rfl rfl (one_of HT_.out (by kernel_rfl)) (by decide) (fun K hK => ?_)
               focus
                first
                 | (refine step_appK rfl _ _ 71 71 rfl (.slice Ax j cxl) _ (by simp [Act.eval, Act.put]) (by simp only [Act.eval, Act.put]; rfl)  (aKV.out _ _ _ _ _ _ SA.out ?_ ?_) ?_; exact (by first | exact Below.refl _ _ | exact below_alloc (Below.refl _ _) _); exact (by first | exact blk_new _ _ | exact SA.out.new (by first | exact blk_new _ _ | exact blk_new2 _ _ _ | exact blk_alloc (blk_new _ _) _) (by first | exact Nat.le_refl _ | exact Nat.le_succ _) TW.out.klt); rintro _ w3 ⟨g3, c3, rfl, dn⟩; have DN := Aside0.mk dn; have FX := Aside0.mk dn.fr; have h0_ := FX.out.cell d0 (hN.out NB (by simp)); have h1_ := FX.out.cell d1' (hN.out NB (by simp)); have h2_ := FX.out.cell r0 (hN.out PB (by simp)); have h3_ := FX.out.cell r1 (hN.out PB (by simp)); have SX := Aside0.mk (And.intro h0_ (And.intro h1_ (And.intro h2_ h3_))); have f0 := blk_frozen (dn.blk TW.out HR2.out.1) 0; have f1 := blk_frozen (dn.blk TW.out HR2.out.1) 1; have g0 := SX.out.1; have g1 := SX.out.2.1; clear dn h0_ h1_ h2_ h3_ FX)
                 | (refine step_appK rfl _ _ 71 71 rfl (.slice Ax j cxl) _ (by simp [Act.eval, Act.put]) (by simp only [Act.eval, Act.put]; rfl)  (aV.out _ _ ?_ ?_) ?_; exact (by first | exact below_drew1 (below_alloc (Below.refl _ _) _) | exact below_drew1 (below_alloc (below_alloc (Below.refl _ _) _) _)); exact (by first | exact blk_new _ _ | exact blk_new2 _ _ _ | exact blk_alloc (blk_new _ _) _); rintro _ w2 ⟨g3, c3, rfl, s1⟩; have SA := Aside0.mk s1; have FX : Aside0 (Fr ((Value.slice Al j ckl).ownBlock.toList ++ (Value.slice Ax j cxl).ownBlock.toList) WB w2) := ⟨s1.fr.mono (fun x hx => by simp only [List.mem_append]; simp [hx])⟩; have h0_ := FX.out.cell d0 (hN.out NB (by simp)); have h1_ := FX.out.cell d1' (hN.out NB (by simp)); have h2_ := FX.out.cell r0 (hN.out PB (by simp)); have h3_ := FX.out.cell r1 (hN.out PB (by simp)); have SX := Aside0.mk (And.intro h0_ (And.intro h1_ (And.intro h2_ h3_))); clear s1 h0_ h1_ h2_ h3_ FX)
                go_simp
                refine hK.out _ _ SX.out (fun hHeld => ?_)
                clear hK K
                refine pK 18 90 (mK 24 524287) rfl rfl HT_ ?_
                refine pK 19 91 (mK 24 1048575) rfl rfl HT_ ?_
                refine last_ (i := 20) (N := none) (mK 24 2097151) rfl rfl (one_of HT_.out (by kernel_rfl)) (by decide) (fun K hK => ?_)
                focus
                 go_simp
                 (skip)
                 refine hK.out _ _ ?_
                 clear hK K
                 refine pK 21 92 (mK 24 4194303) rfl rfl HT_ ?_
                 refine pK 22 93 (mK 24 8388607) rfl rfl HT_ ?_
                 refine last_ (i := 23) (N := none) (mK 24 16777215) rfl rfl (one_of HT_.out (by kernel_rfl)) (by decide) (fun K hK => ?_)
                 focus
                  go_simp
                  skip
                  refine hK.out _ _ ?_
                  clear hK K
                  refine done_ (done_of HT_.out (by kernel_rfl)) ?_
            rotate_left 1
            all_goals
              obtain ⟨W4, hW4⟩ : ∃ W4, (w3.setCell ⟨NB, 0, none⟩ (.slice (some ⟨g2, 0, none⟩) (j + 1) c2)).setCell ⟨NB, 1, none⟩ (.slice (some ⟨g3, 0, none⟩) (j + 1) c3) = W4 := ⟨_, rfl⟩
              have etk : cs.take (j + 1) = cs.take j ++ [q] := take_one HQ.out.1
              have LG := leaf_grow (l' := cs.take (j + 1)) TW.out DN.out HR2.out.1 (by rw [etk, ← HXY.out.1]; simp [encKs, keysOf, encN]) (by rw [etk, ← HXY.out.2.1]; simp [encVs])
              rw [hW4] at LG
              have h5 : Below NB W W4 := h3.out.trans (((HP.out.2.1.mono (by have := h3.out.size; have := HNB.out; have := HPB.out; omega))).trans (LG.2.below_base (fun x hx => HXY.out.2.2 x hx) (by have := h3.out.size; have := HNB.out; have := HPB.out; have := HP.out.2.2; omega)))
              have h6 : ∀ y ∈ NB :: ((Value.slice (some ⟨g2, 0, none⟩) (j + 1) c2).ownBlock.toList ++ (Value.slice (some ⟨g3, 0, none⟩) (j + 1) c3).ownBlock.toList), NB ≤ y := fun y hy => by
                have z9 : NB ≤ WB.heap.size := by have := h3.out.size; have := HNB.out; have := HPB.out; have := HP.out.2.2; omega
                rcases List.mem_cons.1 hy with rfl | hy
                · exact Nat.le_refl _
                · rcases List.mem_append.1 hy with hy | hy
                  · rcases DN.out.sub1 y hy with h | h
                    · exact HXY.out.2.2 y (List.mem_cons_of_mem _ (List.mem_append_left _ h))
                    · exact Nat.le_trans z9 h
                  · rcases DN.out.sub2 y hy with h | h
                    · exact HXY.out.2.2 y (List.mem_cons_of_mem _ (List.mem_append_right _ h))
                    · exact Nat.le_trans z9 h
              have LG2 := Aside0.mk (And.intro LG.1 (And.intro h5 h6))
              rw [hW4]
              clear hW4 LG h5 h6 etk
              gi_wp2
              gi_roundg (gk - 1)
              case measure => have := h1.out; have := HQ.out.2; omega
              case rel => exact ⟨j + 1, _, by rw [w64j (j := j) (by have := HR2.out.2.2.2; omega)], ⟨by have := h1.out; have := HQ.out.2; omega⟩, ⟨LG2.out.1, LG2.out.2.2⟩, ⟨LG2.out.2.1⟩⟩
          · have d1 : decide ((j : Int) < (k1 : Int)) = false := decide_eq_false (by omega)
            have d2 : decide (j < k1) = false := decide_eq_false hj
            have hjk : j = k1 := by have := h1.out; omega
            obtain ⟨⟨vlv, vle, bs, S0, ns0⟩, hf0, hfc, hbw0⟩ := HI.out
            obtain ⟨ks, hks⟩ : ∃ ks, (pre.map fun i => headK (l.drop (cutAt n M i.val))) = ks := ⟨_, rfl⟩
            obtain ⟨lvs, hlvs⟩ : ∃ lvs, (pre.map fun i => (chunk l n M i.val : T 0)) = lvs := ⟨_, rfl⟩
            have hplen : pre.length < M := HLX.out.2.2
            obtain ⟨pl, hpl⟩ : ∃ pl, pre.length = pl := ⟨_, rfl⟩
            have hkl1 : ks.length = pl := by rw [← hks, List.length_map, hpl]
            have hkl2 : lvs.length = pl := by rw [← hlvs, List.length_map, hpl]
            have ns1 : NS b3 [b3, rt, tb, nb, mb] 0 wr lv le vlv vle bs lvs ks S0 := by rw [← hks, ← hlvs]; exact ns0.below node_sta (by rw [HNB.out]; exact h3.out)
            obtain ⟨⟨kv, vv, e0, e1, e2, rfl, e4⟩, e5⟩ := h2.out
            have htk : cs.take j = cs := List.take_of_length_le (by have := HK.out; omega)
            rw [htk] at e1 e2
            have hLA : NodeAt 0 wr NB (cs : T 0) (NB :: (kv.ownBlock.toList ++ vv.ownBlock.toList)) := ⟨kv, vv, e0, e1, e2, rfl, e4⟩
            obtain ⟨q, hq⟩ : ∃ q, cs[0]? = some q := ⟨_, List.getElem?_eq_getElem (by have := HK.out; have := HX1.out; omega)⟩
            have hxl : (encKs (keysOf cs)).length = k1 := by simp only [encKs, keysOf, List.length_map]; exact HK.out.2.2.1
            obtain ⟨gk, ck, rfl⟩ := row_some e1 (by rw [hxl]; have := HX1.out; have := HK.out; omega)
            have r1 := (e1.cellAt (i := 0) (u := .string ⟨q.1.toArray⟩) (by simp only [encKs, keysOf, List.map_map, List.getElem?_map, hq]; rfl)).1
            obtain ⟨r0, -, -⟩ := leaf_cells (show wr.heap[NB]? = some (.cells #[_, _, .slice none 0 0] 74 (0, 0)) from e0)
            rw [hxl] at e0 e1 e4 e5 hLA r0
            have hp1 : (bs.map encP).length = pl := by rw [List.length_map]; exact (kids_len ns1.kids).trans hkl2
            have hp2 : (encKs ks).length = pl := by rw [encKs, List.length_map, hkl1]
            obtain ⟨Al, cl, rfl, -, -⟩ := ns1.rlv.shape
            obtain ⟨Ae, ce, rfl, -, -⟩ := ns1.rle.shape
            rw [hp1, hp2] at ns1
            obtain ⟨SL, hSL⟩ : ∃ SL, NB :: ((Value.slice (some ⟨gk, 0, none⟩) k1 ck).ownBlock.toList ++ vv.ownBlock.toList) = SL := ⟨_, rfl⟩
            rw [hSL] at hLA e4 e5
            have hgk : gk ∈ SL := by rw [← hSL]; simp [Value.ownBlock]
            have hNBm : NB ∈ SL := by rw [← hSL]; simp
            have hap : ∀ x ∈ lv :: le :: ((Value.slice Al pl cl).ownBlock.toList ++ ((Value.slice Ae pl ce).ownBlock.toList ++ S0)), x ∉ SL := fun x hx h9 => by
              have h8 := (ns0.cells node_sta x (by rw [hp1, hp2]; exact hx)).lt
              have h7 := e5 x h9
              have := HNB.out
              omega
            have TW : Aside0 (Two wr lv (.slice Al pl cl) (.slice Ae pl ce) (le :: (SL ++ S0))) := ⟨ns_two node_sta ns1 e4 (fun y hy => node_lt hLA y hy) hap⟩
            have HR2 : Aside0 (wr.heap[lv]? = some (.cells #[(.slice Al pl cl)] 72 (0, 0)) ∧ wr.heap[le]? = some (.cells #[(.slice Ae pl ce)] 71 (0, 0)) ∧ RowV 70 wr (.slice Al pl cl) (bs.map encP) ∧ RowV 9 wr (.slice Ae pl ce) (encKs ks) ∧ pl ≤ 4294967296) := ⟨ns1.hlv, ns1.hle, ns1.rlv, ns1.rle, by have := many_le_n (n := n) H4M.out.1; have := HL.out; omega⟩
            have HGL := Aside0.mk (And.intro hLA (And.intro e5 (And.intro hap (And.intro hks (And.intro hlvs (And.intro hpl (And.intro hq hjk)))))))
            have NS1 := Aside0.mk ns1
            have d0 : wr.cell? ⟨lv, 0, none⟩ = some (.slice Al pl cl) := (blk_cell ns1.hlv 0).trans rfl
            have d1' : wr.cell? ⟨le, 0, none⟩ = some (.slice Ae pl ce) := (blk_cell ns1.hle 0).trans rfl
            have hN : Aside0 (∀ g ∈ [lv, le, NB, gk], g ∉ (Value.slice Al pl cl).ownBlock.toList ++ (Value.slice Ae pl ce).ownBlock.toList) := ⟨fun g hg hx => by
              have h9 : (((Value.slice Al pl cl).ownBlock.toList ++ (Value.slice Ae pl ce).ownBlock.toList) ++ (lv :: le :: (SL ++ S0))).Nodup := nd_perm TW.out.nd (fun a => by simp only [List.count_append, List.count_cons, List.count_nil]; omega)
              refine (List.nodup_append.1 h9).2.2 g hx g ?_ rfl
              simp only [List.mem_cons, List.not_mem_nil, or_false] at hg
              simp only [List.mem_cons, List.mem_append]
              rcases hg with rfl | rfl | rfl | rfl <;> simp [hgk, hNBm]⟩
            have aK : Aside0 (∀ W vb, Below wr.heap.size wr W → W.heap[vb]? = some (.cells #[.pointer (some ⟨NB, 0, none⟩)] 70 (0, 0)) → ∃ v' w2, (Builtin.append_ #[72, 72] 72 #[(.slice Al pl cl), .slice (some ⟨vb, 0, none⟩) 1 1]).run Try.prog W = .ok v' w2 ∧ ∃ g c, v' = .slice (some ⟨g, 0, none⟩) (pl + 1) c ∧ Step1 70 wr W w2 (.slice Al pl cl) (.slice (some ⟨g, 0, none⟩) (pl + 1) c) (bs.map encP ++ [encP NB])) := ⟨fun W vb hW hvb => by
              obtain ⟨g, c, w2, h1, h2⟩ := appNB (HR2.out.2.2.1.below hW) hvb HR2.out.2.2.2.2
              exact ⟨_, w2, h1, g, c, rfl, hW, h2⟩⟩
            have aV : Aside0 (∀ W vb, Below wr.heap.size wr W → W.heap[vb]? = some (.cells #[.string ⟨q.1.toArray⟩] 9 (0, 0)) → ∃ v' w2, (Builtin.append_ #[71, 71] 71 #[(.slice Ae pl ce), .slice (some ⟨vb, 0, none⟩) 1 1]).run Try.prog W = .ok v' w2 ∧ ∃ g c, v' = .slice (some ⟨g, 0, none⟩) (pl + 1) c ∧ Step1 9 wr W w2 (.slice Ae pl ce) (.slice (some ⟨g, 0, none⟩) (pl + 1) c) (encKs ks ++ [.string ⟨q.1.toArray⟩])) := ⟨fun W vb hW hvb => by
              obtain ⟨g, c, w2, h1, h2⟩ := appSB (HR2.out.2.2.2.1.below hW) hvb HR2.out.2.2.2.2
              exact ⟨_, w2, h1, g, c, rfl, hW, h2⟩⟩
            have aKV : Aside0 (∀ w2 g c W W2 vb, Step1 70 wr W w2 (.slice Al pl cl) (.slice (some ⟨g, 0, none⟩) (pl + 1) c) (bs.map encP ++ [encP NB]) → Below w2.heap.size w2 W2 → W2.heap[vb]? = some (.cells #[.string ⟨q.1.toArray⟩] 9 (0, 0)) → ∃ v' w3, (Builtin.append_ #[71, 71] 71 #[(.slice Ae pl ce), .slice (some ⟨vb, 0, none⟩) 1 1]).run Try.prog W2 = .ok v' w3 ∧ ∃ g' c', v' = .slice (some ⟨g', 0, none⟩) (pl + 1) c' ∧ Done 70 9 wr w3 lv (.slice Al pl cl) (.slice (some ⟨g, 0, none⟩) (pl + 1) c) (bs.map encP ++ [encP NB]) (.slice Ae pl ce) (.slice (some ⟨g', 0, none⟩) (pl + 1) c') (encKs ks ++ [.string ⟨q.1.toArray⟩]) (le :: (SL ++ S0))) := ⟨fun w2 g c W W2 vb s1 hW hvb => by
              obtain ⟨g', c', w3, h1, h2⟩ := appSB ((s1.row HR2.out.2.2.2.1 TW.out).below hW) hvb HR2.out.2.2.2.2
              exact ⟨_, w3, h1, g', c', rfl, Step2.done ⟨s1, hW, h2⟩ TW.out⟩⟩
            have aVK : Aside0 (∀ w2 g c W W2 vb, Step1 9 wr W w2 (.slice Ae pl ce) (.slice (some ⟨g, 0, none⟩) (pl + 1) c) (encKs ks ++ [.string ⟨q.1.toArray⟩]) → Below w2.heap.size w2 W2 → W2.heap[vb]? = some (.cells #[.pointer (some ⟨NB, 0, none⟩)] 70 (0, 0)) → ∃ v' w3, (Builtin.append_ #[72, 72] 72 #[(.slice Al pl cl), .slice (some ⟨vb, 0, none⟩) 1 1]).run Try.prog W2 = .ok v' w3 ∧ ∃ g' c', v' = .slice (some ⟨g', 0, none⟩) (pl + 1) c' ∧ Done 70 9 wr w3 lv (.slice Al pl cl) (.slice (some ⟨g', 0, none⟩) (pl + 1) c') (bs.map encP ++ [encP NB]) (.slice Ae pl ce) (.slice (some ⟨g, 0, none⟩) (pl + 1) c) (encKs ks ++ [.string ⟨q.1.toArray⟩]) (le :: (SL ++ S0))) := ⟨fun w2 g c W W2 vb s1 hW hvb => by
              obtain ⟨g', c', w3, h1, h2⟩ := appNB ((s1.row HR2.out.2.2.1 TW.out.swap).below hW) hvb HR2.out.2.2.2.2
              exact ⟨_, w3, h1, g', c', rfl, (Step2.done ⟨s1, hW, h2⟩ TW.out.swap).swap⟩⟩
            have HNE : Aside0 (le ∉ [lv]) := ⟨fun h9 => (List.nodup_cons.1 TW.out.nd).1 (by simp only [List.mem_singleton] at h9; rw [← h9]; simp)⟩
            have ek1 : (0 : Int) < (k1 : Int) := by have := HX1.out; have := HK.out; omega
            have ek2 : 0 < k1 := by omega
            clear ns0 ns1 hf0 hfc hbw0 hks hlvs hplen hpl hkl1 hkl2 e0 e1 e2 e4 e5 htk hLA hq hxl hp1 hp2 hSL hgk hNBm hap h2 hj hjk
            gi_upto_region 20 with fail
            refine startIn_ (k := 15) (S := fun w' => w'.cell? ⟨lv, 0, none⟩ = some (.slice Al pl cl) ∧ w'.cell? ⟨le, 0, none⟩ = some (.slice Ae pl ce) ∧ w'.cell? ⟨NB, 0, none⟩ = some (.slice (some ⟨gk, 0, none⟩) k1 ck) ∧ w'.cell? ⟨gk, 0, none⟩ = some (.string ⟨q.1.toArray⟩)) (ds := [13, 14]) (mK 15 0) (by kernel_rfl) rfl rfl (by kernel_rfl) (no_lets (fun _ _ h => h)) ⟨d0, d1', r0, r1⟩ (fun hHeld => ?_)
            refine with_tabW (T := (true, [([], []), ([], []), ([1], [1]), ([0, 2], [0, 2]), ([], []), ([], []), ([5], [5]), ([6], [6]), ([7], [7]), ([8], [8]), ([9], [9]), ([10], [10]), ([4, 11, 3], [4, 11]), ([3, 12, 0, 1, 2, 3], [3]), ([12, 13, 0, 1, 2, 3, 4, 5, 6, 7, 8, 9, 10, 11, 12, 13], [12])])) (B := [0, 0, 2, 7, 0, 0, 32, 96, 224, 480, 992, 2016, 4095, 8191, 16383]) (by kernel_rfl) (by kernel_rfl) (fun HT_ HW_ => ?_)
            refine pK 1 96 (mK 15 2) rfl rfl HT_ ?_
            refine pK 5 100 (mK 15 34) rfl rfl HT_ ?_
            refine pK 6 101 (mK 15 98) rfl rfl HT_ ?_
            refine pK 7 102 (mK 15 226) rfl rfl HT_ ?_
            refine take_ (i := 0) (N := some 95) (v := ?_) (a' := ?_) (mK 15 227) rfl rfl (take_ofW HT_.out HW_.out (by kernel_rfl)) (fun _ _ _ h => h) (Or.inl ⟨by rfl, ?_⟩) hHeld ?_ ?_
            rotate_left; focus (rintro w' ⟨s0, s1, s2, s3⟩; go_simp; with_reducible rfl; done)
            rotate_left; focus (first | (simp only [Act.put, List.setIfInBounds_toArray, List.set_cons_zero, List.set_cons_succ, i64_w, i32_w]; rfl; done) | (rfl; done))
            refine take_ (i := 4) (N := some 99) (v := ?_) (a' := ?_) (mK 15 243) rfl rfl (take_ofW HT_.out HW_.out (by kernel_rfl)) (fun _ _ _ h => h) (Or.inl ⟨by rfl, ?_⟩) hHeld ?_ ?_
            rotate_left; focus (rintro w' ⟨s0, s1, s2, s3⟩; go_simp; with_reducible rfl; done)
            rotate_left; focus (first | (simp only [Act.put, List.setIfInBounds_toArray, List.set_cons_zero, List.set_cons_succ, i64_w, i32_w]; rfl; done) | (rfl; done))
            refine take_ (i := 8) (N := some 103) (v := ?_) (a' := ?_) (mK 15 499) rfl rfl (take_ofW HT_.out HW_.out (by kernel_rfl)) (fun _ _ _ h => h) (Or.inl ⟨by rfl, ?_⟩) hHeld ?_ ?_
            rotate_left; focus (rintro w' ⟨s0, s1, s2, s3⟩; go_simp; with_reducible rfl; done)
            rotate_left; focus (first | (simp only [Act.put, List.setIfInBounds_toArray, List.set_cons_zero, List.set_cons_succ, i64_w, i32_w]; rfl; done) | (rfl; done))
            refine pK 9 104 (mK 15 1011) rfl rfl HT_ ?_
            refine take_ (i := 10) (N := some 105) (v := ?_) (a' := ?_) (mK 15 2035) rfl rfl (take_ofW HT_.out HW_.out (by kernel_rfl)) (fun _ _ _ h => h) (Or.inl ⟨by rfl, ?_⟩) hHeld ?_ ?_
            rotate_left; focus (rintro w' ⟨s0, s1, s2, s3⟩; go_simp; with_reducible rfl; done)
            rotate_left; focus (first | (simp only [Act.put, List.setIfInBounds_toArray, List.set_cons_zero, List.set_cons_succ, i64_w, i32_w]; rfl; done) | (rfl; done))
            refine two_ (i := 2) (j := 11) (mK 15 2039) (mK 15 4083) rfl rfl rfl rfl (two_of HT_.out (by kernel_rfl)) (by decide) (by decide) (fun K hK => ?_) (fun K hK => ?_)
            focus
             go_simp
             refine hK.out _ _ ⟨cell_alloc hHeld.1 _, cell_alloc hHeld.2.1 _, cell_alloc hHeld.2.2.1 _, cell_alloc hHeld.2.2.2 _⟩ (fun hHeld => ?_)
             clear hK K
             refine two_ (i := 3) (j := 11) (mK 15 2047) (mK 15 4087) rfl rfl rfl rfl (two_of HT_.out (by kernel_rfl)) (by decide) (by decide) (fun K hK => ?_) (fun K hK => ?_)
             focus
              first
               | (refine step_appK rfl _ _ 72 72 rfl (.slice Al pl cl) _ (by simp [Act.eval, Act.put]) (by simp only [Act.eval, Act.put]; rfl)  (aVK.out _ _ _ _ _ _ SA.out ?_ ?_) ?_; exact (by first | exact Below.refl _ _ | exact below_alloc (Below.refl _ _) _); exact (by first | exact blk_new _ _ | exact SA.out.new (by first | exact blk_new _ _ | exact blk_new2 _ _ _ | exact blk_alloc (blk_new _ _) _) (by first | exact Nat.le_refl _ | exact Nat.le_succ _) TW.out.clt); rintro _ w3 ⟨g2, c2, rfl, dn⟩; have DN := Aside0.mk dn; have FX := Aside0.mk dn.fr; have h0_ := FX.out.cell d0 (hN.out lv (by simp)); have h1_ := FX.out.cell d1' (hN.out le (by simp)); have h2_ := FX.out.cell r0 (hN.out NB (by simp)); have h3_ := FX.out.cell r1 (hN.out gk (by simp)); have SX := Aside0.mk (And.intro h0_ (And.intro h1_ (And.intro h2_ h3_))); have f0 := blk_frozen (dn.blk TW.out HR2.out.1) 0; have f1 := fun u => blk_frozen (((Fr.refl [lv] w3).setCell (p := ⟨lv, 0, none⟩) (.inl (by simp)) u).blk ((dn.rest TW.out le (by simp)).trans HR2.out.2.1) HNE.out) 0; have g0 := SX.out.1; have g1 := fun u => (blk_cell (((Fr.refl [lv] w3).setCell (p := ⟨lv, 0, none⟩) (.inl (by simp)) u).blk ((dn.rest TW.out le (by simp)).trans HR2.out.2.1) HNE.out) 0).trans rfl; clear dn h0_ h1_ h2_ h3_ FX)
               | (refine step_appK rfl _ _ 72 72 rfl (.slice Al pl cl) _ (by simp [Act.eval, Act.put]) (by simp only [Act.eval, Act.put]; rfl)  (aK.out _ _ ?_ ?_) ?_; exact (by first | exact below_drew1 (below_alloc (Below.refl _ _) _) | exact below_drew1 (below_alloc (below_alloc (Below.refl _ _) _) _)); exact (by first | exact blk_new _ _ | exact blk_new2 _ _ _ | exact blk_alloc (blk_new _ _) _); rintro _ w2 ⟨g2, c2, rfl, s1⟩; have SA := Aside0.mk s1; have FX : Aside0 (Fr ((Value.slice Al pl cl).ownBlock.toList ++ (Value.slice Ae pl ce).ownBlock.toList) wr w2) := ⟨s1.fr.mono (fun x hx => by simp only [List.mem_append]; simp [hx])⟩; have h0_ := FX.out.cell d0 (hN.out lv (by simp)); have h1_ := FX.out.cell d1' (hN.out le (by simp)); have h2_ := FX.out.cell r0 (hN.out NB (by simp)); have h3_ := FX.out.cell r1 (hN.out gk (by simp)); have SX := Aside0.mk (And.intro h0_ (And.intro h1_ (And.intro h2_ h3_))); clear s1 h0_ h1_ h2_ h3_ FX)
              go_simp
              refine hK.out _ _ SX.out (fun hHeld => ?_)
              clear hK K
              refine one_ (i := 11) (N := some 106) (mK 15 4095) rfl rfl (one_of HT_.out (by kernel_rfl)) (by decide) (fun K hK => ?_)
              focus
               go_simp
               refine hK.out _ _ ⟨cell_alloc hHeld.1 _, cell_alloc hHeld.2.1 _, cell_alloc hHeld.2.2.1 _, cell_alloc hHeld.2.2.2 _⟩ (fun hHeld => ?_)
               clear hK K
               refine one_ (i := 12) (N := some 107) (mK 15 8191) rfl rfl (one_of HT_.out (by kernel_rfl)) (by decide) (fun K hK => ?_)
               focus
                first
                 | (refine step_appK rfl _ _ 71 71 rfl (.slice Ae pl ce) _ (by simp [Act.eval, Act.put]) (by simp only [Act.eval, Act.put]; rfl)  (aKV.out _ _ _ _ _ _ SA.out ?_ ?_) ?_; exact (by first | exact Below.refl _ _ | exact below_alloc (Below.refl _ _) _); exact (by first | exact blk_new _ _ | exact SA.out.new (by first | exact blk_new _ _ | exact blk_new2 _ _ _ | exact blk_alloc (blk_new _ _) _) (by first | exact Nat.le_refl _ | exact Nat.le_succ _) TW.out.klt); rintro _ w3 ⟨g3, c3, rfl, dn⟩; have DN := Aside0.mk dn; have FX := Aside0.mk dn.fr; have h0_ := FX.out.cell d0 (hN.out lv (by simp)); have h1_ := FX.out.cell d1' (hN.out le (by simp)); have h2_ := FX.out.cell r0 (hN.out NB (by simp)); have h3_ := FX.out.cell r1 (hN.out gk (by simp)); have SX := Aside0.mk (And.intro h0_ (And.intro h1_ (And.intro h2_ h3_))); have f0 := blk_frozen (dn.blk TW.out HR2.out.1) 0; have f1 := fun u => blk_frozen (((Fr.refl [lv] w3).setCell (p := ⟨lv, 0, none⟩) (.inl (by simp)) u).blk ((dn.rest TW.out le (by simp)).trans HR2.out.2.1) HNE.out) 0; have g0 := SX.out.1; have g1 := fun u => (blk_cell (((Fr.refl [lv] w3).setCell (p := ⟨lv, 0, none⟩) (.inl (by simp)) u).blk ((dn.rest TW.out le (by simp)).trans HR2.out.2.1) HNE.out) 0).trans rfl; clear dn h0_ h1_ h2_ h3_ FX)
                 | (refine step_appK rfl _ _ 71 71 rfl (.slice Ae pl ce) _ (by simp [Act.eval, Act.put]) (by simp only [Act.eval, Act.put]; rfl)  (aV.out _ _ ?_ ?_) ?_; exact (by first | exact below_drew1 (below_alloc (Below.refl _ _) _) | exact below_drew1 (below_alloc (below_alloc (Below.refl _ _) _) _)); exact (by first | exact blk_new _ _ | exact blk_new2 _ _ _ | exact blk_alloc (blk_new _ _) _); rintro _ w2 ⟨g3, c3, rfl, s1⟩; have SA := Aside0.mk s1; have FX : Aside0 (Fr ((Value.slice Al pl cl).ownBlock.toList ++ (Value.slice Ae pl ce).ownBlock.toList) wr w2) := ⟨s1.fr.mono (fun x hx => by simp only [List.mem_append]; simp [hx])⟩; have h0_ := FX.out.cell d0 (hN.out lv (by simp)); have h1_ := FX.out.cell d1' (hN.out le (by simp)); have h2_ := FX.out.cell r0 (hN.out NB (by simp)); have h3_ := FX.out.cell r1 (hN.out gk (by simp)); have SX := Aside0.mk (And.intro h0_ (And.intro h1_ (And.intro h2_ h3_))); clear s1 h0_ h1_ h2_ h3_ FX)
                go_simp
                refine hK.out _ _ SX.out (fun hHeld => ?_)
                clear hK K
                refine last_ (i := 13) (N := none) (mK 15 16383) rfl rfl (one_of HT_.out (by kernel_rfl)) (by decide) (fun K hK => ?_)
                focus
                 go_simp
                 (skip)
                 refine hK.out _ _ ?_
                 clear hK K
                 refine last_ (i := 14) (N := none) (mK 15 32767) rfl rfl (one_of HT_.out (by kernel_rfl)) (by decide) (fun K hK => ?_)
                 focus
                  go_simp
                  skip
                  refine hK.out _ _ ?_
                  clear hK K
                  refine done_ (done_of HT_.out (by kernel_rfl)) ?_
             rotate_left 1
             focus
              go_simp
              refine hK.out _ _ ⟨cell_alloc hHeld.1 _, cell_alloc hHeld.2.1 _, cell_alloc hHeld.2.2.1 _, cell_alloc hHeld.2.2.2 _⟩ (fun hHeld => ?_)
              clear hK K
              refine one_ (i := 3) (N := some 98) (mK 15 4095) rfl rfl (one_of HT_.out (by kernel_rfl)) (by decide) (fun K hK => ?_)
              focus
               first
                | (refine step_appK rfl _ _ 72 72 rfl (.slice Al pl cl) _ (by simp [Act.eval, Act.put]) (by simp only [Act.eval, Act.put]; rfl)  (aVK.out _ _ _ _ _ _ SA.out ?_ ?_) ?_; exact (by first | exact Below.refl _ _ | exact below_alloc (Below.refl _ _) _); exact (by first | exact blk_new _ _ | exact SA.out.new (by first | exact blk_new _ _ | exact blk_new2 _ _ _ | exact blk_alloc (blk_new _ _) _) (by first | exact Nat.le_refl _ | exact Nat.le_succ _) TW.out.clt); rintro _ w3 ⟨g2, c2, rfl, dn⟩; have DN := Aside0.mk dn; have FX := Aside0.mk dn.fr; have h0_ := FX.out.cell d0 (hN.out lv (by simp)); have h1_ := FX.out.cell d1' (hN.out le (by simp)); have h2_ := FX.out.cell r0 (hN.out NB (by simp)); have h3_ := FX.out.cell r1 (hN.out gk (by simp)); have SX := Aside0.mk (And.intro h0_ (And.intro h1_ (And.intro h2_ h3_))); have f0 := blk_frozen (dn.blk TW.out HR2.out.1) 0; have f1 := fun u => blk_frozen (((Fr.refl [lv] w3).setCell (p := ⟨lv, 0, none⟩) (.inl (by simp)) u).blk ((dn.rest TW.out le (by simp)).trans HR2.out.2.1) HNE.out) 0; have g0 := SX.out.1; have g1 := fun u => (blk_cell (((Fr.refl [lv] w3).setCell (p := ⟨lv, 0, none⟩) (.inl (by simp)) u).blk ((dn.rest TW.out le (by simp)).trans HR2.out.2.1) HNE.out) 0).trans rfl; clear dn h0_ h1_ h2_ h3_ FX)
                | (refine step_appK rfl _ _ 72 72 rfl (.slice Al pl cl) _ (by simp [Act.eval, Act.put]) (by simp only [Act.eval, Act.put]; rfl)  (aK.out _ _ ?_ ?_) ?_; exact (by first | exact below_drew1 (below_alloc (Below.refl _ _) _) | exact below_drew1 (below_alloc (below_alloc (Below.refl _ _) _) _)); exact (by first | exact blk_new _ _ | exact blk_new2 _ _ _ | exact blk_alloc (blk_new _ _) _); rintro _ w2 ⟨g2, c2, rfl, s1⟩; have SA := Aside0.mk s1; have FX : Aside0 (Fr ((Value.slice Al pl cl).ownBlock.toList ++ (Value.slice Ae pl ce).ownBlock.toList) wr w2) := ⟨s1.fr.mono (fun x hx => by simp only [List.mem_append]; simp [hx])⟩; have h0_ := FX.out.cell d0 (hN.out lv (by simp)); have h1_ := FX.out.cell d1' (hN.out le (by simp)); have h2_ := FX.out.cell r0 (hN.out NB (by simp)); have h3_ := FX.out.cell r1 (hN.out gk (by simp)); have SX := Aside0.mk (And.intro h0_ (And.intro h1_ (And.intro h2_ h3_))); clear s1 h0_ h1_ h2_ h3_ FX)
               go_simp
               refine hK.out _ _ SX.out (fun hHeld => ?_)
               clear hK K
               refine one_ (i := 12) (N := some 107) (mK 15 8191) rfl rfl (one_of HT_.out (by kernel_rfl)) (by decide) (fun K hK => ?_)
               focus
                first
                 | (refine step_appK rfl _ _ 71 71 rfl (.slice Ae pl ce) _ (by simp [Act.eval, Act.put]) (by simp only [Act.eval, Act.put]; rfl)  (aKV.out _ _ _ _ _ _ SA.out ?_ ?_) ?_; exact (by first | exact Below.refl _ _ | exact below_alloc (Below.refl _ _) _); exact (by first | exact blk_new _ _ | exact SA.out.new (by first | exact blk_new _ _ | exact blk_new2 _ _ _ | exact blk_alloc (blk_new _ _) _) (by first | exact Nat.le_refl _ | exact Nat.le_succ _) TW.out.klt); rintro _ w3 ⟨g3, c3, rfl, dn⟩; have DN := Aside0.mk dn; have FX := Aside0.mk dn.fr; have h0_ := FX.out.cell d0 (hN.out lv (by simp)); have h1_ := FX.out.cell d1' (hN.out le (by simp)); have h2_ := FX.out.cell r0 (hN.out NB (by simp)); have h3_ := FX.out.cell r1 (hN.out gk (by simp)); have SX := Aside0.mk (And.intro h0_ (And.intro h1_ (And.intro h2_ h3_))); have f0 := blk_frozen (dn.blk TW.out HR2.out.1) 0; have f1 := fun u => blk_frozen (((Fr.refl [lv] w3).setCell (p := ⟨lv, 0, none⟩) (.inl (by simp)) u).blk ((dn.rest TW.out le (by simp)).trans HR2.out.2.1) HNE.out) 0; have g0 := SX.out.1; have g1 := fun u => (blk_cell (((Fr.refl [lv] w3).setCell (p := ⟨lv, 0, none⟩) (.inl (by simp)) u).blk ((dn.rest TW.out le (by simp)).trans HR2.out.2.1) HNE.out) 0).trans rfl; clear dn h0_ h1_ h2_ h3_ FX)
                 | (refine step_appK rfl _ _ 71 71 rfl (.slice Ae pl ce) _ (by simp [Act.eval, Act.put]) (by simp only [Act.eval, Act.put]; rfl)  (aV.out _ _ ?_ ?_) ?_; exact (by first | exact below_drew1 (below_alloc (Below.refl _ _) _) | exact below_drew1 (below_alloc (below_alloc (Below.refl _ _) _) _)); exact (by first | exact blk_new _ _ | exact blk_new2 _ _ _ | exact blk_alloc (blk_new _ _) _); rintro _ w2 ⟨g3, c3, rfl, s1⟩; have SA := Aside0.mk s1; have FX : Aside0 (Fr ((Value.slice Al pl cl).ownBlock.toList ++ (Value.slice Ae pl ce).ownBlock.toList) wr w2) := ⟨s1.fr.mono (fun x hx => by simp only [List.mem_append]; simp [hx])⟩; have h0_ := FX.out.cell d0 (hN.out lv (by simp)); have h1_ := FX.out.cell d1' (hN.out le (by simp)); have h2_ := FX.out.cell r0 (hN.out NB (by simp)); have h3_ := FX.out.cell r1 (hN.out gk (by simp)); have SX := Aside0.mk (And.intro h0_ (And.intro h1_ (And.intro h2_ h3_))); clear s1 h0_ h1_ h2_ h3_ FX)
                go_simp
                refine hK.out _ _ SX.out (fun hHeld => ?_)
                clear hK K
                refine last_ (i := 13) (N := none) (mK 15 16383) rfl rfl (one_of HT_.out (by kernel_rfl)) (by decide) (fun K hK => ?_)
                focus
                 go_simp
                 (skip)
                 refine hK.out _ _ ?_
                 clear hK K
                 refine last_ (i := 14) (N := none) (mK 15 32767) rfl rfl (one_of HT_.out (by kernel_rfl)) (by decide) (fun K hK => ?_)
                 focus
                  go_simp
                  skip
                  refine hK.out _ _ ?_
                  clear hK K
                  refine done_ (done_of HT_.out (by kernel_rfl)) ?_
             rotate_left 1
            rotate_left 2
            focus
             go_simp
             refine hK.out _ _ ⟨cell_alloc hHeld.1 _, cell_alloc hHeld.2.1 _, cell_alloc hHeld.2.2.1 _, cell_alloc hHeld.2.2.2 _⟩ (fun hHeld => ?_)
             clear hK K
             refine one_ (i := 2) (N := some 97) (mK 15 4087) rfl rfl (one_of HT_.out (by kernel_rfl)) (by decide) (fun K hK => ?_)
             focus
              go_simp
              refine hK.out _ _ ⟨cell_alloc hHeld.1 _, cell_alloc hHeld.2.1 _, cell_alloc hHeld.2.2.1 _, cell_alloc hHeld.2.2.2 _⟩ (fun hHeld => ?_)
              clear hK K
              refine one_ (i := 3) (N := some 98) (mK 15 4095) rfl rfl (one_of HT_.out (by kernel_rfl)) (by decide) (fun K hK => ?_)
              focus
               first
                | (refine step_appK rfl _ _ 72 72 rfl (.slice Al pl cl) _ (by simp [Act.eval, Act.put]) (by simp only [Act.eval, Act.put]; rfl)  (aVK.out _ _ _ _ _ _ SA.out ?_ ?_) ?_; exact (by first | exact Below.refl _ _ | exact below_alloc (Below.refl _ _) _); exact (by first | exact blk_new _ _ | exact SA.out.new (by first | exact blk_new _ _ | exact blk_new2 _ _ _ | exact blk_alloc (blk_new _ _) _) (by first | exact Nat.le_refl _ | exact Nat.le_succ _) TW.out.clt); rintro _ w3 ⟨g2, c2, rfl, dn⟩; have DN := Aside0.mk dn; have FX := Aside0.mk dn.fr; have h0_ := FX.out.cell d0 (hN.out lv (by simp)); have h1_ := FX.out.cell d1' (hN.out le (by simp)); have h2_ := FX.out.cell r0 (hN.out NB (by simp)); have h3_ := FX.out.cell r1 (hN.out gk (by simp)); have SX := Aside0.mk (And.intro h0_ (And.intro h1_ (And.intro h2_ h3_))); have f0 := blk_frozen (dn.blk TW.out HR2.out.1) 0; have f1 := fun u => blk_frozen (((Fr.refl [lv] w3).setCell (p := ⟨lv, 0, none⟩) (.inl (by simp)) u).blk ((dn.rest TW.out le (by simp)).trans HR2.out.2.1) HNE.out) 0; have g0 := SX.out.1; have g1 := fun u => (blk_cell (((Fr.refl [lv] w3).setCell (p := ⟨lv, 0, none⟩) (.inl (by simp)) u).blk ((dn.rest TW.out le (by simp)).trans HR2.out.2.1) HNE.out) 0).trans rfl; clear dn h0_ h1_ h2_ h3_ FX)
                | (refine step_appK rfl _ _ 72 72 rfl (.slice Al pl cl) _ (by simp [Act.eval, Act.put]) (by simp only [Act.eval, Act.put]; rfl)  (aK.out _ _ ?_ ?_) ?_; exact (by first | exact below_drew1 (below_alloc (Below.refl _ _) _) | exact below_drew1 (below_alloc (below_alloc (Below.refl _ _) _) _)); exact (by first | exact blk_new _ _ | exact blk_new2 _ _ _ | exact blk_alloc (blk_new _ _) _); rintro _ w2 ⟨g2, c2, rfl, s1⟩; have SA := Aside0.mk s1; have FX : Aside0 (Fr ((Value.slice Al pl cl).ownBlock.toList ++ (Value.slice Ae pl ce).ownBlock.toList) wr w2) := ⟨s1.fr.mono (fun x hx => by simp only [List.mem_append]; simp [hx])⟩; have h0_ := FX.out.cell d0 (hN.out lv (by simp)); have h1_ := FX.out.cell d1' (hN.out le (by simp)); have h2_ := FX.out.cell r0 (hN.out NB (by simp)); have h3_ := FX.out.cell r1 (hN.out gk (by simp)); have SX := Aside0.mk (And.intro h0_ (And.intro h1_ (And.intro h2_ h3_))); clear s1 h0_ h1_ h2_ h3_ FX)
               go_simp
               refine hK.out _ _ SX.out (fun hHeld => ?_)
               clear hK K
               refine one_ (i := 12) (N := some 107) (mK 15 8191) rfl rfl (one_of HT_.out (by kernel_rfl)) (by decide) (fun K hK => ?_)
               focus
                first
                 | (refine step_appK rfl _ _ 71 71 rfl (.slice Ae pl ce) _ (by simp [Act.eval, Act.put]) (by simp only [Act.eval, Act.put]; rfl)  (aKV.out _ _ _ _ _ _ SA.out ?_ ?_) ?_; exact (by first | exact Below.refl _ _ | exact below_alloc (Below.refl _ _) _); exact (by first | exact blk_new _ _ | exact SA.out.new (by first | exact blk_new _ _ | exact blk_new2 _ _ _ | exact blk_alloc (blk_new _ _) _) (by first | exact Nat.le_refl _ | exact Nat.le_succ _) TW.out.klt); rintro _ w3 ⟨g3, c3, rfl, dn⟩; have DN := Aside0.mk dn; have FX := Aside0.mk dn.fr; have h0_ := FX.out.cell d0 (hN.out lv (by simp)); have h1_ := FX.out.cell d1' (hN.out le (by simp)); have h2_ := FX.out.cell r0 (hN.out NB (by simp)); have h3_ := FX.out.cell r1 (hN.out gk (by simp)); have SX := Aside0.mk (And.intro h0_ (And.intro h1_ (And.intro h2_ h3_))); have f0 := blk_frozen (dn.blk TW.out HR2.out.1) 0; have f1 := fun u => blk_frozen (((Fr.refl [lv] w3).setCell (p := ⟨lv, 0, none⟩) (.inl (by simp)) u).blk ((dn.rest TW.out le (by simp)).trans HR2.out.2.1) HNE.out) 0; have g0 := SX.out.1; have g1 := fun u => (blk_cell (((Fr.refl [lv] w3).setCell (p := ⟨lv, 0, none⟩) (.inl (by simp)) u).blk ((dn.rest TW.out le (by simp)).trans HR2.out.2.1) HNE.out) 0).trans rfl; clear dn h0_ h1_ h2_ h3_ FX)
                 | (refine step_appK rfl _ _ 71 71 rfl (.slice Ae pl ce) _ (by simp [Act.eval, Act.put]) (by simp only [Act.eval, Act.put]; rfl)  (aV.out _ _ ?_ ?_) ?_; exact (by first | exact below_drew1 (below_alloc (Below.refl _ _) _) | exact below_drew1 (below_alloc (below_alloc (Below.refl _ _) _) _)); exact (by first | exact blk_new _ _ | exact blk_new2 _ _ _ | exact blk_alloc (blk_new _ _) _); rintro _ w2 ⟨g3, c3, rfl, s1⟩; have SA := Aside0.mk s1; have FX : Aside0 (Fr ((Value.slice Al pl cl).ownBlock.toList ++ (Value.slice Ae pl ce).ownBlock.toList) wr w2) := ⟨s1.fr.mono (fun x hx => by simp only [List.mem_append]; simp [hx])⟩; have h0_ := FX.out.cell d0 (hN.out lv (by simp)); have h1_ := FX.out.cell d1' (hN.out le (by simp)); have h2_ := FX.out.cell r0 (hN.out NB (by simp)); have h3_ := FX.out.cell r1 (hN.out gk (by simp)); have SX := Aside0.mk (And.intro h0_ (And.intro h1_ (And.intro h2_ h3_))); clear s1 h0_ h1_ h2_ h3_ FX)
                go_simp
                refine hK.out _ _ SX.out (fun hHeld => ?_)
                clear hK K
                refine last_ (i := 13) (N := none) (mK 15 16383) rfl rfl (one_of HT_.out (by kernel_rfl)) (by decide) (fun K hK => ?_)
                focus
                 go_simp
                 (skip)
                 refine hK.out _ _ ?_
                 clear hK K
                 refine last_ (i := 14) (N := none) (mK 15 32767) rfl rfl (one_of HT_.out (by kernel_rfl)) (by decide) (fun K hK => ?_)
                 focus
                  go_simp
                  skip
                  refine hK.out _ _ ?_
                  clear hK K
                  refine done_ (done_of HT_.out (by kernel_rfl)) ?_
            rotate_left 1
            all_goals
              obtain ⟨hLA, h5, hap, hks, hlvs, hpl, hq, hjk⟩ := HGL.out
              have ns1 := NS1.out
              have dn := DN.out
              have h0 := HX1.out
              have h7 := HK.out
              rw [← hks] at ns1 dn
              rw [← hlvs] at ns1
              have hcs : chunk l n M x.val = cs := by unfold chunk; rw [h0.2.1, h0.2.2.1, h0.2.2.2.1, h7.1]; exact h7.2.1
              have hkk : headK (l.drop (cutAt n M x.val)) = q.1 := head_at (by
                rw [h0.2.1, h0.2.2.1]
                have h9 := hq
                rw [← h7.2.1, List.getElem?_take, if_pos ek2] at h9
                exact h9)
              exact st1_grow HI.out HB3.out HNB.out h3.out ns1 hLA h5 hcs hkk TW.out dn
      case done =>
        intro D xs W hD hxs hI hDm
        subst hxs
        have hDn := W1.heap.size
        obtain ⟨hl1, hc1, hn1⟩ := HL.out
        have hSt : LevS m b3 rt tb lv le nb mb l w W1 [D] n W := lev_start hM.symm hl1 H4M.out.1 hn1 HR.out hI hD hDm
        have HST := Aside0.mk hSt
        clear hI hD hDm hSt hl1 hc1 hn1 hDn
        go_wp2
        refine wp_loop_ghost_k (fun k a W => ∃ (v14 v15 v108 v109 v110 v111 v112 v113 v114 v143 v144 : Value) (Ds : List Nat), a = { tmps := #[Value.int IntKind.i64 m, Value.slice A n c, undef, Value.pointer (some ⟨b3, 0, none⟩), u4, u5, u6, Value.pointer (some ⟨tb, 0, none⟩), Value.pointer (some ⟨lv, 0, none⟩), Value.pointer (some ⟨le, 0, none⟩), undef, undef, undef, undef, v14, v15, undef, undef, undef, Value.int IntKind.i64 m, Value.bool false, Value.bool false, Value.int IntKind.i64 m, Value.bool false, Value.bool false, Value.slice A n c, Value.int IntKind.i64 n, Value.int IntKind.i64 i, Value.bool false, u29, u30, u31, u32, u33, u34, u35, u36, u37, u38, u39, u40, u41, u42, u43, u44, u45, u46, Value.int IntKind.i64 m, Value.slice A n c, Value.int IntKind.i64 n, Value.agg #[Value.slice none 0 0, Value.slice none 0 0, Value.slice none 0 0], Value.pointer (some ⟨rt, 0, none⟩), Value.agg #[Value.int IntKind.i64 m, Value.int IntKind.i64 n, Value.pointer (some ⟨rt, 0, none⟩)], Value.pointer (some ⟨tb, 0, none⟩), Value.slice A n c, Value.int IntKind.i64 n, Value.int IntKind.i64 m, Value.func (.func 43) #[] #[Value.pointer (some ⟨nb, 0, none⟩), Value.pointer (some ⟨mb, 0, none⟩)], undef, undef, undef, undef, undef, undef, undef, undef, undef, undef, undef, undef, undef, undef, undef, undef, undef, undef, undef, undef, undef, undef, undef, undef, undef, undef, undef, undef, undef, undef, undef, undef, undef, undef, undef, undef, undef, undef, undef, undef, undef, undef, undef, undef, undef, undef, undef, undef, undef, undef, v108, v109, v110, v111, v112, v113, v114, undef, undef, undef, undef, undef, undef, undef, undef, undef, undef, undef, undef, undef, undef, undef, undef, undef, undef, undef, undef, undef, undef, undef, undef, undef, undef, undef, undef, v143, v144, undef, undef, undef, undef, undef, undef, undef, undef, undef, undef], defers := Ds.map markOf } ∧ Aside0 (LevS m b3 rt tb lv le nb mb l w W1 Ds k W)) n ⟨undef, undef, undef, undef, undef, undef, undef, undef, undef, undef, undef, [D], rfl, HST⟩ ?_
        have HNL : Aside0 (l.length = n) := ⟨HL.out.1⟩
        clear HST HS HB0 HL HSW
        rintro kq a' WX ⟨v14, v15, v108, v109, v110, v111, v112, v113, v114, v143, v144, Ds, rfl, hS⟩ J K hJ hK
        obtain ⟨h, cs, ks, vlv, vle, bs, S, ns, hf, hfc, hbl, hDs, hD1, hbk, hbn, hkl, hlo⟩ := hS.out
        obtain ⟨Al, cl, rfl, -, -⟩ := ns.rlv.shape
        obtain ⟨Ae, ce, rfl, -, -⟩ := ns.rle.shape
        have hp1 : (bs.map encP).length = bs.length := List.length_map _
        have hp2 : (encKs ks).length = bs.length := by rw [encKs, List.length_map]; exact hkl
        rw [hp1, hp2] at ns
        obtain ⟨n2, hn2⟩ : ∃ n2, bs.length = n2 := ⟨_, rfl⟩
        rw [hn2] at ns hbk hbn
        have c8 : WX.cell? ⟨lv, 0, none⟩ = some (.slice Al n2 cl) := (blk_cell ns.hlv 0).trans rfl
        have NSX := Aside0.mk ns
        have HSX := Aside0.mk (And.intro hf (And.intro hfc (And.intro hbl (And.intro hDs (And.intro hD1 (And.intro hbk (And.intro hbn (And.intro hkl (And.intro hlo hn2)))))))))
        clear ns hf hfc hbl hDs hD1 hbk hbn hkl hlo hn2 hp1 hp2 hS
        by_cases h2 : 1 < n2
        · have d1 : decide (1 < (n2 : Int)) = true := decide_eq_true (by omega)
          have d2 : decide (1 < n2) = true := decide_eq_true h2
          have c8a := fun o => cell_alloc c8 o
          have c8b := fun o1 o2 => cell_alloc (cell_alloc c8 o1) o2
          have H2 := Aside0.mk h2
          clear h2
          go_wp2_with (go_at_call 28; refine (parts_calls _ _ _).mono ?_; rintro e w2 ⟨rfl, rfl⟩)
          obtain ⟨up, hup⟩ : ∃ up, WX.heap.size = up := ⟨_, rfl⟩
          rw [hup]
          obtain ⟨M2, hM2⟩ : ∃ M2, manyOf n2 m = M2 := ⟨_, rfl⟩
          obtain ⟨W2, hW2⟩ : ∃ W2, (((WX.alloc (.cells #[.slice none 0 0] 72)).alloc (.cells #[.slice none 0 0] 71)).alloc (.cells #[.int .i64 n2] 3)).alloc (.cells #[.int .i64 m] 3) = W2 := ⟨_, rfl⟩
          have hST := st2_start (M2 := M2) (m := m) (n2 := n2) NSX.out HSX.out.1 HSX.out.2.1 HSX.out.2.2.1 (fun D hD => (HSX.out.2.2.2.2.1 D hD).2) hup hW2
          obtain ⟨fi, hfi⟩ : ∃ fi, up + 1 = fi := ⟨_, rfl⟩
          rw [hfi] at hST ⊢
          obtain ⟨nb2, hnb2⟩ : ∃ nb2, fi + 1 = nb2 := ⟨_, rfl⟩
          rw [hnb2] at hST ⊢
          obtain ⟨mb2, hmb2⟩ : ∃ mb2, nb2 + 1 = mb2 := ⟨_, rfl⟩
          rw [hmb2] at hST ⊢
          have HST := Aside0.mk hST
          have HUP := Aside0.mk (And.intro hup (And.intro hfi (And.intro hnb2 (And.intro hmb2 hM2))))
          have HLO : Aside0 (LevelOk m h cs ks l) := ⟨HSX.out.2.2.2.2.2.2.2.2.1.resolve_left (fun h9 => by have := H2.out; have h8 := HSX.out.2.2.2.2.2.2.2.2.2; rw [h9.2, List.length_nil] at h8; omega)⟩
          rw [hW2]
          clear hW2 hup hfi hnb2 hmb2 hST d1 d2 c8 c8a c8b
          refine (wpIn_wide (n := 20)).1 ?_
          have hwb : b3 ≤ w.heap.size := by have := HB3.out; omega
          have hB2 : b3 ≤ W2.heap.size := by have h9 := (HST.out.1.fc b3 (by simp)).lt; omega
          have hDl : ∀ D ∈ Ds, D < W2.heap.size := fun D hD => blk_lt (HST.out.1.ds D hD)
          have HDL := Aside0.mk (And.intro hDl (And.intro hwb hB2))
          clear hDl hwb hB2
          refine wpIn_rangeFunc_ownH (F := Fence.wide) (n := 20) rfl (by omega) (gf := 43) (lb := #[.pointer (some ⟨nb2, 0, none⟩), .pointer (some ⟨mb2, 0, none⟩)]) rfl trivial (enters_of Try.func43 (by kernel_rfl) rfl)
            (parts_stops Fence.wide 19 trivial rfl (by omega) nb2 mb2 n2 m M2 HUP.out.2.2.2.2.symm H4M.out.1 H4M.out.2 HSX.out.2.2.2.2.2.2.1 W2 HST.out.2.1 HST.out.2.2.1)
            (fun h k => ⟨k.1.trans h.1, k.2.trans h.2⟩) (fun W l o o' hl ho _ _ => kpB_put (by have := HST.out.2.2.2.2.1; have := HUP.out; omega) (by have := HST.out.2.2.2.2.1; have := HUP.out; omega)) (Below.refl _ _) (fun _ => rfl)
            (fun pre W => ∃ vup vfi bs2 S2, St2 M2 n2 b3 lv le up fi [b3, rt, tb, nb, mb, nb2, mb2] w W2 Ds ks bs cs (.slice Al n2 cl) (.slice Ae n2 ce) S vup vfi bs2 S2 pre pre W) (fun _ _ _ => False) (st2_own HDL.out.2.1 HDL.out.2.2 HDL.out.1) (fun c s A B row h _ _ => h.elim)
            ⟨_, _, _, _, HST.out.1⟩
            (fun x a' W => ∃ Bx, W.heap[Bx]? = some (.cells #[.int .i64 (cutAt n2 M2 x), .int .i64 (cutAt n2 M2 (x + 1))] 79 (0, 0)) ∧ a' = { tmps := #[Value.int IntKind.i64 m, Value.slice A n c, undef, Value.pointer (some ⟨b3, 0, none⟩), u4, u5, u6, Value.pointer (some ⟨tb, 0, none⟩), Value.pointer (some ⟨lv, 0, none⟩), Value.pointer (some ⟨le, 0, none⟩), undef, undef, undef, undef, Value.pointer (some ⟨up, 0, none⟩), Value.pointer (some ⟨fi, 0, none⟩), Value.pointer (some ⟨Bx, 0, none⟩), undef, undef, Value.int IntKind.i64 m, Value.bool false, Value.bool false, Value.int IntKind.i64 m, Value.bool false, Value.bool false, Value.slice A n c, Value.int IntKind.i64 n, Value.int IntKind.i64 i, Value.bool false, u29, u30, u31, u32, u33, u34, u35, u36, u37, u38, u39, u40, u41, u42, u43, u44, u45, u46, Value.int IntKind.i64 m, Value.slice A n c, Value.int IntKind.i64 n, Value.agg #[Value.slice none 0 0, Value.slice none 0 0, Value.slice none 0 0], Value.pointer (some ⟨rt, 0, none⟩), Value.agg #[Value.int IntKind.i64 m, Value.int IntKind.i64 n, Value.pointer (some ⟨rt, 0, none⟩)], Value.pointer (some ⟨tb, 0, none⟩), Value.slice A n c, Value.int IntKind.i64 n, Value.int IntKind.i64 m, Value.func (.func 43) #[] #[Value.pointer (some ⟨nb, 0, none⟩), Value.pointer (some ⟨mb, 0, none⟩)], undef, undef, undef, undef, undef, undef, undef, undef, undef, undef, undef, undef, undef, undef, undef, undef, undef, undef, undef, undef, undef, undef, undef, undef, undef, undef, undef, undef, undef, undef, undef, undef, undef, undef, undef, undef, undef, undef, undef, undef, undef, undef, undef, undef, undef, undef, undef, undef, undef, undef, Value.slice Al n2 cl, Value.int IntKind.i64 n2, Value.bool true, Value.slice Al n2 cl, Value.int IntKind.i64 n2, Value.int IntKind.i64 m, Value.func (.func 43) #[] #[Value.pointer (some ⟨nb2, 0, none⟩), Value.pointer (some ⟨mb2, 0, none⟩)], Value.agg #[Value.int IntKind.i64 (cutAt n2 M2 x), Value.int IntKind.i64 (cutAt n2 M2 (x + 1))], undef, undef, undef, undef, undef, undef, undef, undef, undef, undef, undef, undef, undef, undef, undef, undef, undef, undef, undef, undef, undef, undef, undef, undef, undef, undef, undef, v143, v144, undef, undef, undef, undef, undef, undef, undef, undef, undef, undef], defers := [] }) ?hAx2 ?assign2 ?body2 ?done2 (fun D c pre W _ _ h => h.elim)
          case hAx2 =>
            rintro x a' _ X Y row ⟨Bx, e1, e2⟩ hg hr
            exact ⟨Bx, (grown_cells hg (fun r e => (hr r e).2) ⟨_, _, _, e1⟩).trans e1, e2⟩
          case assign2 =>
            intro lx pre x W K9 hI hK9
            have HI := Aside0.mk hI
            clear hI
            unfold encPart
            gi_wp2
            have hz := blk_new W (.cells #[.int .i64 (cutAt n2 M2 x), .int .i64 (cutAt n2 M2 (x + 1))] 79)
            have hal : KeepsFrom W2.heap.size W (W.alloc (.cells #[.int .i64 (cutAt n2 M2 x), .int .i64 (cutAt n2 M2 (x + 1))] 79)) := (KeepsOthers.alloc _ _).from _
            have hIa := (st2_own (M2 := M2) (n2 := n2) (lv := lv) (le := le) (up := up) (fi := fi) (F := [b3, rt, tb, nb, mb, nb2, mb2]) (ks := ks) (bs := bs) (cs := cs) (vlv := .slice Al n2 cl) (vle := .slice Ae n2 ce) (S := S) HDL.out.2.1 HDL.out.2.2 HDL.out.1).alloc (.cells #[.int .i64 (cutAt n2 M2 x), .int .i64 (cutAt n2 M2 (x + 1))] 79) HI.out
            have hk2 : KpB nb2 mb2 W (W.alloc (.cells #[.int .i64 (cutAt n2 M2 x), .int .i64 (cutAt n2 M2 (x + 1))] 79)) := by
              obtain ⟨_, _, _, _, s1⟩ := hIa
              obtain ⟨_, _, _, _, s2⟩ := HI.out
              exact ⟨(s1.fs nb2 (by simp)).trans (s2.fs nb2 (by simp)).symm, (s1.fs mb2 (by simp)).trans (s2.fs mb2 (by simp)).symm⟩
            exact hK9 _ _ hal hk2 hIa ⟨W.heap.size, hz, rfl⟩
          case body2 =>
            rintro lx pre x a' W hlx hLr ⟨vup, vfi, bs2, S2, st⟩ ⟨Bx, hBx, rfl⟩ hlen
            have x0 : W.cell? ⟨Bx, 0, none⟩ = some (.int .i64 (cutAt n2 M2 x)) := (blk_cell hBx 0).trans rfl
            have x1 : W.cell? ⟨Bx, 1, none⟩ = some (.int .i64 (cutAt n2 M2 (x + 1))) := (blk_cell hBx 1).trans rfl
            have hxM := x.isLt
            have hM2 := HUP.out.2.2.2.2
            obtain ⟨p1, p2, p3, p4⟩ := part_size (n := n2) (m := m) (i := x.val) H4M.out.1 (by have := H2.out; omega)
            rw [hM2] at p1 p2 p3 p4
            have p5 : cutAt n2 M2 (x.val + 1) ≤ n2 := cut_mono (by omega) (by omega)
            have p6 : 2 ≤ cutAt n2 M2 (x.val + 1) - cutAt n2 M2 x.val := by
              by_cases h1 : 2 ≤ M2
              · have := p4 h1; have := H4M.out; omega
              · have e1 : M2 = 1 := by omega
                have e2 : x.val = 0 := by omega
                rw [e2, e1, cut_zero, cut_end (by omega)]; have := H2.out; omega
            obtain ⟨a0, ha0⟩ : ∃ a0, cutAt n2 M2 x.val = a0 := ⟨_, rfl⟩
            obtain ⟨b0, hb0⟩ : ∃ b0, cutAt n2 M2 (x.val + 1) = b0 := ⟨_, rfl⟩
            rw [ha0] at p1 p2 p3 p4 p6 x0 hBx
            rw [hb0] at p1 p2 p3 p4 p5 p6 x1 hBx
            rw [ha0, hb0]
            obtain ⟨Au, zu, rfl, -, -⟩ := st.new.rlv.shape
            obtain ⟨Af, zf, rfl, -, -⟩ := st.new.rle.shape
            have hkl2 : bs2.length = pre.length := (kids_len st.new.kids).trans (List.length_map _)
            have hku : (bs2.map encP).length = pre.length := by rw [List.length_map]; exact hkl2
            have hkf : (encKs (pre.map fun i => ks.getD (cutAt n2 M2 i.val) [])).length = pre.length := by rw [encKs, List.length_map, List.length_map]
            rw [hku, hkf] at st
            obtain ⟨pl, hpl⟩ : ∃ pl, pre.length = pl := ⟨_, rfl⟩
            rw [hpl] at st
            have hzl := NSX.out.rlv.cap.2
            have hze := NSX.out.rle.cap.2
            have hbl9 := HSX.out.2.2.2.2.2.2.2.2.2
            have hkl9 := HSX.out.2.2.2.2.2.2.2.1
            rw [List.length_map, hbl9] at hzl
            rw [encKs, List.length_map, hkl9, hbl9] at hze
            have HX1 := Aside0.mk (And.intro ha0 (And.intro hb0 (And.intro p6 (And.intro p2 (And.intro p5 (And.intro hpl (And.intro hlen hxM)))))))
            obtain ⟨ga, ca, hga⟩ := row_some NSX.out.rlv (by rw [List.length_map, hbl9]; have := H2.out; omega)
            obtain ⟨ge, ce', hge⟩ := row_some NSX.out.rle (by rw [encKs, List.length_map, hkl9, hbl9]; have := H2.out; omega)
            simp only [Value.slice.injEq] at hga hge
            obtain ⟨rfl, -, rfl⟩ := hga
            obtain ⟨rfl, -, rfl⟩ := hge
            have ST := Aside0.mk st
            clear st hxM hM2 p1 p2 p3 p4 p5 p6 hBx hlx hLr hlen ha0 hb0 hkl2 hku hkf hpl hzl hze hbl9 hkl9
            gi_upto_region 26 with fail
            refine startIn_ (k := 6) (S := fun w' => w'.cell? ⟨Bx, 0, none⟩ = some (.int .i64 a0) ∧ w'.cell? ⟨Bx, 1, none⟩ = some (.int .i64 b0)) (ds := []) (mK 6 0) (by kernel_rfl) rfl rfl (by kernel_rfl) (no_lets (fun _ _ h => h)) ⟨x0, x1⟩ (fun hHeld => ?_)
            refine with_tabW (T := (true, [([], []), ([0], [0]), ([], []), ([2], [2]), ([1, 0, 1], [1]), ([3, 4, 0, 1, 2, 3, 4], [3])])) (B := [0, 1, 0, 4, 3, 31]) (by kernel_rfl) (by kernel_rfl) (fun HT_ HW_ => ?_)
            refine pK 0 116 (mK 6 1) rfl rfl HT_ ?_
            refine pK 2 118 (mK 6 5) rfl rfl HT_ ?_
            refine take_ (i := 1) (N := some 117) (v := ?_) (a' := ?_) (mK 6 7) rfl rfl (take_ofW HT_.out HW_.out (by kernel_rfl)) (fun _ _ _ h => h) (Or.inl ⟨by rfl, ?_⟩) hHeld ?_ ?_
            rotate_left; focus (rintro w' ⟨s0, s1⟩; go_simp; with_reducible rfl; done)
            rotate_left; focus (first | (simp only [Act.put, List.setIfInBounds_toArray, List.set_cons_zero, List.set_cons_succ, i64_w, i32_w]; rfl; done) | (rfl; done))
            refine pK 4 17 (mK 6 23) rfl rfl HT_ ?_
            refine take_ (i := 3) (N := some 119) (v := ?_) (a' := ?_) (mK 6 31) rfl rfl (take_ofW HT_.out HW_.out (by kernel_rfl)) (fun _ _ _ h => h) (Or.inl ⟨by rfl, ?_⟩) hHeld ?_ ?_
            rotate_left; focus (rintro w' ⟨s0, s1⟩; go_simp; with_reducible rfl; done)
            rotate_left; focus (first | (simp only [Act.put, List.setIfInBounds_toArray, List.set_cons_zero, List.set_cons_succ, i64_w, i32_w]; rfl; done) | (rfl; done))
            refine pK 5 18 (mK 6 63) rfl rfl HT_ ?_
            refine done_ (done_of HT_.out (by kernel_rfl)) ?_
            all_goals
              gi_upto_region 27 with fail
              obtain ⟨WD, hWD⟩ : ∃ WD, W.drew = WD := ⟨_, rfl⟩
              have stD := (ST.out.push (X := []) (W' := W.drew) (fun y hy => by cases hy) (Fr.drew (Fr.refl [] W)) pre pre bs2 S2 (ST.out.new.step shal_sta (fun _ _ => rfl)))
              rw [hWD] at stD ⊢
              have STD := Aside0.mk stD
              have cu : WD.cell? ⟨up, 0, none⟩ = some (.slice Au pl zu) := (blk_cell stD.1.new.hlv 0).trans rfl
              have cle : WD.cell? ⟨le, 0, none⟩ = some (.slice (some ⟨ge, 0, none⟩) n2 ce) := (blk_cell stD.1.old.hle 0).trans rfl
              have clv : WD.cell? ⟨lv, 0, none⟩ = some (.slice (some ⟨ga, 0, none⟩) n2 cl) := (blk_cell stD.1.old.hlv 0).trans rfl
              have hkn : ks.length = n2 := HSX.out.2.2.2.2.2.2.2.1.trans HSX.out.2.2.2.2.2.2.2.2.2
              have hbn9 : bs.length = n2 := HSX.out.2.2.2.2.2.2.2.2.2
              have hn9 : n2 ≤ 2147483648 := HSX.out.2.2.2.2.2.2.1
              obtain ⟨z1, z2, p6, p2, p5, z3, z4, z5⟩ := HX1.out
              have cK : Aside0 (∀ W', Below WD.heap.size WD W' → Calls Try.prog 29 #[.slice (some ⟨ge, a0 + 1, none⟩) (b0 - (a0 + 1)) (ce - (a0 + 1))] W' fun e w' => ∃ A c', e = .returned (.slice A (b0 - (a0 + 1)) c') ∧ One 9 WD w' (.slice A (b0 - (a0 + 1)) c') (encKs ((ks.drop (a0 + 1)).take (b0 - (a0 + 1))))) := ⟨fun W' hW' => (one_keys (by have h9 := stD.1.old.rle; rw [← hkn] at h9; exact h9) hW' (by omega) (by omega) (by omega)).mono (fun e w' ⟨A, c', h1, h2, h3, h4⟩ => ⟨A, c', h1, h2, fun y hy => Nat.le_trans hW'.size (h4 y hy), hW'.trans (h3.mono hW'.size)⟩)⟩
              have cC : Aside0 (∀ W', Below WD.heap.size WD W' → Calls Try.prog 30 #[.slice (some ⟨ga, a0, none⟩) (b0 - a0) (cl - a0)] W' fun e w' => ∃ A c', e = .returned (.slice A (b0 - a0) c') ∧ One 70 WD w' (.slice A (b0 - a0) c') (((bs.drop a0).take (b0 - a0)).map encP)) := ⟨fun W' hW' => (one_kids (by have h9 := stD.1.old.rlv; rw [← hbn9] at h9; exact h9) hW' (by omega) (by omega) (by omega)).mono (fun e w' ⟨A, c', h1, h2, h3, h4⟩ => ⟨A, c', h1, h2, fun y hy => Nat.le_trans hW'.size (h4 y hy), hW'.trans (h3.mono hW'.size)⟩)⟩
              have cKC : Aside0 (∀ w2 Ak ck, One 9 WD w2 (.slice Ak (b0 - (a0 + 1)) ck) (encKs ((ks.drop (a0 + 1)).take (b0 - (a0 + 1)))) → Calls Try.prog 30 #[.slice (some ⟨ga, a0, none⟩) (b0 - a0) (cl - a0)] w2 fun e w3 => ∃ Ac cc, e = .returned (.slice Ac (b0 - a0) cc) ∧ Both WD w3 (.slice Ak (b0 - (a0 + 1)) ck) (.slice Ac (b0 - a0) cc) (encKs ((ks.drop (a0 + 1)).take (b0 - (a0 + 1)))) (((bs.drop a0).take (b0 - a0)).map encP)) := ⟨fun w2 Ak ck h9 => (one_kids (by have h9 := stD.1.old.rlv; rw [← hbn9] at h9; exact h9) h9.2.2 (by omega) (by omega) (by omega)).mono (fun e w3 ⟨A, c', h1, h2, h3, h4⟩ => ⟨A, c', h1, h9.1.below h3, h2, List.nodup_append.2 ⟨own_nodup _, own_nodup _, fun a ha b hb e => by have := h9.1.lt a ha; have := h4 b hb; omega⟩, fun y hy => (List.mem_append.1 hy).elim (h9.2.1 y) (fun hy => Nat.le_trans h9.2.2.size (h4 y hy)), h9.2.2.trans (h3.mono h9.2.2.size)⟩)⟩
              have cCK : Aside0 (∀ w2 Ac cc, One 70 WD w2 (.slice Ac (b0 - a0) cc) (((bs.drop a0).take (b0 - a0)).map encP) → Calls Try.prog 29 #[.slice (some ⟨ge, a0 + 1, none⟩) (b0 - (a0 + 1)) (ce - (a0 + 1))] w2 fun e w3 => ∃ Ak ck, e = .returned (.slice Ak (b0 - (a0 + 1)) ck) ∧ Both WD w3 (.slice Ak (b0 - (a0 + 1)) ck) (.slice Ac (b0 - a0) cc) (encKs ((ks.drop (a0 + 1)).take (b0 - (a0 + 1)))) (((bs.drop a0).take (b0 - a0)).map encP)) := ⟨fun w2 Ac cc h9 => (one_keys (by have h9 := stD.1.old.rle; rw [← hkn] at h9; exact h9) h9.2.2 (by omega) (by omega) (by omega)).mono (fun e w3 ⟨A, c', h1, h2, h3, h4⟩ => ⟨A, c', h1, h2, h9.1.below h3, List.nodup_append.2 ⟨own_nodup _, own_nodup _, fun a ha b hb e => by have := h9.1.lt b hb; have := h4 a ha; omega⟩, fun y hy => (List.mem_append.1 hy).elim (fun hy => Nat.le_trans h9.2.2.size (h4 y hy)) (h9.2.1 y), h9.2.2.trans (h3.mono h9.2.2.size)⟩)⟩
              have aN : Aside0 (∀ W' vb NB, Below WD.heap.size WD W' → W'.heap[vb]? = some (.cells #[.pointer (some ⟨NB, 0, none⟩)] 70 (0, 0)) → ∃ v' w4, (Builtin.append_ #[72, 72] 72 #[(.slice Au pl zu), .slice (some ⟨vb, 0, none⟩) 1 1]).run Try.prog W' = .ok v' w4 ∧ ∃ g c, v' = .slice (some ⟨g, 0, none⟩) (pl + 1) c ∧ Step1 70 WD W' w4 (.slice Au pl zu) (.slice (some ⟨g, 0, none⟩) (pl + 1) c) (bs2.map encP ++ [encP NB])) := ⟨fun W' vb NB hW hvb => by
                obtain ⟨g, c, w4, h1, h2⟩ := appNB (stD.1.new.rlv.below hW) hvb (by have := many_le_n (n := n2) H4M.out.1; have := HUP.out.2.2.2.2; omega)
                exact ⟨_, w4, h1, g, c, rfl, hW, h2⟩⟩
              have hze := stD.1.old.rle.cap.2
              have hzl := stD.1.old.rlv.cap.2
              rw [encKs, List.length_map, hkn] at hze
              rw [List.length_map, hbn9] at hzl
              have f2 : ((a0 : Int) + 1).toNat = a0 + 1 := by omega
              have f3 : (0 : Int) ≤ (a0 : Int) + 1 := by omega
              have f4 : (a0 : Int) + 1 ≤ (b0 : Int) := by omega
              have f5 : (b0 : Int) ≤ (ce : Int) := by omega
              have f6 : ¬ (ce = a0 + 1) := by omega
              have f7 : (a0 : Int) ≤ (b0 : Int) := by omega
              have f8 : (b0 : Int) ≤ (cl : Int) := by omega
              have f9 : ¬ (cl = a0) := by omega
              have f10 : a0 ≤ b0 := by omega
              have f11 : b0 ≤ cl := by omega
              have f12 : b0 ≤ ce := by omega
              have f13 : a0 + 1 ≤ b0 := by omega
              have f14 : a0 ≤ 4294967296 := by omega
              have f1 : wrap64 ((a0 : Int) + 1) = (a0 : Int) + 1 := (w64j f14).trans (Int.natCast_succ a0)
              have f1' : IntKind.i64.wrap ((a0 : Int) + 1) = (a0 : Int) + 1 := by rw [i64w]; exact f1
              clear f14
              have HUL : Aside0 (up < WD.heap.size ∧ up ∉ (Value.slice Au pl zu).ownBlock.toList) := ⟨blk_lt stD.1.new.hlv, fun h9 => (List.nodup_cons.1 stD.1.new.nd).1 (by simp only [List.mem_cons, List.mem_append]; simp [h9])⟩
              have HLL : Aside0 (le ∉ (Value.slice Au pl zu).ownBlock.toList ∧ lv ∉ (Value.slice Au pl zu).ownBlock.toList) := ⟨fun h9 => stD.1.new.ne le (by simp) (by simp only [List.mem_cons, List.mem_append]; simp [h9]), fun h9 => stD.1.new.ne lv (by simp) (by simp only [List.mem_cons, List.mem_append]; simp [h9])⟩
              clear stD hkn hbn9 hn9 z1 z2 p6 p2 p5 z3 z4 z5 hze hzl hWD x0 x1 hHeld
              refine startIn_ (k := 17) (S := fun w' => w'.cell? ⟨up, 0, none⟩ = some (.slice Au pl zu) ∧ w'.cell? ⟨le, 0, none⟩ = some (.slice (some ⟨ge, 0, none⟩) n2 ce) ∧ w'.cell? ⟨lv, 0, none⟩ = some (.slice (some ⟨ga, 0, none⟩) n2 cl)) (ds := [16]) (mK 17 0) (by kernel_rfl) rfl rfl (by kernel_rfl) (no_lets (fun _ _ h => h)) ⟨cu, cle, clv⟩ (fun hHeld => ?_)
              refine with_tabW (T := (true, [([], []), ([], []), ([], []), ([2], [2]), ([], []), ([1, 3, 4], [1, 3, 4]), ([5], [5]), ([], []), ([], []), ([], []), ([7, 8, 9], [7, 8, 9]), ([10, 6], [10]), ([6, 11], [6, 11]), ([12], [12]), ([13], [13]), ([0, 14, 11], [0, 14]), ([15, 15, 0, 1, 2, 3, 4, 5, 6, 7, 8, 9, 10, 11, 12, 13, 14, 15], [15])])) (B := [0, 0, 0, 4, 0, 30, 62, 0, 0, 0, 896, 2046, 4094, 8190, 16382, 32767, 65535]) (by kernel_rfl) (by kernel_rfl) (fun HT_ HW_ => ?_)
              refine pK 2 122 (mK 17 4) rfl rfl HT_ ?_
              refine pK 3 123 (mK 17 12) rfl rfl HT_ ?_
              refine pK 4 124 (mK 17 28) rfl rfl HT_ ?_
              refine pK 8 128 (mK 17 284) rfl rfl HT_ ?_
              refine pK 9 129 (mK 17 796) rfl rfl HT_ ?_
              refine take_ (i := 0) (N := some 120) (v := ?_) (a' := ?_) (mK 17 797) rfl rfl (take_ofW HT_.out HW_.out (by kernel_rfl)) (fun _ _ _ h => h) (Or.inl ⟨by rfl, ?_⟩) hHeld ?_ ?_
              rotate_left; focus (rintro w' ⟨s0, s1, s2⟩; go_simp; with_reducible rfl; done)
              rotate_left; focus (first | (simp only [Act.put, List.setIfInBounds_toArray, List.set_cons_zero, List.set_cons_succ, i64_w, i32_w]; rfl; done) | (rfl; done))
              refine take_ (i := 1) (N := some 121) (v := ?_) (a' := ?_) (mK 17 799) rfl rfl (take_ofW HT_.out HW_.out (by kernel_rfl)) (fun _ _ _ h => h) (Or.inl ⟨by rfl, ?_⟩) hHeld ?_ ?_
              rotate_left; focus (rintro w' ⟨s0, s1, s2⟩; go_simp; with_reducible rfl; done)
              rotate_left; focus (first | (simp only [Act.put, List.setIfInBounds_toArray, List.set_cons_zero, List.set_cons_succ, i64_w, i32_w]; rfl; done) | (rfl; done))
              refine pK 5 125 (mK 17 831) rfl rfl HT_ ?_
              refine take_ (i := 7) (N := some 127) (v := ?_) (a' := ?_) (mK 17 959) rfl rfl (take_ofW HT_.out HW_.out (by kernel_rfl)) (fun _ _ _ h => h) (Or.inl ⟨by rfl, ?_⟩) hHeld ?_ ?_
              rotate_left; focus (rintro w' ⟨s0, s1, s2⟩; go_simp; with_reducible rfl; done)
              rotate_left; focus (first | (simp only [Act.put, List.setIfInBounds_toArray, List.set_cons_zero, List.set_cons_succ, i64_w, i32_w]; rfl; done) | (rfl; done))
              refine pK 10 130 (mK 17 1983) rfl rfl HT_ ?_
              refine one_ (i := 6) (N := some 126) (mK 17 2047) rfl rfl (one_of HT_.out (by kernel_rfl)) (by decide) (fun K hK => ?_)
              focus
               go_simp
               first
                | (refine (cCK.out _ _ _ ONE.out).mono ?_; rintro e w3 ⟨Ak, ck, rfl, h9⟩; have BOT := Aside0.mk h9; have SX := Aside0.mk (And.intro ((h9.2.2.2.2.cell (World.block_lt_of_cell? _ _ cu)).trans cu) (And.intro ((h9.2.2.2.2.cell (World.block_lt_of_cell? _ _ cle)).trans cle) ((h9.2.2.2.2.cell (World.block_lt_of_cell? _ _ clv)).trans clv))); clear h9)
                | (refine (cK.out _ ?_).mono ?_; exact (by first | exact below_drew1 (Below.refl _ _) | exact Below.refl _ _); rintro e w2 ⟨Ak, ck, rfl, h9⟩; have ONE := Aside0.mk h9; have SX := Aside0.mk (And.intro ((h9.2.2.cell (World.block_lt_of_cell? _ _ cu)).trans cu) (And.intro ((h9.2.2.cell (World.block_lt_of_cell? _ _ cle)).trans cle) ((h9.2.2.cell (World.block_lt_of_cell? _ _ clv)).trans clv))); clear h9)
               go_simp
               refine hK.out _ _ SX.out (fun hHeld => ?_)
               clear hK K
               refine one_ (i := 11) (N := some 131) (mK 17 4095) rfl rfl (one_of HT_.out (by kernel_rfl)) (by decide) (fun K hK => ?_)
               focus
                go_simp
                first
                 | (refine (cKC.out _ _ _ ONE.out).mono ?_; rintro e w3 ⟨Ac, cc, rfl, h9⟩; have BOT := Aside0.mk h9; have SX := Aside0.mk (And.intro ((h9.2.2.2.2.cell (World.block_lt_of_cell? _ _ cu)).trans cu) (And.intro ((h9.2.2.2.2.cell (World.block_lt_of_cell? _ _ cle)).trans cle) ((h9.2.2.2.2.cell (World.block_lt_of_cell? _ _ clv)).trans clv))); clear h9)
                 | (refine (cC.out _ ?_).mono ?_; exact (by first | exact below_drew1 (Below.refl _ _) | exact Below.refl _ _); rintro e w2 ⟨Ac, cc, rfl, h9⟩; have ONE := Aside0.mk h9; have SX := Aside0.mk (And.intro ((h9.2.2.cell (World.block_lt_of_cell? _ _ cu)).trans cu) (And.intro ((h9.2.2.cell (World.block_lt_of_cell? _ _ cle)).trans cle) ((h9.2.2.cell (World.block_lt_of_cell? _ _ clv)).trans clv))); clear h9)
                go_simp
                refine hK.out _ _ SX.out (fun hHeld => ?_)
                clear hK K
                refine pK 12 132 (mK 17 8191) rfl rfl HT_ ?_
                refine one_ (i := 13) (N := some 133) (mK 17 16383) rfl rfl (one_of HT_.out (by kernel_rfl)) (by decide) (fun K hK => ?_)
                focus
                 go_simp
                 refine hK.out _ _ ⟨cell_alloc hHeld.1 _, cell_alloc hHeld.2.1 _, cell_alloc hHeld.2.2 _⟩ (fun hHeld => ?_)
                 clear hK K
                 refine one_ (i := 14) (N := some 134) (mK 17 32767) rfl rfl (one_of HT_.out (by kernel_rfl)) (by decide) (fun K hK => ?_)
                 focus
                  go_simp
                  refine hK.out _ _ ⟨cell_alloc hHeld.1 _, cell_alloc hHeld.2.1 _, cell_alloc hHeld.2.2 _⟩ (fun hHeld => ?_)
                  clear hK K
                  refine one_ (i := 15) (N := some 135) (mK 17 65535) rfl rfl (one_of HT_.out (by kernel_rfl)) (by decide) (fun K hK => ?_)
                  focus
                   refine step_appK rfl _ _ 72 72 rfl (.slice Au pl zu) _ (by simp [Act.eval, Act.put]) (by simp only [Act.eval, Act.put]; rfl) (aN.out _ _ w3.heap.size ?_ ?_) ?_
                   exact below_alloc (below_alloc BOT.out.2.2.2.2 _) _
                   exact (by first | exact blk_new2 _ _ _ | exact blk_new _ _)
                   rintro _ w4 ⟨g, cg, rfl, s1⟩
                   have S1 := Aside0.mk s1
                   have hb4 := (s1.keep HUL.out.1 HUL.out.2).trans STD.out.1.new.hlv
                   have f20 := blk_frozen hb4 0
                   have f21 := (blk_cell hb4 0).trans (b := some (Value.slice Au pl zu)) rfl
                   have SX := Aside0.mk (And.intro (s1.fr.cell cu HUL.out.2) (And.intro (s1.fr.cell cle HLL.out.1) (s1.fr.cell clv HLL.out.2)))
                   clear s1 hb4
                   go_simp
                   refine hK.out _ _ SX.out (fun hHeld => ?_)
                   clear hK K
                   refine last_ (i := 16) (N := none) (mK 17 131071) rfl rfl (one_of HT_.out (by kernel_rfl)) (by decide) (fun K hK => ?_)
                   focus
                    go_simp
                    (skip)
                    refine hK.out _ _ ?_
                    clear hK K
                    refine done_ (done_of HT_.out (by kernel_rfl)) ?_
              all_goals
                obtain ⟨WE, hWE⟩ : ∃ WE, w4.setCell ⟨up, 0, none⟩ (.slice (some ⟨g, 0, none⟩) (pl + 1) cg) = WE := ⟨_, rfl⟩
                have hbot := BOT.out
                have hpo : partOf (cutAt n2 M2) ks bs x.val = ((ks.drop (a0 + 1)).take (b0 - (a0 + 1)), (bs.drop a0).take (b0 - a0)) := by unfold partOf; rw [HX1.out.1, HX1.out.2.1]
                have hsh := shal_made (o := .cells #[.pointer (some ⟨w3.heap.size, 0, none⟩)] 70) hbot.1 hbot.2.1 hbot.2.2.1
                rw [← hpo] at hsh
                have stN := STD.out.1.node (x := x) S1.out.1 hsh (fun y hy => by
                  rcases List.mem_cons.1 hy with rfl | hy
                  · exact hbot.2.2.2.2.size
                  · exact hbot.2.2.2.1 y hy) (List.nodup_cons.2 ⟨fun h9 => by
                  rcases List.mem_append.1 h9 with h9 | h9
                  · exact Nat.lt_irrefl _ (hbot.1.lt _ h9)
                  · exact Nat.lt_irrefl _ (hbot.2.1.lt _ h9), hbot.2.2.1⟩) S1.out.2
                rw [hWE] at stN ⊢
                have STN := Aside0.mk stN
                have hkn : ks.length = n2 := HSX.out.2.2.2.2.2.2.2.1.trans HSX.out.2.2.2.2.2.2.2.2.2
                obtain ⟨z1, z2, p6, p2, p5, z3, z4, z5⟩ := HX1.out
                have cfi : WE.cell? ⟨fi, 0, none⟩ = some (.slice Af pl zf) := (blk_cell stN.1.new.hle 0).trans rfl
                have cle2 : WE.cell? ⟨le, 0, none⟩ = some (.slice (some ⟨ge, 0, none⟩) n2 ce) := (blk_cell stN.1.old.hle 0).trans rfl
                have cge : WE.cell? ⟨ge, a0, none⟩ = some (.string ⟨(ks.getD a0 []).toArray⟩) := (stN.1.old.rle.cellAt (i := a0) (u := .string ⟨(ks.getD a0 []).toArray⟩) (by rw [encKs, List.getElem?_map, getD_some (i := a0) (by omega)]; rfl)).1
                have aF : Aside0 (∀ W' vb, Below WE.heap.size WE W' → W'.heap[vb]? = some (.cells #[.string ⟨(ks.getD a0 []).toArray⟩] 9 (0, 0)) → ∃ v' w5, (Builtin.append_ #[71, 71] 71 #[(.slice Af pl zf), .slice (some ⟨vb, 0, none⟩) 1 1]).run Try.prog W' = .ok v' w5 ∧ ∃ g c, v' = .slice (some ⟨g, 0, none⟩) (pl + 1) c ∧ Step1 9 WE W' w5 (.slice Af pl zf) (.slice (some ⟨g, 0, none⟩) (pl + 1) c) (encKs (pre.map fun i => ks.getD (cutAt n2 M2 i.val) []) ++ [.string ⟨(ks.getD a0 []).toArray⟩])) := ⟨fun W' vb hW hvb => by
                  obtain ⟨g, c, w5, h1, h2⟩ := appSB (stN.1.new.rle.below hW) hvb (by have := many_le_n (n := n2) H4M.out.1; have := HUP.out.2.2.2.2; have := HSX.out.2.2.2.2.2.2.1; omega)
                  exact ⟨_, w5, h1, g, c, rfl, hW, h2⟩⟩
                have HFL : Aside0 (fi < WE.heap.size ∧ fi ∉ (Value.slice Af pl zf).ownBlock.toList ∧ le ∉ (Value.slice Af pl zf).ownBlock.toList ∧ ge ∉ (Value.slice Af pl zf).ownBlock.toList) := ⟨blk_lt stN.1.new.hle, fun h9 => (List.nodup_cons.1 (List.nodup_cons.1 stN.1.new.nd).2).1 (List.mem_append_right _ (List.mem_append_left _ h9)), fun h9 => stN.1.new.ne le (by simp) (by simp only [List.mem_cons, List.mem_append]; simp [h9]), fun h9 => stN.1.new.ne ge (by simp [Value.ownBlock]) (by simp only [List.mem_cons, List.mem_append]; simp [h9])⟩
                have k1 : (a0 : Int) < (n2 : Int) := by omega
                have k2 : a0 < n2 := by omega
                clear stN hsh hpo hbot hWE hkn z1 z2 p6 p2 p5 z3 z4 z5 cu cle clv f1 f1' f2 f3 f4 f5 f6 f7 f8 f9 f10 f11 f12 f13 f20 f21 hHeld SX
                gi_upto_region 28 with fail
                refine startIn_ (k := 8) (S := fun w' => w'.cell? ⟨fi, 0, none⟩ = some (.slice Af pl zf) ∧ w'.cell? ⟨le, 0, none⟩ = some (.slice (some ⟨ge, 0, none⟩) n2 ce) ∧ w'.cell? ⟨ge, a0, none⟩ = some (.string ⟨(ks.getD a0 []).toArray⟩)) (ds := [7]) (mK 8 0) (by kernel_rfl) rfl rfl (by kernel_rfl) (no_lets (fun _ _ h => h)) ⟨cfi, cle2, cge⟩ (fun hHeld => ?_)
                refine with_tabW (T := (true, [([], []), ([], []), ([], []), ([1, 2], [1, 2]), ([3], [3]), ([4], [4]), ([0, 5], [0, 5]), ([6, 6, 0, 1, 2, 3, 4, 5, 6], [6])])) (B := [0, 0, 0, 6, 14, 30, 63, 127]) (by kernel_rfl) (by kernel_rfl) (fun HT_ HW_ => ?_)
                refine pK 2 138 (mK 8 4) rfl rfl HT_ ?_
                refine take_ (i := 0) (N := some 136) (v := ?_) (a' := ?_) (mK 8 5) rfl rfl (take_ofW HT_.out HW_.out (by kernel_rfl)) (fun _ _ _ h => h) (Or.inl ⟨by rfl, ?_⟩) hHeld ?_ ?_
                rotate_left; focus (rintro w' ⟨s0, s1, s2⟩; go_simp; with_reducible rfl; done)
                rotate_left; focus (first | (simp only [Act.put, List.setIfInBounds_toArray, List.set_cons_zero, List.set_cons_succ, i64_w, i32_w]; rfl; done) | (rfl; done))
                refine take_ (i := 1) (N := some 137) (v := ?_) (a' := ?_) (mK 8 7) rfl rfl (take_ofW HT_.out HW_.out (by kernel_rfl)) (fun _ _ _ h => h) (Or.inl ⟨by rfl, ?_⟩) hHeld ?_ ?_
                rotate_left; focus (rintro w' ⟨s0, s1, s2⟩; go_simp; with_reducible rfl; done)
                rotate_left; focus (first | (simp only [Act.put, List.setIfInBounds_toArray, List.set_cons_zero, List.set_cons_succ, i64_w, i32_w]; rfl; done) | (rfl; done))
                refine pK 3 139 (mK 8 15) rfl rfl HT_ ?_
                refine take_ (i := 4) (N := some 140) (v := ?_) (a' := ?_) (mK 8 31) rfl rfl (take_ofW HT_.out HW_.out (by kernel_rfl)) (fun _ _ _ h => h) (Or.inl ⟨by rfl, ?_⟩) hHeld ?_ ?_
                rotate_left; focus (rintro w' ⟨s0, s1, s2⟩; go_simp; with_reducible rfl; done)
                rotate_left; focus (first | (simp only [Act.put, List.setIfInBounds_toArray, List.set_cons_zero, List.set_cons_succ, i64_w, i32_w]; rfl; done) | (rfl; done))
                refine one_ (i := 5) (N := some 141) (mK 8 63) rfl rfl (one_of HT_.out (by kernel_rfl)) (by decide) (fun K hK => ?_)
                focus
                 go_simp
                 refine hK.out _ _ ⟨cell_alloc hHeld.1 _, cell_alloc hHeld.2.1 _, cell_alloc hHeld.2.2 _⟩ (fun hHeld => ?_)
                 clear hK K
                 refine one_ (i := 6) (N := some 142) (mK 8 127) rfl rfl (one_of HT_.out (by kernel_rfl)) (by decide) (fun K hK => ?_)
                 focus
                  refine step_appK rfl _ _ 71 71 rfl (.slice Af pl zf) _ (by simp [Act.eval, Act.put]) (by simp only [Act.eval, Act.put]; rfl) (aF.out _ _ ?_ ?_) ?_
                  exact (by first | exact below_alloc (below_drew1 (Below.refl _ _)) _ | exact below_drew1 (below_alloc (Below.refl _ _) _) | exact below_alloc (Below.refl _ _) _)
                  exact (by first | exact blk_new _ _ | exact blk_new2 _ _ _)
                  rintro _ w5 ⟨g5, cg5, rfl, s1⟩
                  have S5 := Aside0.mk s1
                  have hb4 := (s1.keep HFL.out.1 HFL.out.2.1).trans STN.out.1.new.hle
                  have f20 := blk_frozen hb4 0
                  have f21 := (blk_cell hb4 0).trans (b := some (Value.slice Af pl zf)) rfl
                  have SX := Aside0.mk (And.intro (s1.fr.cell cfi HFL.out.2.1) (And.intro (s1.fr.cell cle2 HFL.out.2.2.1) (s1.fr.cell cge HFL.out.2.2.2)))
                  clear s1 hb4
                  go_simp
                  refine hK.out _ _ SX.out (fun hHeld => ?_)
                  clear hK K
                  refine last_ (i := 7) (N := none) (mK 8 255) rfl rfl (one_of HT_.out (by kernel_rfl)) (by decide) (fun K hK => ?_)
                  focus
                   go_simp
                   (skip)
                   refine hK.out _ _ ?_
                   clear hK K
                   refine done_ (done_of HT_.out (by kernel_rfl)) ?_
                all_goals
                  have hka : ks.getD (cutAt n2 M2 x.val) [] = ks.getD a0 [] := by rw [HX1.out.1]
                  have htk := S5.out.2
                  rw [← hka] at htk
                  have stK := STN.out.1.key (x := x) S5.out.1 htk
                  have kp1 := STD.out
                  have kp2 := STN.out
                  gi_wp2
                  exact ⟨(kp1.2.1.trans kp2.2.1).trans stK.2.1, ⟨(stK.2.2 nb2 (by simp)).trans ((kp2.2.2 nb2 (by simp)).trans (kp1.2.2 nb2 (by simp))), (stK.2.2 mb2 (by simp)).trans ((kp2.2.2 mb2 (by simp)).trans (kp1.2.2 mb2 (by simp)))⟩, _, _, _, _, stK.1⟩
          case done2 =>
            intro D xs W hD hxs hI hDm
            subst hxs
            obtain ⟨vup, vfi, bs2, S2, st⟩ := hI
            have stD := (st.push (X := []) (W' := W.drew) (fun y hy => by cases hy) (Fr.drew (Fr.refl [] W)) (List.finRange M2) (List.finRange M2) bs2 S2 (st.new.step shal_sta (fun _ _ => rfl))).1
            have STD := Aside0.mk (And.intro stD (And.intro hD hDm))
            obtain ⟨Au, zu, rfl, -, -⟩ := st.new.rlv.shape
            obtain ⟨Af, zf, rfl, -, -⟩ := st.new.rle.shape
            obtain ⟨ku, hku⟩ : ∃ ku, (bs2.map encP).length = ku := ⟨_, rfl⟩
            obtain ⟨kf, hkf⟩ : ∃ kf, (encKs ((List.finRange M2).map fun i => ks.getD (cutAt n2 M2 i.val) [])).length = kf := ⟨_, rfl⟩
            rw [hku, hkf] at st stD STD
            have cu : W.cell? ⟨up, 0, none⟩ = some (.slice Au ku zu) := (blk_cell st.new.hlv 0).trans rfl
            have cf : W.cell? ⟨fi, 0, none⟩ = some (.slice Af kf zf) := (blk_cell st.new.hle 0).trans rfl
            have fl : W.drew.frozen? ⟨lv, 0, none⟩ = false := blk_frozen stD.old.hlv 0
            have ll : W.drew.cell? ⟨lv, 0, none⟩ = some (.slice Al n2 cl) := (blk_cell stD.old.hlv 0).trans rfl
            have hne : le ∉ [lv] := fun h9 => (List.nodup_cons.1 stD.old.nd).1 (by simp only [List.mem_singleton] at h9; rw [← h9]; simp)
            have fe := fun u => blk_frozen (((Fr.refl [lv] W.drew).setCell (p := ⟨lv, 0, none⟩) (.inl (by simp)) u).blk stD.old.hle hne) 0
            have ll2 := fun u => (blk_cell (((Fr.refl [lv] W.drew).setCell (p := ⟨lv, 0, none⟩) (.inl (by simp)) u).blk stD.old.hle hne) 0).trans (b := some (Value.slice Ae n2 ce)) rfl
            have fe2 := fun u => blk_frozen (((Fr.refl [lv] W).setCell (p := ⟨lv, 0, none⟩) (.inl (by simp)) u).blk st.old.hle hne) 0
            have ll3 := fun u => (blk_cell (((Fr.refl [lv] W).setCell (p := ⟨lv, 0, none⟩) (.inl (by simp)) u).blk st.old.hle hne) 0).trans (b := some (Value.slice Ae n2 ce)) rfl
            have hnu : up ∉ [lv] := fun h9 => st.new.ne lv (by simp) (by simp only [List.mem_singleton] at h9; rw [← h9]; simp)
            have hnf : fi ∉ [lv] := fun h9 => st.new.ne lv (by simp) (by simp only [List.mem_singleton] at h9; rw [← h9]; simp)
            have su := fun u => (blk_cell (((Fr.refl [lv] W).setCell (p := ⟨lv, 0, none⟩) (.inl (by simp)) u).blk st.new.hlv hnu) 0).trans (b := some (Value.slice Au ku zu)) rfl
            have sf := fun u => (blk_cell (((Fr.refl [lv] W).setCell (p := ⟨lv, 0, none⟩) (.inl (by simp)) u).blk st.new.hle hnf) 0).trans (b := some (Value.slice Af kf zf)) rfl
            clear st stD hne hD hDm hku hkf hnu hnf
            go_upto_region 29 with fail
            refine wp_nopanic ?_
            refine start_ (n := 4) (S := fun w' => w'.cell? ⟨up, 0, none⟩ = some (.slice Au ku zu) ∧ w'.cell? ⟨fi, 0, none⟩ = some (.slice Af kf zf)) (ds := [3]) (mK 4 0) (by kernel_rfl) rfl rfl ⟨cu, cf⟩ (fun hHeld => ?_)
            refine with_tabW (T := (true, [([], []), ([], []), ([0, 0], [0]), ([1, 2, 0, 1, 2], [1])])) (B := [0, 0, 1, 7]) (by kernel_rfl) (by kernel_rfl) (fun HT_ HW_ => ?_)
            refine take_ (i := 0) (N := some 143) (v := ?_) (a' := ?_) (mK 4 1) rfl rfl (take_ofW HT_.out HW_.out (by kernel_rfl)) (fun _ _ _ h => h) (Or.inl ⟨by rfl, ?_⟩) hHeld ?_ ?_
            rotate_left; focus (rintro w' ⟨s0, s1⟩; go_simp; with_reducible rfl; done)
            rotate_left; focus (first | (simp only [Act.put, List.setIfInBounds_toArray, List.set_cons_zero, List.set_cons_succ, i64_w, i32_w]; rfl; done) | (rfl; done))
            refine take_ (i := 1) (N := some 144) (v := ?_) (a' := ?_) (mK 4 3) rfl rfl (take_ofW HT_.out HW_.out (by kernel_rfl)) (fun _ _ _ h => h) (Or.inl ⟨by rfl, ?_⟩) hHeld ?_ ?_
            rotate_left; focus (rintro w' ⟨s0, s1⟩; go_simp; with_reducible rfl; done)
            rotate_left; focus (first | (simp only [Act.put, List.setIfInBounds_toArray, List.set_cons_zero, List.set_cons_succ, i64_w, i32_w]; rfl; done) | (rfl; done))
            refine one_ (i := 2) (N := none) (mK 4 7) rfl rfl (one_of HT_.out (by kernel_rfl)) (by decide) (fun K hK => ?_)
            focus
             go_simp
             refine hK.out _ _ ⟨su _, sf _⟩ (fun hHeld => ?_)
             clear hK K
             refine last_ (i := 3) (N := none) (mK 4 15) rfl rfl (one_of HT_.out (by kernel_rfl)) (by decide) (fun K hK => ?_)
             focus
              go_simp
              (skip)
              refine hK.out _ _ ?_
              clear hK K
              refine done_ (done_of HT_.out (by kernel_rfl)) ?_
            all_goals
              refine np_normal ?_
              go_wp2
              have hds : (D :: Ds).map markOf = ({ target := .collected D, args := #[] } : Deferred) :: Ds.map markOf := rfl
              obtain ⟨st, hD, hDm⟩ := STD.out
              have hM2 := HUP.out.2.2.2.2
              subst hM2
              have hml := many_less H4M.out.1 (n := n2) (by have := H2.out; omega)
              have hnew := st2_done H4M.out.1 HLO.out HSX.out.2.2.2.2.2.2.2.2.2 H2.out HSX.out.2.2.2.2.2.2.1 st HST.out.2.2.2.2.2 HSX.out.2.1 HSX.out.2.2.2.1 (fun D' hD' => ⟨(HSX.out.2.2.2.2.1 D' hD').1, HDL.out.1 D' hD'⟩) hD hDm (by have h9 := (HST.out.1.fc mb (by simp)).lt; have := HF.out.2.2.2.2.2.2.2; omega) (manyOf n2 m) (Nat.le_refl _)
              refine ⟨manyOf n2 m, by have := HSX.out.2.2.2.2.2.1; omega, hJ _ _ _ ?_⟩
              exact ⟨_, _, _, _, _, _, _, _, _, _, _, D :: Ds, rfl, ⟨hnew⟩⟩
        · have d1 : decide (1 < (n2 : Int)) = false := decide_eq_false (by omega)
          have d2 : decide (1 < n2) = false := decide_eq_false h2
          by_cases h1 : n2 = 1
          · obtain ⟨b0, hb0⟩ : ∃ b0, bs = [b0] := by
              have h9 := HSX.out.2.2.2.2.2.2.2.2.2
              match bs, h9 with
              | [b0], _ => exact ⟨b0, rfl⟩
              | [], h9 => simp at h9; omega
              | _ :: _ :: _, h9 => simp at h9; omega
            have d3 : (n2 : Int) = 1 := by omega
            have d4 : decide ((n2 : Int) = 1) = true := decide_eq_true d3
            have d5 : decide (n2 = 1) = true := decide_eq_true h1
            obtain ⟨ga, ca, hga⟩ := row_some NSX.out.rlv (by rw [hb0]; simp)
            have r0 : WX.cell? ⟨ga, 0, none⟩ = some (encP b0) := by
              have h9 := NSX.out.rlv
              rw [hga, hb0] at h9
              exact (h9.cellAt (i := 0) (u := encP b0) rfl).1
            simp only [Value.slice.injEq] at hga
            obtain ⟨rfl, -, rfl⟩ := hga
            unfold encP at r0
            have htb : WX.heap[tb]? = some (.cells #[.int .i64 m, .int .i64 n, .pointer (some ⟨rt, 0, none⟩)] 76 (0, 0)) := (HSX.out.1 tb (by simp)).trans HF.out.2.2.1
            have ft := blk_frozen htb 2
            have ct := (tree_cells htb).2.2
            have HT := Aside0.mk (And.intro htb hb0)
            have H1 := Aside0.mk h1
            subst h1
            clear h2 htb hb0 d3 d4 d5
            go_wp2
            have ns9 := NSX.out
            rw [HT.out.2] at ns9
            have hlo : LevelOk m h cs ks l := HSX.out.2.2.2.2.2.2.2.2.1.resolve_left (fun h9 => by have h8 := HT.out.2; rw [h9.2] at h8; cases h8)
            have hb3 := HB3.out
            have hn9 := HN9.out
            refine leave_marks rfl Ds _ HSX.out.2.2.2.1 (fun D hD => ds_keep ((Fr.refl [tb] WX).setCell (p := ⟨tb, 2, none⟩) (.inl (by simp)) _) (fun k hk => by simp only [List.mem_singleton] at hk; subst hk; exact ⟨_, _, _, HT.out.1⟩) (HSX.out.2.2.2.2.1 D hD).2) (fun W' hW' => ?_)
            obtain ⟨t1, t2, t3⟩ := new_one ns9 hlo HNL.out HT.out.1 (by simp) (fun D hD => ⟨by have := (HSX.out.2.2.2.2.1 D hD).1; have := HF.out.2.2.2.2.2.2.2; omega, (HSX.out.2.2.2.2.1 D hD).2⟩) HSX.out.2.2.1 (by omega) hW'
            unfold NewP
            rw [if_neg (by have := H4M.out; omega), if_pos HR.out, hb3]
            exact ⟨tb, _, rfl, t1, t2, t3⟩
          · have d3 : ¬ (n2 : Int) = 1 := by omega
            have d4 : decide ((n2 : Int) = 1) = false := decide_eq_false d3
            have d5 : decide (n2 = 1) = false := decide_eq_false h1
            have hz : n2 = 0 := by omega
            subst hz
            clear h2 h1 d3 d4 d5
            go_wp2
            have hb3 := HB3.out
            have hn9 := HN9.out
            have hbs : bs = [] := List.length_eq_zero_iff.1 HSX.out.2.2.2.2.2.2.2.2.2
            have hl0 : l = [] := by
              rcases HSX.out.2.2.2.2.2.2.2.2.1 with h9 | h9
              · exact h9.1
              · exfalso
                have h8 := kids_len NSX.out.kids
                rw [hbs] at h8
                have h7 : cs = [] := List.length_eq_zero_iff.1 h8.symm
                subst h7
                have h6 := h9.2.2.2
                have h5 := h9.1
                have h4 : ks = [] := List.length_eq_zero_iff.1 h5
                subst h4
                exact h6
            have hn0 : n = 0 := by have := HNL.out; rw [hl0] at this; exact this.symm
            have htb : WX.heap[tb]? = some (.cells #[.int .i64 m, .int .i64 0, .pointer (some ⟨rt, 0, none⟩)] 76 (0, 0)) := (HSX.out.1 tb (by simp)).trans (by have h9 := HF.out.2.2.1; rw [hn0] at h9; exact h9)
            have hrt : WX.heap[rt]? = some (.cells #[.slice none 0 0, .slice none 0 0, .slice none 0 0] 74 (0, 0)) := (HSX.out.1 rt (by simp)).trans HF.out.2.1
            refine leave_marks rfl Ds _ HSX.out.2.2.2.1 (fun D hD => (HSX.out.2.2.2.2.1 D hD).2) (fun W' hW' => ?_)
            obtain ⟨t1, t2, t3⟩ := new_zero htb hrt (by omega) (fun D hD => ⟨by have := (HSX.out.2.2.2.2.1 D hD).1; have := HF.out.2.2.2.2.2.2.2; omega, (HSX.out.2.2.2.2.1 D hD).2⟩) HSX.out.2.2.1 (by omega) (by omega) hW'
            unfold NewP
            rw [if_neg (by have := H4M.out; omega), if_pos HR.out, hb3, hl0]
            exact ⟨tb, _, rfl, t1, t2, t3⟩
end Go.Proofs.YtmomohljnmopfaaX
end
section
namespace Go.Proofs.YtmomohljnmopfaaX
open Go.RowKit Go.Lib Go.Proofs.YtmomohljnmopfaaW.PrintWords Go.Proofs.YtmomohljnmopfaaW.PrintLast Go.Proofs.YtmomohljnmopfaaW.PrintMore
set_option linter.unusedVariables false
set_option linter.unusedSimpArgs false
/-- A tree that was made behind the block B, while all before it stays. -/
structure Mi (B : Nat) (w0 : World) (m : Nat) (w : World) (tb : Nat) (S : List Nat) (l : List KV) : Prop where
  tr : Tr m w tb l S
  below : Below B w0 w
  base : B ≤ w.heap.size
  own : ∀ k ∈ S, B ≤ k
section
variable {B m tb : Nat} {w0 w w' : World} {S : List Nat} {l : List KV}
theorem Mi.on (h : Mi B w0 m w tb S l) (hb : Below w.heap.size w w') : Mi B w0 m w' tb S l :=
  ⟨tr_below h.tr hb, h.below.trans (hb.mono h.base), Nat.le_trans h.base hb.size, h.own⟩
theorem Mi.fr {T : List Nat} (h : Mi B w0 m w tb S l) (hf : Fr T w w') (hT : ∀ k ∈ T, B ≤ k) (hd : ∀ k ∈ S, k ∉ T) : Mi B w0 m w' tb S l :=
  ⟨tr_fr h.tr hf hd, h.below.trans (hf.below_base hT h.base), Nat.le_trans h.base hf.size, h.own⟩
theorem Mi.did {l' : List KV} (h : Mi B w0 m w tb S l) (hd : TDid m w w' tb S l') : ∃ S', Mi B w0 m w' tb S' l' ∧ Fr S w w' ∧ ∀ k ∈ S', k ∈ S ∨ w.heap.size ≤ k := by
  obtain ⟨S', h1, h2, h3⟩ := hd
  exact ⟨S', ⟨h1, h.below.trans (h2.below_base h.own h.base), Nat.le_trans h.base h2.size, fun k hk => (h3 k hk).elim (h.own k) (fun h9 => Nat.le_trans h.base h9)⟩, h2, h3⟩
theorem Mi.put (h : Mi B w0 m w tb S l) (x : Nm) (v : ByteArray) (h4 : 4 ≤ m) (hm : m ≤ 64) (hl : l.length ≤ 4611686018427387904) : Calls Try.prog 18 #[.pointer (some ⟨tb, 0, none⟩), .string ⟨x.toArray⟩, .string v] w fun e w' =>
    e = .returned (ansG (getF x l)) ∧ ∃ S', Mi B w0 m w' tb S' (putF x v l) ∧ Fr S w w' ∧ ∀ k ∈ S', k ∈ S ∨ w.heap.size ≤ k :=
  (putTree_calls x v h4 hm hl h.tr).mono (fun e w' ⟨h1, h2⟩ => ⟨h1, h.did h2⟩)
theorem Mi.del (h : Mi B w0 m w tb S l) (x : Nm) (h4 : 4 ≤ m) (hm : m ≤ 64) (hl : l.length ≤ 4611686018427387904) : Calls Try.prog 17 #[.pointer (some ⟨tb, 0, none⟩), .string ⟨x.toArray⟩] w fun e w' =>
    e = .returned (ansG (getF x l)) ∧ ∃ S', Mi B w0 m w' tb S' (delF x l) ∧ Fr S w w' ∧ ∀ k ∈ S', k ∈ S ∨ w.heap.size ≤ k :=
  (delTree_calls x h4 hm hl h.tr).mono (fun e w' ⟨h1, h2⟩ => ⟨h1, h.did h2⟩)
end
theorem drewN_below (w : World) (n : Nat) : Below w.heap.size w (w.drewN n) := ⟨rfl, rfl, rfl, Nat.le_refl _, fun _ _ => rfl⟩
/-- Two pairs, as they are written down. -/
theorem src_two {w : World} {g : Nat} {p q : KV} (h : w.heap[g]? = some (.cells #[.string ⟨p.1.toArray⟩, .string p.2, .string ⟨q.1.toArray⟩, .string q.2] 40 (0, 0))) : SrcP w (some ⟨g, 0, none⟩) [p, q] := fun i r hi => by
  have hc : ∀ j, w.cell? ⟨g, j, none⟩ = (#[Value.string ⟨p.1.toArray⟩, .string p.2, .string ⟨q.1.toArray⟩, .string q.2])[j]? := fun j => blk_cell h j
  refine ⟨_, rfl, ?_⟩
  rw [add_lit0]
  rcases i with _ | _ | i
  · cases hi; exact ⟨hc 0, hc 1⟩
  · cases hi; exact ⟨hc 2, hc 3⟩
  · simp at hi
def awA : KV := ([97], ⟨#[49]⟩)
def awA2 : KV := ([97], ⟨#[50]⟩)
def awB : KV := ([98], ⟨#[]⟩)
theorem aw_rises : Rises [awA, awB] := by unfold Rises; simp [awA, awB]; decide
theorem aw_put : putF [97] ⟨#[50]⟩ [awA, awB] = [awA2, awB] := by simp [putF, awA, awB, awA2]
theorem aw_get : getF [97] [awA, awB] = some ⟨#[49]⟩ := by simp [getF, awA, awB]
theorem aw_del : delF [99] [awA2, awB] = [awA2, awB] := by simp [delF, awA2, awB]
theorem aw_none : getF [99] [awA2, awB] = none := by simp [getF, awA2, awB]
theorem aw_list : listF [] [] 9 [awA2, awB] = [awA2, awB] := by rfl
theorem aw_from : fromF [97, 97] [awA2, awB] = [awB] := by rfl
theorem new_own {m c : Nat} {w : World} {A : Option Addr} {l : List KV} (h4 : 4 ≤ m) (hm : m ≤ 64) (hs : SrcP w A l) (hc : l.length ≤ c) (hn : l.length ≤ 2147483648) (hr : Rises l) : Calls Try.prog 11 #[.int .i64 m, .slice A l.length c] w fun e w' => ∃ tb S, e = .returned (.tuple #[.pointer (some ⟨tb, 0, none⟩), .int .i64 0]) ∧ Mi w.heap.size w m w' tb S l ∧ Below w.heap.size w w' := by
  refine (new_calls h4 hm hs hc hn).mono (fun e w' h9 => ?_)
  unfold NewP at h9
  rw [if_neg (by omega), if_pos hr, Int.toNat_natCast] at h9
  obtain ⟨tb, S, h1, h2, h3, h5⟩ := h9
  exact ⟨tb, S, h1, ⟨h2, h3, h3.size, h5⟩, h3⟩
/-- New of no pairs. -/
theorem new_none {m : Nat} {w : World} (h4 : 4 ≤ m) (hm : m ≤ 64) : Calls Try.prog 11 #[.int .i64 m, .slice none 0 0] w fun e w' => ∃ tb S, e = .returned (.tuple #[.pointer (some ⟨tb, 0, none⟩), .int .i64 0]) ∧ Mi w.heap.size w m w' tb S [] ∧ Below w.heap.size w w' :=
  new_own (l := []) (A := none) h4 hm (fun i p hi => by simp at hi) (Nat.le_refl _) (by decide) List.Pairwise.nil
theorem new_wrong {m : Int} {w : World} {A : Option Addr} {n c : Nat} (hb : m < 4 ∨ 64 < m) : Calls Try.prog 11 #[.int .i64 m, .slice A n c] w fun e w' => e = .returned (.tuple #[.pointer none, .int .i64 70]) ∧ Below w.heap.size w w' :=
  (new_bad (l := []) hb).mono (fun e w' h9 => by unfold NewP at h9; rw [if_pos hb] at h9; exact h9)
theorem Mi.base_on {B B' m tb : Nat} {w0 w0' w : World} {S : List Nat} {l : List KV} (h : Mi B' w0' m w tb S l) (hb : Below B w0 w0') (hB : B ≤ B') : Mi B w0 m w tb S l :=
  ⟨h.tr, hb.trans (h.below.mono hB), Nat.le_trans hB h.base, fun k hk => Nat.le_trans hB (h.own k hk)⟩
set_option maxRecDepth 100000 in
set_option maxHeartbeats 8000000 in
theorem awake_calls (w : World) : Calls Try.prog 10 #[] w fun e w' => e = .returned (.bool true) ∧ Below w.heap.size w w' := by
  have c1 : Calls Try.prog 11 #[.int .i64 4, .slice (some ⟨w.heap.size, 0, none⟩) 2 2] (w.alloc (.cells #[.string ⟨#[97]⟩, .string ⟨#[49]⟩, .string ⟨#[98]⟩, .string ⟨#[]⟩] 40)) fun e w' => ∃ tb S, e = .returned (.tuple #[.pointer (some ⟨tb, 0, none⟩), .int .i64 0]) ∧ Mi w.heap.size w 4 w' tb S [awA, awB] :=
    (new_own (m := 4) (l := [awA, awB]) (by decide) (by decide) (src_two (blk_new w _)) (Nat.le_refl _) (by decide) aw_rises).mono (fun e w' ⟨tb, S, h1, h2, h3⟩ => ⟨tb, S, h1, h2.base_on (below_alloc (Below.refl _ _) _) (by simp)⟩)
  have c2 : Aside0 (∀ w1, _) := ⟨fun w1 => new_wrong (m := 3) (w := w1) (A := none) (n := 0) (c := 0) (.inl (by decide))⟩
  have c3 : Aside0 (∀ w1 tb S, Mi w.heap.size w 4 w1 tb S [awA, awB] → Calls Try.prog 18 #[.pointer (some ⟨tb, 0, none⟩), .string ⟨#[97]⟩, .string ⟨#[50]⟩] w1 fun e w' => e = .returned (.tuple #[.string ⟨#[49]⟩, .bool true]) ∧ ∃ S', Mi w.heap.size w 4 w' tb S' [awA2, awB]) := ⟨fun w1 tb S h => (h.put [97] ⟨#[50]⟩ (by decide) (by decide) (by decide)).mono (fun e w' ⟨h1, S', h2, h3⟩ => ⟨by rw [h1, aw_get]; rfl, S', by rw [← aw_put]; exact h2⟩)⟩
  have c4 : Aside0 (∀ w1 tb S, Mi w.heap.size w 4 w1 tb S [awA2, awB] → Calls Try.prog 17 #[.pointer (some ⟨tb, 0, none⟩), .string ⟨#[99]⟩] w1 fun e w' => e = .returned (.tuple #[.string ⟨#[]⟩, .bool false]) ∧ ∃ S', Mi w.heap.size w 4 w' tb S' [awA2, awB]) := ⟨fun w1 tb S h => (h.del [99] (by decide) (by decide) (by decide)).mono (fun e w' ⟨h1, S', h2, h3⟩ => ⟨by rw [h1, aw_none]; rfl, S', by rw [aw_del] at h2; exact h2⟩)⟩
  have c5 : Aside0 (∀ w1 tb S, Mi w.heap.size w 4 w1 tb S [awA2, awB] → Calls Try.prog 13 #[.pointer (some ⟨tb, 0, none⟩), .string ⟨#[]⟩, .string ⟨#[]⟩, .int .i64 9] w1 fun e w' => ∃ v, e = .returned v ∧ RowP w' v [awA2, awB] ∧ Below w1.heap.size w1 w' ∧ ∀ k ∈ v.ownBlock.toList, w1.heap.size ≤ k) := ⟨fun w1 tb S h => (listTree_calls [] [] 9 (by decide) (by decide) h.tr).mono (fun e w' ⟨v, h1, h2, h3⟩ => ⟨v, h1, by rw [aw_list] at h2; exact h2, h3⟩)⟩
  have c6 : Aside0 (∀ w1 tb S, Mi w.heap.size w 4 w1 tb S [awA2, awB] → Calls Try.prog 20 #[.pointer (some ⟨tb, 0, none⟩)] w1 fun e w' => e = .returned (.int .i64 2) ∧ w' = w1) := ⟨fun w1 tb S h => lenTree_calls h.tr⟩
  have c7 : Aside0 (∀ w1 tb, Calls Try.prog 14 #[.pointer (some ⟨tb, 0, none⟩), .string ⟨#[97, 97]⟩] w1 fun e w' => e = .returned (.pointer (some ⟨w1.heap.size, 0, none⟩)) ∧ w' = w1.alloc (.cells #[.pointer (some ⟨tb, 0, none⟩), .string ⟨#[97, 97]⟩] 85)) := ⟨fun w1 tb => seek_calls _⟩
  have c8 : Aside0 (∀ w1 tb S cb, Mi w.heap.size w 4 w1 tb S [awA2, awB] → w1.heap[cb]? = some (.cells #[.pointer (some ⟨tb, 0, none⟩), .string ⟨#[97, 97]⟩] 85 (0, 0)) → Calls Try.prog 15 #[.pointer (some ⟨cb, 0, none⟩)] w1 fun e w' => e = .returned (.tuple #[.string ⟨#[98]⟩, .string ⟨#[]⟩, .bool true]) ∧ Fr [cb] w1 w') := ⟨fun w1 tb S cb h hc => (next_calls (frm := [97, 97]) (by decide) (by decide) (by decide) h.tr hc).mono (fun e w' h9 => by
    unfold NextP at h9
    rw [aw_from] at h9
    exact ⟨h9.1, h9.2.2⟩)⟩
  go_enter Try.func10, Try.ntmps10
  go_upto_region 2 with (go_at_call 11; refine c1.mono ?_; rintro e w1 ⟨tb, S1, rfl, hm⟩; have M1 := Aside0.mk hm; clear hm)
  go_upto_region 3 with (go_at_call 11; refine (c2.out _).mono ?_; rintro e w2 ⟨rfl, hb⟩; have M2 := Aside0.mk (M1.out.on hb); clear hb M1)
  go_upto_region 6 with (go_at_call 18; refine (c3.out _ _ _ M2.out).mono ?_; rintro e w3 ⟨rfl, S3, hm⟩; have M3 := Aside0.mk hm; clear hm M2)
  go_upto_region 7 with (go_at_call 17; refine (c4.out _ _ _ M3.out).mono ?_; rintro e w4 ⟨rfl, S4, hm⟩; have M4 := Aside0.mk hm; clear hm M3)
  go_upto_region 8 with (go_at_call 13; refine (c5.out _ _ _ M4.out).mono ?_; rintro e w5 ⟨v, rfl, hr, hb, hv⟩; have R5 := Aside0.mk (And.intro hr hv); have M5 := Aside0.mk (M4.out.on hb); clear hr hb hv M4)
  go_upto_region 9 with (go_at_call 20; refine (c6.out _ _ _ M5.out).mono ?_; rintro e w6 ⟨rfl, rfl⟩)
  obtain ⟨g, c, rfl, z0, z1, zf⟩ := RowP.at R5.out.1 (i := 0) (p := awA2) rfl
  have hg : g < w6.heap.size := World.block_lt_of_cell? _ _ z0
  have Z := Aside0.mk (And.intro z0 (And.intro z1 hg))
  clear z0 z1 zf hg
  go_upto_region 10 with (go_at_call 14; refine (c7.out _ _).mono ?_; rintro e w7 ⟨rfl, rfl⟩)
  obtain ⟨W, hW⟩ : ∃ W, w6.alloc (.cells #[.pointer (some ⟨tb, 0, none⟩), .string ⟨#[97, 97]⟩] 85) = W := ⟨_, rfl⟩
  have HW : Aside0 (Mi w.heap.size w 4 W tb S4 [awA2, awB] ∧ W.heap[w6.heap.size]? = some (.cells #[.pointer (some ⟨tb, 0, none⟩), .string ⟨#[97, 97]⟩] 85 (0, 0)) ∧ Below w6.heap.size w6 W) := ⟨by rw [← hW]; exact ⟨M5.out.on (below_alloc (Below.refl _ _) _), blk_new _ _, below_alloc (Below.refl _ _) _⟩⟩
  obtain ⟨cb, hcb⟩ : ∃ cb, w6.heap.size = cb := ⟨_, rfl⟩
  rw [hW]
  rw [hcb] at HW Z ⊢
  have hbase : w.heap.size ≤ cb := by rw [← hcb]; exact M5.out.base
  have HB := Aside0.mk hbase
  clear hW hcb hbase
  go_upto_region 13 with (go_at_call 15; refine (c8.out _ _ _ _ HW.out.1 HW.out.2.1).mono ?_; rintro e w8 ⟨rfl, hf⟩; have F8 := Aside0.mk hf; clear hf)
  have hgc : g ∉ [cb] := by have := Z.out.2.2; simp; omega
  obtain ⟨o, ho⟩ : ∃ o, w6.heap[g]? = some o := ⟨_, Array.getElem?_eq_getElem (by have := World.block_lt_of_cell? _ _ Z.out.1; exact this)⟩
  have hoW : W.heap[g]? = some o := (HW.out.2.2.block g Z.out.2.2).trans ho
  have ho8 := F8.out.blk hoW hgc
  have y0 : w8.cell? ⟨g, 0, none⟩ = some (.string ⟨#[97]⟩) := by
    have := Z.out.1
    unfold World.cell? at this ⊢
    simp only [ho, ho8] at this ⊢
    exact this
  have y1 : w8.cell? ⟨g, 1, none⟩ = some (.string ⟨#[50]⟩) := by
    have := Z.out.2.1
    unfold World.cell? at this ⊢
    simp only [ho, ho8] at this ⊢
    exact this
  have HE : Aside0 (Below w.heap.size w w8) := ⟨HW.out.1.below.trans (F8.out.below_base (fun x hx => by simp at hx; rw [hx]; exact HB.out) HW.out.1.base)⟩
  clear hgc ho hoW ho8
  go_wp2
  go_ret
  exact ⟨rfl, HE.out⟩
end Go.Proofs.YtmomohljnmopfaaX
end
