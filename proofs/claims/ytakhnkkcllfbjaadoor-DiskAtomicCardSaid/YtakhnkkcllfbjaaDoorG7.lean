/- DiskAtomic: the walk. -/
import Derived.Test.YtakhnkkcllfbjaaDoorG6
namespace Go.Proofs.YtakhnkkcllfbjaaDoorX
open Go.RowKit Go.Proofs.YtakhnkkcllfbjaaDoorW.PrintWords Go.Proofs.YtakhnkkcllfbjaaDoorW.PrintLast Go.Proofs.YtakhnkkcllfbjaaDoorW.PrintMore
open Go.Proofs.YtakhnkkcllfbjaaDoor.PA (S37 k37 z37 k37_mk)
set_option linter.unusedVariables false
set_option linter.unusedSimpArgs false
theorem one_row (w : World) (x : S37) : Kd.C k37 (w.alloc (.cells #[.string x.f0, .string x.f1, .int .i64 x.f2] 37)) (some ⟨w.heap.size, 0, none⟩) 1 [x] := by
  obtain ⟨q0, q1, q2⟩ := file_box (blk_new w (.cells #[.string x.f0, .string x.f1, .int .i64 x.f2] 37))
  refine ⟨rfl, by decide, fun _ => ⟨_, rfl, fun j p hj => ?_⟩⟩
  have hj0 : j = 0 := by
    have := (List.getElem?_eq_some_iff.1 hj).1
    simp at this
    exact this
  subst hj0
  obtain rfl : x = p := by simpa using hj
  refine ⟨_, rfl, k37_mk _ x, fun i u hi => ?_⟩
  rcases i with _ | _ | _ | i
  · obtain rfl := Option.some.inj hi
    exact q0
  · obtain rfl := Option.some.inj hi
    exact q1
  · obtain rfl := Option.some.inj hi
    exact q2
  · cases hi
theorem swap_box {w1 : World} {gb : Nat} {x0 x1 : ByteArray} {x2 : Int} {v : Value} (h : w1.heap[gb]? = some (.cells #[.string x0, .string x1, .int .i64 x2, v] 41 (0, 0))) :
    w1.cell? ⟨gb, 0, none⟩ = some (.string x0) ∧ w1.cell? ⟨gb, 1, none⟩ = some (.string x1) ∧ w1.cell? ⟨gb, 2, none⟩ = some (.int .i64 x2) ∧ w1.cell? ⟨gb, 3, none⟩ = some v :=
  ⟨(blk_cell h 0).trans rfl, (blk_cell h 1).trans rfl, (blk_cell h 2).trans rfl, (blk_cell h 3).trans rfl⟩
set_option maxRecDepth 100000 in
set_option maxHeartbeats 8000000 in
theorem Atomic_calls (old fresh : ByteArray) (fall : Int) (A : Option Addr) (c : Nat) (keep : List Int) (w : World) (hwf : (Lit.int .i64 fall).wf = true) (hc : keep.length ≤ c) (hkm : keep.length ≤ maxLen) (hr : (Kd.int .i64).C w A keep.length keep) :
    Calls Tryd.prog 4 #[.agg #[.string old, .string fresh, .int .i64 fall, .slice A keep.length c]] w fun e w' => e = .returned (.bool true) ∧ Below w.heap.size w w' := by
  have R0 := Aside0.mk hr
  have HC := Aside0.mk hc
  have hu := Tryd.underlying41
  have hu37 := Tryd.underlying37
  have HF : Aside0 (fall ≤ 9223372036854775807) := ⟨by
    have := hwf
    simp [Lit.wf] at this
    omega⟩
  clear hr hc hwf hkm
  by_cases h1 : 100000 < old.size
  · have e1 : decide ((100000 : Int) < (old.size : Int)) = true := decide_eq_true (by omega)
    have e1' : decide (100000 < old.size) = true := decide_eq_true h1
    clear h1
    go_enter Tryd.func4, Tryd.ntmps4
    go_wp2_with (((with_reducible refine gate_dst (N := 1) rfl ?_); refine box_event ?hg (N := 1) ?hd (cs := #[.string old, .string fresh, .int .i64 fall, .slice A keep.length c]) (t := 41) ?hr ?_; (case hd => rfl); (case hg => rfl); (case hr => first | (go_simp; done) | (go_simp; rfl)); intro gb hg w1 hbox hb; have B1 := Aside0.mk hb; obtain ⟨q0, q1, q2, q3⟩ := swap_box hbox; clear hb hbox hg))
    go_ret
    exact ⟨rfl, B1.out⟩
  have e1 : decide ((100000 : Int) < (old.size : Int)) = false := decide_eq_false (by omega)
  have e1' : decide (100000 < old.size) = false := decide_eq_false h1
  by_cases h2 : 100000 < fresh.size
  · have e2 : decide ((100000 : Int) < (fresh.size : Int)) = true := decide_eq_true (by omega)
    have e2' : decide (100000 < fresh.size) = true := decide_eq_true h2
    clear h1 h2
    go_enter Tryd.func4, Tryd.ntmps4
    go_wp2_with (((with_reducible refine gate_dst (N := 1) rfl ?_); refine box_event ?hg (N := 1) ?hd (cs := #[.string old, .string fresh, .int .i64 fall, .slice A keep.length c]) (t := 41) ?hr ?_; (case hd => rfl); (case hg => rfl); (case hr => first | (go_simp; done) | (go_simp; rfl)); intro gb hg w1 hbox hb; have B1 := Aside0.mk hb; obtain ⟨q0, q1, q2, q3⟩ := swap_box hbox; clear hb hbox hg))
    go_ret
    exact ⟨rfl, B1.out⟩
  have e2 : decide ((100000 : Int) < (fresh.size : Int)) = false := decide_eq_false (by omega)
  have e2' : decide (100000 < fresh.size) = false := decide_eq_false h2
  by_cases h3 : 2147483647 < keep.length
  · have e3 : decide ((2147483647 : Int) < (keep.length : Int)) = true := decide_eq_true (by omega)
    have e3' : decide (2147483647 < keep.length) = true := decide_eq_true h3
    clear h1 h2 h3
    go_enter Tryd.func4, Tryd.ntmps4
    go_wp2_with (((with_reducible refine gate_dst (N := 1) rfl ?_); refine box_event ?hg (N := 1) ?hd (cs := #[.string old, .string fresh, .int .i64 fall, .slice A keep.length c]) (t := 41) ?hr ?_; (case hd => rfl); (case hg => rfl); (case hr => first | (go_simp; done) | (go_simp; rfl)); intro gb hg w1 hbox hb; have B1 := Aside0.mk hb; obtain ⟨q0, q1, q2, q3⟩ := swap_box hbox; clear hb hbox hg))
    go_ret
    exact ⟨rfl, B1.out⟩
  have e3 : decide ((2147483647 : Int) < (keep.length : Int)) = false := decide_eq_false (by omega)
  have e3' : decide (2147483647 < keep.length) = false := decide_eq_false h3
  have HO : Aside0 (old.size ≤ 100000 ∧ fresh.size ≤ 100000 ∧ keep.length ≤ 2147483647) := ⟨by omega, by omega, by omega⟩
  have cA : Aside0 (∀ w1, Calls Tryd.prog 8 #[] w1 fun e w' => e = .returned (.bool true) ∧ Below w1.heap.size w1 w') := ⟨awake_calls⟩
  have cN : Aside0 (∀ w2, Below w.heap.size w w2 → Calls Tryd.prog 9 #[.int .i64 1048576, .slice (some ⟨w2.heap.size, 0, none⟩) 1 1] (w2.alloc (.cells #[.string ⟨#[97]⟩, .string old, .int .i64 (old.size : Int)] 37)) fun e w' => ∃ a S, e = .returned (.tuple #[.pointer (some ⟨a, 0, none⟩), .int .i64 0]) ∧ Mine w.heap.size w w' a S (atD (oldL old) (-1) 0)) := ⟨fun w2 hb => by
    have hb2 : Below w.heap.size w (w2.alloc (.cells #[.string ⟨#[97]⟩, .string old, .int .i64 (old.size : Int)] 37)) := below_alloc hb _
    obtain ⟨k1, k2⟩ := new_one HO.out.1
    refine (M_newL (l := [⟨⟨#[97]⟩, old, old.size⟩]) 1048576 _ 1 hb2 hb2.size (one_row w2 ⟨⟨#[97]⟩, old, old.size⟩) (fun x hx => by obtain rfl := List.mem_singleton.1 hx; exact ⟨by show 1 ≤ maxLen; decide, by have := HO.out.1; simp only [maxLen]; show old.size ≤ _; omega⟩) (by show 1 ≤ 140737488351232; decide)).mono ?_
    rintro e w' (⟨h9, _⟩ | ⟨_, a, S, rfl, hm, _⟩)
    · exact absurd k1 h9
    · rw [k2] at hm
      exact ⟨a, S, rfl, hm⟩⟩
  clear h1 h2 h3
  by_cases hf : fall < 0
  · have e4 : decide (0 ≤ fall) = false := decide_eq_false (by omega)
    have C0 : Aside0 (∀ {w1 : World} {a : Nat} {S : List Nat}, Mine w.heap.size w w1 a S (atD (oldL old) (-1) 0) → Calls Tryd.prog 10 #[.pointer (some ⟨a, 0, none⟩), .string ⟨#[98]⟩, .string fresh] w1 fun e w' => e = .returned (.int .i64 0) ∧ ∃ S', Mine w.heap.size w w' a S' (atD (bothL old fresh 0) (-1) (wrap64 (0 + 1)))) := ⟨fun hm => by
              have h9 := M_append hm ⟨#[98]⟩ fresh (by decide)
              rw [show (atD (oldL old) (-1) 0).append (⟨#[98]⟩ : ByteArray).data.toList fresh = (atD (bothL old fresh 0) (-1) (wrap64 (0 + 1)), 0) from by rw [show (atD (oldL old) (-1) 0).append (⟨#[98]⟩ : ByteArray).data.toList fresh = _ from at_append HO.out.1 HO.out.2.1, if_neg (by omega)]; unfold AD.tick atD; rfl] at h9
              exact h9.mono (fun e w' ⟨k1, S', k2, _⟩ => ⟨k1, S', k2⟩)⟩
    have C1 : Aside0 (∀ {w1 : World} {a : Nat} {S : List Nat}, Mine w.heap.size w w1 a S (atD (bothL old fresh 0) (-1) (wrap64 (0 + 1))) → Calls Tryd.prog 11 #[.pointer (some ⟨a, 0, none⟩), .string ⟨#[98]⟩] w1 fun e w' => e = .returned (.int .i64 0) ∧ ∃ S', Mine w.heap.size w w' a S' (atD (bothL old fresh fresh.size) (-1) (wrap64 ((wrap64 (0 + 1)) + 1)))) := ⟨fun hm => by
              have h9 := M_sync hm ⟨#[98]⟩ (by decide)
              rw [show (atD (bothL old fresh 0) (-1) (wrap64 (0 + 1))).sync (⟨#[98]⟩ : ByteArray).data.toList = (atD (bothL old fresh fresh.size) (-1) (wrap64 ((wrap64 (0 + 1)) + 1)), 0) from by rw [show (atD (bothL old fresh 0) (-1) (wrap64 (0 + 1))).sync (⟨#[98]⟩ : ByteArray).data.toList = _ from at_sync, if_neg (by omega)]; unfold AD.tick atD; rfl] at h9
              exact h9.mono (fun e w' ⟨k1, S', k2, _⟩ => ⟨k1, S', k2⟩)⟩
    have C2 : Aside0 (∀ {w1 : World} {a : Nat} {S : List Nat}, Mine w.heap.size w w1 a S (atD (bothL old fresh fresh.size) (-1) (wrap64 ((wrap64 (0 + 1)) + 1))) → Calls Tryd.prog 16 #[.pointer (some ⟨a, 0, none⟩), .string ⟨#[98]⟩, .string ⟨#[97]⟩] w1 fun e w' => e = .returned (.int .i64 0) ∧ ∃ S', Mine w.heap.size w w' a S' (atD ([⟨[97], fresh, fresh.size⟩]) (-1) (wrap64 ((wrap64 ((wrap64 (0 + 1)) + 1)) + 1)))) := ⟨fun hm => by
              have h9 := M_rename hm ⟨#[98]⟩ ⟨#[97]⟩ (by decide) (by decide)
              rw [show (atD (bothL old fresh fresh.size) (-1) (wrap64 ((wrap64 (0 + 1)) + 1))).rename (⟨#[98]⟩ : ByteArray).data.toList (⟨#[97]⟩ : ByteArray).data.toList = (atD ([⟨[97], fresh, fresh.size⟩]) (-1) (wrap64 ((wrap64 ((wrap64 (0 + 1)) + 1)) + 1)), 0) from by rw [show (atD (bothL old fresh fresh.size) (-1) (wrap64 ((wrap64 (0 + 1)) + 1))).rename (⟨#[98]⟩ : ByteArray).data.toList (⟨#[97]⟩ : ByteArray).data.toList = _ from at_rename, if_neg (by omega)]; unfold AD.tick atD; rfl] at h9
              exact h9.mono (fun e w' ⟨k1, S', k2, _⟩ => ⟨k1, S', k2⟩)⟩
    have C3 : Aside0 (∀ {w1 : World} {a : Nat} {S : List Nat}, Mine w.heap.size w w1 a S (atD ([⟨[97], fresh, fresh.size⟩]) (-1) (wrap64 ((wrap64 ((wrap64 (0 + 1)) + 1)) + 1))) → Calls Tryd.prog 17 #[.pointer (some ⟨a, 0, none⟩), .slice A keep.length c] w1 fun e w' => e = .returned (.tuple #[]) ∧ ∃ S', Mine w.heap.size w w' a S' ((atD ([⟨[97], fresh, fresh.size⟩]) (-1) (wrap64 ((wrap64 ((wrap64 (0 + 1)) + 1)) + 1))).crash keep)) := ⟨fun hm => (M_crash hm A c keep (keeps_in hm R0.out) HC.out (by have := HO.out.2.2; omega)).mono (fun e w' ⟨k1, S', k2, _⟩ => ⟨k1, S', k2⟩)⟩
    have C4 : Aside0 (∀ {w1 : World} {a : Nat} {S : List Nat}, Mine w.heap.size w w1 a S ((atD ([⟨[97], fresh, fresh.size⟩]) (-1) (wrap64 ((wrap64 ((wrap64 (0 + 1)) + 1)) + 1))).crash keep) → Calls Tryd.prog 14 #[.pointer (some ⟨a, 0, none⟩), .string ⟨#[97]⟩] w1 fun e w' => e = .returned (.tuple #[.string fresh, .int .i64 0]) ∧ Mine w.heap.size w w' a S ((atD ([⟨[97], fresh, fresh.size⟩]) (-1) (wrap64 ((wrap64 ((wrap64 (0 + 1)) + 1)) + 1))).crash keep)) := ⟨fun hm => by
              have h9 := M_read hm ⟨#[97]⟩ (by decide)
              rw [show ((atD ([⟨[97], fresh, fresh.size⟩]) (-1) (wrap64 ((wrap64 ((wrap64 (0 + 1)) + 1)) + 1))).crash keep).read (⟨#[97]⟩ : ByteArray).data.toList = (fresh, 0) from crash_read (r := _) rfl rfl (by decide) keep] at h9
              exact h9.mono (fun e w' ⟨k1, k2, _⟩ => ⟨k1, k2⟩)⟩
    clear hf
    go_enter Tryd.func4, Tryd.ntmps4
    go_wp2_with (first
      | ((with_reducible refine gate_dst (N := 1) rfl ?_); refine box_event ?hg (N := 1) ?hd (cs := #[.string old, .string fresh, .int .i64 fall, .slice A keep.length c]) (t := 41) ?hr ?_; (case hd => rfl); (case hg => rfl); (case hr => first | (go_simp; done) | (go_simp; rfl)); intro gb hg w1 hbox hb; have B1 := Aside0.mk hb; obtain ⟨q0, q1, q2, q3⟩ := swap_box hbox; clear hb hbox hg)
      | (go_at_call 8; refine (cA.out _).mono ?_; rintro e w2 ⟨rfl, hb2⟩; have B2 := Aside0.mk (B1.out.trans (hb2.mono B1.out.size)); have cN2 := cN.out w2 B2.out; clear hb2 cA)
      | (go_at_call 9; refine cN2.mono ?_; rintro e w3 ⟨a, S3, rfl, hm⟩; have c0 := C0.out hm; clear hm cN2 cN)
      | (go_at_call 10; refine c0.mono ?_; rintro e w4 ⟨rfl, S4, hm⟩; have c1 := C1.out hm; clear hm c0)
      | (go_at_call 11; refine c1.mono ?_; rintro e w5 ⟨rfl, S5, hm⟩; have c2 := C2.out hm; clear hm c1)
      | (go_at_call 16; refine c2.mono ?_; rintro e w6 ⟨rfl, S6, hm⟩; have c3 := C3.out hm; clear hm c2)
      | (go_at_call 17; refine c3.mono ?_; rintro e w7 ⟨rfl, S7, hm⟩; have c4 := C4.out hm; clear hm c3)
      | (go_at_call 14; refine c4.mono ?_; rintro e w8 ⟨rfl, hm⟩; have ML := Aside0.mk hm; clear hm c4))
    go_ret
    exact ⟨rfl, ML.out.below⟩
  have e4 : decide (0 ≤ fall) = true := decide_eq_true (by omega)
  by_cases hf0 : fall = 0
  · subst hf0
    have C0 : Aside0 (∀ {w1 : World} {a : Nat} {S : List Nat}, Mine w.heap.size w w1 a S (atD (oldL old) (-1) 0) → Calls Tryd.prog 15 #[.pointer (some ⟨a, 0, none⟩), .int .i64 0] w1 fun e w' => e = .returned (.int .i64 0) ∧ ∃ S', Mine w.heap.size w w' a S' (atD (oldL old) 0 0)) := ⟨fun hm => by
              have h9 := M_arm hm 0 (by have := HF.out; omega)
              rw [show (atD (oldL old) (-1) 0).arm 0 = (atD (oldL old) 0 0, 0) from by unfold AD.arm; rw [if_neg (by omega), if_neg (by show ¬ false = true; decide)]; rfl] at h9
              exact h9.mono (fun e w' ⟨k1, S', k2, _⟩ => ⟨k1, S', k2⟩)⟩
    have C1 : Aside0 (∀ {w1 : World} {a : Nat} {S : List Nat}, Mine w.heap.size w w1 a S (atD (oldL old) 0 0) → Calls Tryd.prog 10 #[.pointer (some ⟨a, 0, none⟩), .string ⟨#[98]⟩, .string fresh] w1 fun e w' => e = .returned (.int .i64 3) ∧ ∃ S', Mine w.heap.size w w' a S' ((atD (oldL old) 0 0).fall)) := ⟨fun hm => by
              have h9 := M_append hm ⟨#[98]⟩ fresh (by decide)
              rw [show (atD (oldL old) 0 0).append (⟨#[98]⟩ : ByteArray).data.toList fresh = ((atD (oldL old) 0 0).fall, 3) from by rw [show (atD (oldL old) 0 0).append (⟨#[98]⟩ : ByteArray).data.toList fresh = _ from at_append HO.out.1 HO.out.2.1]; exact if_pos (by omega)] at h9
              exact h9.mono (fun e w' ⟨k1, S', k2, _⟩ => ⟨k1, S', k2⟩)⟩
    have C2 : Aside0 (∀ {w1 : World} {a : Nat} {S : List Nat}, Mine w.heap.size w w1 a S ((atD (oldL old) 0 0).fall) → Calls Tryd.prog 17 #[.pointer (some ⟨a, 0, none⟩), .slice A keep.length c] w1 fun e w' => e = .returned (.tuple #[]) ∧ ∃ S', Mine w.heap.size w w' a S' (((atD (oldL old) 0 0).fall).crash keep)) := ⟨fun hm => (M_crash hm A c keep (keeps_in hm R0.out) HC.out (by have := HO.out.2.2; omega)).mono (fun e w' ⟨k1, S', k2, _⟩ => ⟨k1, S', k2⟩)⟩
    have C3 : Aside0 (∀ {w1 : World} {a : Nat} {S : List Nat}, Mine w.heap.size w w1 a S (((atD (oldL old) 0 0).fall).crash keep) → Calls Tryd.prog 14 #[.pointer (some ⟨a, 0, none⟩), .string ⟨#[97]⟩] w1 fun e w' => e = .returned (.tuple #[.string old, .int .i64 0]) ∧ Mine w.heap.size w w' a S (((atD (oldL old) 0 0).fall).crash keep)) := ⟨fun hm => by
              have h9 := M_read hm ⟨#[97]⟩ (by decide)
              rw [show (((atD (oldL old) 0 0).fall).crash keep).read (⟨#[97]⟩ : ByteArray).data.toList = (old, 0) from crash_read (r := _) rfl rfl (by decide) keep] at h9
              exact h9.mono (fun e w' ⟨k1, k2, _⟩ => ⟨k1, k2⟩)⟩
    clear hf
    go_enter Tryd.func4, Tryd.ntmps4
    go_wp2_with (first
      | ((with_reducible refine gate_dst (N := 1) rfl ?_); refine box_event ?hg (N := 1) ?hd (cs := #[.string old, .string fresh, .int .i64 0, .slice A keep.length c]) (t := 41) ?hr ?_; (case hd => rfl); (case hg => rfl); (case hr => first | (go_simp; done) | (go_simp; rfl)); intro gb hg w1 hbox hb; have B1 := Aside0.mk hb; obtain ⟨q0, q1, q2, q3⟩ := swap_box hbox; clear hb hbox hg)
      | (go_at_call 8; refine (cA.out _).mono ?_; rintro e w2 ⟨rfl, hb2⟩; have B2 := Aside0.mk (B1.out.trans (hb2.mono B1.out.size)); have cN2 := cN.out w2 B2.out; clear hb2 cA)
      | (go_at_call 9; refine cN2.mono ?_; rintro e w3 ⟨a, S3, rfl, hm⟩; have c0 := C0.out hm; clear hm cN2 cN)
      | (go_at_call 15; refine c0.mono ?_; rintro e w4 ⟨rfl, S4, hm⟩; have c1 := C1.out hm; clear hm c0)
      | (go_at_call 10; refine c1.mono ?_; rintro e w5 ⟨rfl, S5, hm⟩; have c2 := C2.out hm; clear hm c1)
      | (go_at_call 17; refine c2.mono ?_; rintro e w6 ⟨rfl, S6, hm⟩; have c3 := C3.out hm; clear hm c2)
      | (go_at_call 14; refine c3.mono ?_; rintro e w7 ⟨rfl, hm⟩; have ML := Aside0.mk hm; clear hm c3))
    go_ret
    exact ⟨rfl, ML.out.below⟩
  by_cases hf1 : fall = 1
  · subst hf1
    have C0 : Aside0 (∀ {w1 : World} {a : Nat} {S : List Nat}, Mine w.heap.size w w1 a S (atD (oldL old) (-1) 0) → Calls Tryd.prog 15 #[.pointer (some ⟨a, 0, none⟩), .int .i64 1] w1 fun e w' => e = .returned (.int .i64 0) ∧ ∃ S', Mine w.heap.size w w' a S' (atD (oldL old) 1 0)) := ⟨fun hm => by
              have h9 := M_arm hm 1 (by have := HF.out; omega)
              rw [show (atD (oldL old) (-1) 0).arm 1 = (atD (oldL old) 1 0, 0) from by unfold AD.arm; rw [if_neg (by omega), if_neg (by show ¬ false = true; decide)]; rfl] at h9
              exact h9.mono (fun e w' ⟨k1, S', k2, _⟩ => ⟨k1, S', k2⟩)⟩
    have C1 : Aside0 (∀ {w1 : World} {a : Nat} {S : List Nat}, Mine w.heap.size w w1 a S (atD (oldL old) 1 0) → Calls Tryd.prog 10 #[.pointer (some ⟨a, 0, none⟩), .string ⟨#[98]⟩, .string fresh] w1 fun e w' => e = .returned (.int .i64 0) ∧ ∃ S', Mine w.heap.size w w' a S' (atD (bothL old fresh 0) (1 - 1) (wrap64 (0 + 1)))) := ⟨fun hm => by
              have h9 := M_append hm ⟨#[98]⟩ fresh (by decide)
              rw [show (atD (oldL old) 1 0).append (⟨#[98]⟩ : ByteArray).data.toList fresh = (atD (bothL old fresh 0) (1 - 1) (wrap64 (0 + 1)), 0) from by rw [show (atD (oldL old) 1 0).append (⟨#[98]⟩ : ByteArray).data.toList fresh = _ from at_append HO.out.1 HO.out.2.1, if_neg (by omega)]; unfold AD.tick atD; rw [if_pos (by show 0 < 1; omega)]] at h9
              exact h9.mono (fun e w' ⟨k1, S', k2, _⟩ => ⟨k1, S', k2⟩)⟩
    have C2 : Aside0 (∀ {w1 : World} {a : Nat} {S : List Nat}, Mine w.heap.size w w1 a S (atD (bothL old fresh 0) (1 - 1) (wrap64 (0 + 1))) → Calls Tryd.prog 11 #[.pointer (some ⟨a, 0, none⟩), .string ⟨#[98]⟩] w1 fun e w' => e = .returned (.int .i64 3) ∧ ∃ S', Mine w.heap.size w w' a S' ((atD (bothL old fresh 0) (1 - 1) (wrap64 (0 + 1))).fall)) := ⟨fun hm => by
              have h9 := M_sync hm ⟨#[98]⟩ (by decide)
              rw [show (atD (bothL old fresh 0) (1 - 1) (wrap64 (0 + 1))).sync (⟨#[98]⟩ : ByteArray).data.toList = ((atD (bothL old fresh 0) (1 - 1) (wrap64 (0 + 1))).fall, 3) from by rw [show (atD (bothL old fresh 0) (1 - 1) (wrap64 (0 + 1))).sync (⟨#[98]⟩ : ByteArray).data.toList = _ from at_sync]; exact if_pos (by omega)] at h9
              exact h9.mono (fun e w' ⟨k1, S', k2, _⟩ => ⟨k1, S', k2⟩)⟩
    have C3 : Aside0 (∀ {w1 : World} {a : Nat} {S : List Nat}, Mine w.heap.size w w1 a S ((atD (bothL old fresh 0) (1 - 1) (wrap64 (0 + 1))).fall) → Calls Tryd.prog 17 #[.pointer (some ⟨a, 0, none⟩), .slice A keep.length c] w1 fun e w' => e = .returned (.tuple #[]) ∧ ∃ S', Mine w.heap.size w w' a S' (((atD (bothL old fresh 0) (1 - 1) (wrap64 (0 + 1))).fall).crash keep)) := ⟨fun hm => (M_crash hm A c keep (keeps_in hm R0.out) HC.out (by have := HO.out.2.2; omega)).mono (fun e w' ⟨k1, S', k2, _⟩ => ⟨k1, S', k2⟩)⟩
    have C4 : Aside0 (∀ {w1 : World} {a : Nat} {S : List Nat}, Mine w.heap.size w w1 a S (((atD (bothL old fresh 0) (1 - 1) (wrap64 (0 + 1))).fall).crash keep) → Calls Tryd.prog 14 #[.pointer (some ⟨a, 0, none⟩), .string ⟨#[97]⟩] w1 fun e w' => e = .returned (.tuple #[.string old, .int .i64 0]) ∧ Mine w.heap.size w w' a S (((atD (bothL old fresh 0) (1 - 1) (wrap64 (0 + 1))).fall).crash keep)) := ⟨fun hm => by
              have h9 := M_read hm ⟨#[97]⟩ (by decide)
              rw [show (((atD (bothL old fresh 0) (1 - 1) (wrap64 (0 + 1))).fall).crash keep).read (⟨#[97]⟩ : ByteArray).data.toList = (old, 0) from crash_read (r := _) rfl rfl (by decide) keep] at h9
              exact h9.mono (fun e w' ⟨k1, k2, _⟩ => ⟨k1, k2⟩)⟩
    clear hf
    go_enter Tryd.func4, Tryd.ntmps4
    go_wp2_with (first
      | ((with_reducible refine gate_dst (N := 1) rfl ?_); refine box_event ?hg (N := 1) ?hd (cs := #[.string old, .string fresh, .int .i64 1, .slice A keep.length c]) (t := 41) ?hr ?_; (case hd => rfl); (case hg => rfl); (case hr => first | (go_simp; done) | (go_simp; rfl)); intro gb hg w1 hbox hb; have B1 := Aside0.mk hb; obtain ⟨q0, q1, q2, q3⟩ := swap_box hbox; clear hb hbox hg)
      | (go_at_call 8; refine (cA.out _).mono ?_; rintro e w2 ⟨rfl, hb2⟩; have B2 := Aside0.mk (B1.out.trans (hb2.mono B1.out.size)); have cN2 := cN.out w2 B2.out; clear hb2 cA)
      | (go_at_call 9; refine cN2.mono ?_; rintro e w3 ⟨a, S3, rfl, hm⟩; have c0 := C0.out hm; clear hm cN2 cN)
      | (go_at_call 15; refine c0.mono ?_; rintro e w4 ⟨rfl, S4, hm⟩; have c1 := C1.out hm; clear hm c0)
      | (go_at_call 10; refine c1.mono ?_; rintro e w5 ⟨rfl, S5, hm⟩; have c2 := C2.out hm; clear hm c1)
      | (go_at_call 11; refine c2.mono ?_; rintro e w6 ⟨rfl, S6, hm⟩; have c3 := C3.out hm; clear hm c2)
      | (go_at_call 17; refine c3.mono ?_; rintro e w7 ⟨rfl, S7, hm⟩; have c4 := C4.out hm; clear hm c3)
      | (go_at_call 14; refine c4.mono ?_; rintro e w8 ⟨rfl, hm⟩; have ML := Aside0.mk hm; clear hm c4))
    go_ret
    exact ⟨rfl, ML.out.below⟩
  by_cases hf2 : fall = 2
  · subst hf2
    have C0 : Aside0 (∀ {w1 : World} {a : Nat} {S : List Nat}, Mine w.heap.size w w1 a S (atD (oldL old) (-1) 0) → Calls Tryd.prog 15 #[.pointer (some ⟨a, 0, none⟩), .int .i64 2] w1 fun e w' => e = .returned (.int .i64 0) ∧ ∃ S', Mine w.heap.size w w' a S' (atD (oldL old) 2 0)) := ⟨fun hm => by
              have h9 := M_arm hm 2 (by have := HF.out; omega)
              rw [show (atD (oldL old) (-1) 0).arm 2 = (atD (oldL old) 2 0, 0) from by unfold AD.arm; rw [if_neg (by omega), if_neg (by show ¬ false = true; decide)]; rfl] at h9
              exact h9.mono (fun e w' ⟨k1, S', k2, _⟩ => ⟨k1, S', k2⟩)⟩
    have C1 : Aside0 (∀ {w1 : World} {a : Nat} {S : List Nat}, Mine w.heap.size w w1 a S (atD (oldL old) 2 0) → Calls Tryd.prog 10 #[.pointer (some ⟨a, 0, none⟩), .string ⟨#[98]⟩, .string fresh] w1 fun e w' => e = .returned (.int .i64 0) ∧ ∃ S', Mine w.heap.size w w' a S' (atD (bothL old fresh 0) (2 - 1) (wrap64 (0 + 1)))) := ⟨fun hm => by
              have h9 := M_append hm ⟨#[98]⟩ fresh (by decide)
              rw [show (atD (oldL old) 2 0).append (⟨#[98]⟩ : ByteArray).data.toList fresh = (atD (bothL old fresh 0) (2 - 1) (wrap64 (0 + 1)), 0) from by rw [show (atD (oldL old) 2 0).append (⟨#[98]⟩ : ByteArray).data.toList fresh = _ from at_append HO.out.1 HO.out.2.1, if_neg (by omega)]; unfold AD.tick atD; rw [if_pos (by show 0 < 2; omega)]] at h9
              exact h9.mono (fun e w' ⟨k1, S', k2, _⟩ => ⟨k1, S', k2⟩)⟩
    have C2 : Aside0 (∀ {w1 : World} {a : Nat} {S : List Nat}, Mine w.heap.size w w1 a S (atD (bothL old fresh 0) (2 - 1) (wrap64 (0 + 1))) → Calls Tryd.prog 11 #[.pointer (some ⟨a, 0, none⟩), .string ⟨#[98]⟩] w1 fun e w' => e = .returned (.int .i64 0) ∧ ∃ S', Mine w.heap.size w w' a S' (atD (bothL old fresh fresh.size) ((2 - 1) - 1) (wrap64 ((wrap64 (0 + 1)) + 1)))) := ⟨fun hm => by
              have h9 := M_sync hm ⟨#[98]⟩ (by decide)
              rw [show (atD (bothL old fresh 0) (2 - 1) (wrap64 (0 + 1))).sync (⟨#[98]⟩ : ByteArray).data.toList = (atD (bothL old fresh fresh.size) ((2 - 1) - 1) (wrap64 ((wrap64 (0 + 1)) + 1)), 0) from by rw [show (atD (bothL old fresh 0) (2 - 1) (wrap64 (0 + 1))).sync (⟨#[98]⟩ : ByteArray).data.toList = _ from at_sync, if_neg (by omega)]; unfold AD.tick atD; rw [if_pos (by show 0 < (2 - 1); omega)]] at h9
              exact h9.mono (fun e w' ⟨k1, S', k2, _⟩ => ⟨k1, S', k2⟩)⟩
    have C3 : Aside0 (∀ {w1 : World} {a : Nat} {S : List Nat}, Mine w.heap.size w w1 a S (atD (bothL old fresh fresh.size) ((2 - 1) - 1) (wrap64 ((wrap64 (0 + 1)) + 1))) → Calls Tryd.prog 16 #[.pointer (some ⟨a, 0, none⟩), .string ⟨#[98]⟩, .string ⟨#[97]⟩] w1 fun e w' => e = .returned (.int .i64 3) ∧ ∃ S', Mine w.heap.size w w' a S' ((atD (bothL old fresh fresh.size) ((2 - 1) - 1) (wrap64 ((wrap64 (0 + 1)) + 1))).fall)) := ⟨fun hm => by
              have h9 := M_rename hm ⟨#[98]⟩ ⟨#[97]⟩ (by decide) (by decide)
              rw [show (atD (bothL old fresh fresh.size) ((2 - 1) - 1) (wrap64 ((wrap64 (0 + 1)) + 1))).rename (⟨#[98]⟩ : ByteArray).data.toList (⟨#[97]⟩ : ByteArray).data.toList = ((atD (bothL old fresh fresh.size) ((2 - 1) - 1) (wrap64 ((wrap64 (0 + 1)) + 1))).fall, 3) from by rw [show (atD (bothL old fresh fresh.size) ((2 - 1) - 1) (wrap64 ((wrap64 (0 + 1)) + 1))).rename (⟨#[98]⟩ : ByteArray).data.toList (⟨#[97]⟩ : ByteArray).data.toList = _ from at_rename]; exact if_pos (by omega)] at h9
              exact h9.mono (fun e w' ⟨k1, S', k2, _⟩ => ⟨k1, S', k2⟩)⟩
    have C4 : Aside0 (∀ {w1 : World} {a : Nat} {S : List Nat}, Mine w.heap.size w w1 a S ((atD (bothL old fresh fresh.size) ((2 - 1) - 1) (wrap64 ((wrap64 (0 + 1)) + 1))).fall) → Calls Tryd.prog 17 #[.pointer (some ⟨a, 0, none⟩), .slice A keep.length c] w1 fun e w' => e = .returned (.tuple #[]) ∧ ∃ S', Mine w.heap.size w w' a S' (((atD (bothL old fresh fresh.size) ((2 - 1) - 1) (wrap64 ((wrap64 (0 + 1)) + 1))).fall).crash keep)) := ⟨fun hm => (M_crash hm A c keep (keeps_in hm R0.out) HC.out (by have := HO.out.2.2; omega)).mono (fun e w' ⟨k1, S', k2, _⟩ => ⟨k1, S', k2⟩)⟩
    have C5 : Aside0 (∀ {w1 : World} {a : Nat} {S : List Nat}, Mine w.heap.size w w1 a S (((atD (bothL old fresh fresh.size) ((2 - 1) - 1) (wrap64 ((wrap64 (0 + 1)) + 1))).fall).crash keep) → Calls Tryd.prog 14 #[.pointer (some ⟨a, 0, none⟩), .string ⟨#[97]⟩] w1 fun e w' => e = .returned (.tuple #[.string old, .int .i64 0]) ∧ Mine w.heap.size w w' a S (((atD (bothL old fresh fresh.size) ((2 - 1) - 1) (wrap64 ((wrap64 (0 + 1)) + 1))).fall).crash keep)) := ⟨fun hm => by
              have h9 := M_read hm ⟨#[97]⟩ (by decide)
              rw [show (((atD (bothL old fresh fresh.size) ((2 - 1) - 1) (wrap64 ((wrap64 (0 + 1)) + 1))).fall).crash keep).read (⟨#[97]⟩ : ByteArray).data.toList = (old, 0) from crash_read (r := _) rfl rfl (by decide) keep] at h9
              exact h9.mono (fun e w' ⟨k1, k2, _⟩ => ⟨k1, k2⟩)⟩
    clear hf
    go_enter Tryd.func4, Tryd.ntmps4
    go_wp2_with (first
      | ((with_reducible refine gate_dst (N := 1) rfl ?_); refine box_event ?hg (N := 1) ?hd (cs := #[.string old, .string fresh, .int .i64 2, .slice A keep.length c]) (t := 41) ?hr ?_; (case hd => rfl); (case hg => rfl); (case hr => first | (go_simp; done) | (go_simp; rfl)); intro gb hg w1 hbox hb; have B1 := Aside0.mk hb; obtain ⟨q0, q1, q2, q3⟩ := swap_box hbox; clear hb hbox hg)
      | (go_at_call 8; refine (cA.out _).mono ?_; rintro e w2 ⟨rfl, hb2⟩; have B2 := Aside0.mk (B1.out.trans (hb2.mono B1.out.size)); have cN2 := cN.out w2 B2.out; clear hb2 cA)
      | (go_at_call 9; refine cN2.mono ?_; rintro e w3 ⟨a, S3, rfl, hm⟩; have c0 := C0.out hm; clear hm cN2 cN)
      | (go_at_call 15; refine c0.mono ?_; rintro e w4 ⟨rfl, S4, hm⟩; have c1 := C1.out hm; clear hm c0)
      | (go_at_call 10; refine c1.mono ?_; rintro e w5 ⟨rfl, S5, hm⟩; have c2 := C2.out hm; clear hm c1)
      | (go_at_call 11; refine c2.mono ?_; rintro e w6 ⟨rfl, S6, hm⟩; have c3 := C3.out hm; clear hm c2)
      | (go_at_call 16; refine c3.mono ?_; rintro e w7 ⟨rfl, S7, hm⟩; have c4 := C4.out hm; clear hm c3)
      | (go_at_call 17; refine c4.mono ?_; rintro e w8 ⟨rfl, S8, hm⟩; have c5 := C5.out hm; clear hm c4)
      | (go_at_call 14; refine c5.mono ?_; rintro e w9 ⟨rfl, hm⟩; have ML := Aside0.mk hm; clear hm c5))
    go_ret
    exact ⟨rfl, ML.out.below⟩
  have C0 : Aside0 (∀ {w1 : World} {a : Nat} {S : List Nat}, Mine w.heap.size w w1 a S (atD (oldL old) (-1) 0) → Calls Tryd.prog 15 #[.pointer (some ⟨a, 0, none⟩), .int .i64 fall] w1 fun e w' => e = .returned (.int .i64 0) ∧ ∃ S', Mine w.heap.size w w' a S' (atD (oldL old) fall 0)) := ⟨fun hm => by
              have h9 := M_arm hm fall (by have := HF.out; omega)
              rw [show (atD (oldL old) (-1) 0).arm fall = (atD (oldL old) fall 0, 0) from by unfold AD.arm; rw [if_neg (by omega), if_neg (by show ¬ false = true; decide)]; rfl] at h9
              exact h9.mono (fun e w' ⟨k1, S', k2, _⟩ => ⟨k1, S', k2⟩)⟩
  have C1 : Aside0 (∀ {w1 : World} {a : Nat} {S : List Nat}, Mine w.heap.size w w1 a S (atD (oldL old) fall 0) → Calls Tryd.prog 10 #[.pointer (some ⟨a, 0, none⟩), .string ⟨#[98]⟩, .string fresh] w1 fun e w' => e = .returned (.int .i64 0) ∧ ∃ S', Mine w.heap.size w w' a S' (atD (bothL old fresh 0) (fall - 1) (wrap64 (0 + 1)))) := ⟨fun hm => by
              have h9 := M_append hm ⟨#[98]⟩ fresh (by decide)
              rw [show (atD (oldL old) fall 0).append (⟨#[98]⟩ : ByteArray).data.toList fresh = (atD (bothL old fresh 0) (fall - 1) (wrap64 (0 + 1)), 0) from by rw [show (atD (oldL old) fall 0).append (⟨#[98]⟩ : ByteArray).data.toList fresh = _ from at_append HO.out.1 HO.out.2.1, if_neg (by omega)]; unfold AD.tick atD; rw [if_pos (by show 0 < fall; omega)]] at h9
              exact h9.mono (fun e w' ⟨k1, S', k2, _⟩ => ⟨k1, S', k2⟩)⟩
  have C2 : Aside0 (∀ {w1 : World} {a : Nat} {S : List Nat}, Mine w.heap.size w w1 a S (atD (bothL old fresh 0) (fall - 1) (wrap64 (0 + 1))) → Calls Tryd.prog 11 #[.pointer (some ⟨a, 0, none⟩), .string ⟨#[98]⟩] w1 fun e w' => e = .returned (.int .i64 0) ∧ ∃ S', Mine w.heap.size w w' a S' (atD (bothL old fresh fresh.size) ((fall - 1) - 1) (wrap64 ((wrap64 (0 + 1)) + 1)))) := ⟨fun hm => by
              have h9 := M_sync hm ⟨#[98]⟩ (by decide)
              rw [show (atD (bothL old fresh 0) (fall - 1) (wrap64 (0 + 1))).sync (⟨#[98]⟩ : ByteArray).data.toList = (atD (bothL old fresh fresh.size) ((fall - 1) - 1) (wrap64 ((wrap64 (0 + 1)) + 1)), 0) from by rw [show (atD (bothL old fresh 0) (fall - 1) (wrap64 (0 + 1))).sync (⟨#[98]⟩ : ByteArray).data.toList = _ from at_sync, if_neg (by omega)]; unfold AD.tick atD; rw [if_pos (by show 0 < (fall - 1); omega)]] at h9
              exact h9.mono (fun e w' ⟨k1, S', k2, _⟩ => ⟨k1, S', k2⟩)⟩
  have C3 : Aside0 (∀ {w1 : World} {a : Nat} {S : List Nat}, Mine w.heap.size w w1 a S (atD (bothL old fresh fresh.size) ((fall - 1) - 1) (wrap64 ((wrap64 (0 + 1)) + 1))) → Calls Tryd.prog 16 #[.pointer (some ⟨a, 0, none⟩), .string ⟨#[98]⟩, .string ⟨#[97]⟩] w1 fun e w' => e = .returned (.int .i64 0) ∧ ∃ S', Mine w.heap.size w w' a S' (atD ([⟨[97], fresh, fresh.size⟩]) (((fall - 1) - 1) - 1) (wrap64 ((wrap64 ((wrap64 (0 + 1)) + 1)) + 1)))) := ⟨fun hm => by
              have h9 := M_rename hm ⟨#[98]⟩ ⟨#[97]⟩ (by decide) (by decide)
              rw [show (atD (bothL old fresh fresh.size) ((fall - 1) - 1) (wrap64 ((wrap64 (0 + 1)) + 1))).rename (⟨#[98]⟩ : ByteArray).data.toList (⟨#[97]⟩ : ByteArray).data.toList = (atD ([⟨[97], fresh, fresh.size⟩]) (((fall - 1) - 1) - 1) (wrap64 ((wrap64 ((wrap64 (0 + 1)) + 1)) + 1)), 0) from by rw [show (atD (bothL old fresh fresh.size) ((fall - 1) - 1) (wrap64 ((wrap64 (0 + 1)) + 1))).rename (⟨#[98]⟩ : ByteArray).data.toList (⟨#[97]⟩ : ByteArray).data.toList = _ from at_rename, if_neg (by omega)]; unfold AD.tick atD; rw [if_pos (by show 0 < ((fall - 1) - 1); omega)]] at h9
              exact h9.mono (fun e w' ⟨k1, S', k2, _⟩ => ⟨k1, S', k2⟩)⟩
  have C4 : Aside0 (∀ {w1 : World} {a : Nat} {S : List Nat}, Mine w.heap.size w w1 a S (atD ([⟨[97], fresh, fresh.size⟩]) (((fall - 1) - 1) - 1) (wrap64 ((wrap64 ((wrap64 (0 + 1)) + 1)) + 1))) → Calls Tryd.prog 17 #[.pointer (some ⟨a, 0, none⟩), .slice A keep.length c] w1 fun e w' => e = .returned (.tuple #[]) ∧ ∃ S', Mine w.heap.size w w' a S' ((atD ([⟨[97], fresh, fresh.size⟩]) (((fall - 1) - 1) - 1) (wrap64 ((wrap64 ((wrap64 (0 + 1)) + 1)) + 1))).crash keep)) := ⟨fun hm => (M_crash hm A c keep (keeps_in hm R0.out) HC.out (by have := HO.out.2.2; omega)).mono (fun e w' ⟨k1, S', k2, _⟩ => ⟨k1, S', k2⟩)⟩
  have C5 : Aside0 (∀ {w1 : World} {a : Nat} {S : List Nat}, Mine w.heap.size w w1 a S ((atD ([⟨[97], fresh, fresh.size⟩]) (((fall - 1) - 1) - 1) (wrap64 ((wrap64 ((wrap64 (0 + 1)) + 1)) + 1))).crash keep) → Calls Tryd.prog 14 #[.pointer (some ⟨a, 0, none⟩), .string ⟨#[97]⟩] w1 fun e w' => e = .returned (.tuple #[.string fresh, .int .i64 0]) ∧ Mine w.heap.size w w' a S ((atD ([⟨[97], fresh, fresh.size⟩]) (((fall - 1) - 1) - 1) (wrap64 ((wrap64 ((wrap64 (0 + 1)) + 1)) + 1))).crash keep)) := ⟨fun hm => by
              have h9 := M_read hm ⟨#[97]⟩ (by decide)
              rw [show ((atD ([⟨[97], fresh, fresh.size⟩]) (((fall - 1) - 1) - 1) (wrap64 ((wrap64 ((wrap64 (0 + 1)) + 1)) + 1))).crash keep).read (⟨#[97]⟩ : ByteArray).data.toList = (fresh, 0) from crash_read (r := _) rfl rfl (by decide) keep] at h9
              exact h9.mono (fun e w' ⟨k1, k2, _⟩ => ⟨k1, k2⟩)⟩
  clear hf hf0 hf1 hf2
  go_enter Tryd.func4, Tryd.ntmps4
  go_wp2_with (first
    | ((with_reducible refine gate_dst (N := 1) rfl ?_); refine box_event ?hg (N := 1) ?hd (cs := #[.string old, .string fresh, .int .i64 fall, .slice A keep.length c]) (t := 41) ?hr ?_; (case hd => rfl); (case hg => rfl); (case hr => first | (go_simp; done) | (go_simp; rfl)); intro gb hg w1 hbox hb; have B1 := Aside0.mk hb; obtain ⟨q0, q1, q2, q3⟩ := swap_box hbox; clear hb hbox hg)
    | (go_at_call 8; refine (cA.out _).mono ?_; rintro e w2 ⟨rfl, hb2⟩; have B2 := Aside0.mk (B1.out.trans (hb2.mono B1.out.size)); have cN2 := cN.out w2 B2.out; clear hb2 cA)
    | (go_at_call 9; refine cN2.mono ?_; rintro e w3 ⟨a, S3, rfl, hm⟩; have c0 := C0.out hm; clear hm cN2 cN)
    | (go_at_call 15; refine c0.mono ?_; rintro e w4 ⟨rfl, S4, hm⟩; have c1 := C1.out hm; clear hm c0)
    | (go_at_call 10; refine c1.mono ?_; rintro e w5 ⟨rfl, S5, hm⟩; have c2 := C2.out hm; clear hm c1)
    | (go_at_call 11; refine c2.mono ?_; rintro e w6 ⟨rfl, S6, hm⟩; have c3 := C3.out hm; clear hm c2)
    | (go_at_call 16; refine c3.mono ?_; rintro e w7 ⟨rfl, S7, hm⟩; have c4 := C4.out hm; clear hm c3)
    | (go_at_call 17; refine c4.mono ?_; rintro e w8 ⟨rfl, S8, hm⟩; have c5 := C5.out hm; clear hm c4)
    | (go_at_call 14; refine c5.mono ?_; rintro e w9 ⟨rfl, hm⟩; have ML := Aside0.mk hm; clear hm c5))
  go_ret
  exact ⟨rfl, ML.out.below⟩
end Go.Proofs.YtakhnkkcllfbjaaDoorX
