/- The statement DiskAtomic: for every input the law answers true and its arguments read as before; no conditions. -/
import Derived.Test.YtakhnkkcllfbjaaDoorRows
import Derived.Test.YtakhnkkcllfbjaaDoorG7
import Derived.Test.YtakhnkkcllfbjaaDoorOC
import Derived.WalkKit
import Derived.ProofKit
import Derived.OpenShut
import Derived.ShutString
import Derived.ChangeOld
import Derived.Below
import Derived.SizedLaws
import Derived.LaidMore
import Derived.Lay
import Derived.SevenTiedAt
import Derived.Stop.Joined
import Derived.Test.YtakhnkkcllfbjaaDoorCards
import Derived.Test.YtakhnkkcllfbjaaDoorTie
namespace Go.Proofs.YtakhnkkcllfbjaaDoor.diskAtomic
open Go.ChangeShapes Go.WideShapes Go.ChangeAt Go.RowKit
open Go.ChangeMaps (open_string shut_string)
set_option linter.unusedVariables false
theorem own : ownKnob Tryd.prog.godebug = none := by kernel_rfl
theorem laidOut : laidOutB Tryd.prog = true := by kernel_rfl
set_option maxRecDepth 100000 in
theorem lifted (os : Os) (started : os.Started) (H : Type) (enc : TypeId × Value → H) :
    ReturnsInHanded {} Tryd.checked os 4 .any (fun w args => (Rows.diskAtomicSpec.pre enc Tryd.prog Tryd.f4 Rows.diskAtomicRow.domain false w args ∧ laidMetH Tryd.prog Rows.diskAtomicRow.laid w) ∧ sizedMet enc Tryd.prog Tryd.f4 (OpenSpec.ofChange Rows.diskAtomicSpec) false w args) (Rows.diskAtomicSpec.post enc Tryd.prog Tryd.f4 false true false false) := by
  refine returnsInHanded_of_change_and (C := Tryd.checked) (X := fun w _ => laidMetH Tryd.prog Rows.diskAtomicRow.laid w) (fun _ _ _ hh h => h.of_heap hh) own started (by kernel_rfl) Tryd.func4
    (ChangeSpec.witness_shaped (enc := enc) (C := Tryd.checked) (os := os) (X := fun w _ => laidMetH Tryd.prog Rows.diskAtomicRow.laid w) false (World.laidAll Tryd.prog os Rows.diskAtomicRow.laid) #[.agg #[.string ByteArray.empty, .string ByteArray.empty, .int .i64 0, .slice none 0 0]] 8 (World.laidAll_os _ _ _)
      (World.shaped_of_ZipB (by kernel_rfl) (by kernel_rfl)) (by kernel_rfl) (by kernel_rfl) (by kernel_rfl)
      (by rw [MakeChecks.laidMetH_plain _ _ _ (by kernel_rfl)]; exact laidMet_laidAll _ (by kernel_rfl) (by kernel_rfl))) ?_
  intro W base args ds gs before hval0 hW hcnd hsz0 _ _
  have hsz : (DataW.weightsEach Tryd.prog (Tryd.f4.params.toList ++ Rows.diskAtomicSpec.plain.varTypes Tryd.prog) (ds ++ gs)).all (· ≤ reachBytes) = true := hsz0
  have hval : ∀ (j : Nat) t v, Tryd.f4.params[j]? = some t → args[j]? = some v → Value.okWide Tryd.prog W .any base t v := hval0
  have hW' := hW
  obtain ⟨p, q, hA0, hV, rfl, hfz, hnd⟩ := hW
  have hA : DataW.TrodAll enc Tryd.prog W 0 (fun _ => true) true Tryd.f4.params.toList args.toList ds p := hA0
  rw [Tryd.params4] at hA hval hsz
  obtain ⟨v0, vs0, d0, ds0, p0, q0, hargs, rfl, rfl, h0, r0⟩ := trodAll_cons hA
  obtain ⟨rfl, rfl, rfl⟩ := trodAll_nil r0
  obtain rfl : args = #[v0] := by cases args; simp_all
  obtain ⟨rfl, rfl⟩ := trodVars_none hV
  have k0 := h0
  have lt0 : ∀ x ∈ p0, x.block < W.heap.size := by obtain ⟨m, hm⟩ := k0; exact DataW.trod_lt m _ _ _ hm
  obtain ⟨x0, y0, z0, A0, c0, l0, rfl, w0, hc0, hm0, hC0⟩ := Go.Proofs.YtakhnkkcllfbjaaDoorX.open_f41_arg (okWide_struct Tryd.underlying41 (hval 0 41 v0 rfl rfl)) h0
  clear hA0 hval0 hsz0 hsz
  refine (Go.Proofs.YtakhnkkcllfbjaaDoorX.Atomic_calls x0 y0 z0 _ _ l0 W w0 hc0 hm0 hC0).mono fun e W' ⟨he, bel⟩ => ?_
  subst he
  exact ⟨_, rfl, _, _, _, [], _, [], hW', trodAll_mk1 (shut_bool Tryd.underlying4 _), (trodAll_cons_mk (Below.trod laidOut (by kernel_rfl) (of_decide_eq_true (by kernel_rfl)) k0 bel lt0) trodAll_mk0), rfl, bel.frame _, fun h => by cases h⟩
theorem over : Rows.diskAtomicRow.holds Tryd.pinned (OpenSpec.ofChange Rows.diskAtomicSpec) :=
  OpenClaim.holds_of_wide 4 Tryd.f4 rfl rfl rfl rfl rfl rfl rfl ⟨rfl, rfl, rfl, rfl, rfl⟩ rfl rfl rfl rfl rfl (by kernel_rfl) Tryd.func4 (by kernel_rfl)
    (of_decide_eq_true (by kernel_rfl)) (by unfold Func.isWrapper; first | (rw [if_pos (by decide +kernel)]; kernel_rfl) | (rw [if_neg (by decide +kernel)]; exact ⟨rfl, rfl⟩))
    (fun os started H enc _ => lifted os started H enc)
theorem proved : Rows.DiskAtomicSaid := over
#print axioms proved
end Go.Proofs.YtakhnkkcllfbjaaDoor.diskAtomic
namespace Go.Proofs.YtakhnkkcllfbjaaDoor
/-- The row, under a short name, for the claim. -/
theorem diskAtomic_holds : Rows.DiskAtomicSaid := diskAtomic.proved
end Go.Proofs.YtakhnkkcllfbjaaDoor
namespace Go.Proofs.YtakhnkkcllfbjaaDoor
/-- THE TIED CARD. -/
theorem diskAtomic_card : Rows.DiskAtomicCardSaid :=
  Claim7.holds_tied_plain_at .later [] [.data, .pinned] true (true, "970f53f0fcb91533600d341555ee3541c10e57ba612e998be3940599362fab2f") false diskAtomic_holds (fun _ h => by cases h) (by kernel_rfl) (fun _ h => by cases h) diskAtomic_row_tie rfl ⟨rfl, rfl⟩ (by kernel_rfl) rfl
    (fun f fn hf hfn => by
      obtain rfl : f = 4 := Option.some.inj ((show Tryd.prog.funcNamed "unison/unisonlaw04.DiskAtomic" = some 4 by kernel_rfl).symm.trans hf) |>.symm
      obtain rfl : fn = Tryd.f4 := (Option.some.inj (Tryd.func4.symm.trans hfn)).symm
      exact ⟨by kernel_rfl, fun j t ht => by
        rw [Tryd.params4] at ht
        have hm : t ∈ ([41] : List TypeId) := by simpa using Array.mem_of_getElem? ht
        have hall : (([41] : List TypeId).all fun u => !Tryd.prog.wantsStandIn u) = true := by kernel_rfl
        exact (show Tryd.prog.wantsStandIn t = false by simpa using List.all_eq_true.1 hall t hm)⟩)
    (by kernel_rfl)
#print axioms diskAtomic_card
end Go.Proofs.YtakhnkkcllfbjaaDoor
