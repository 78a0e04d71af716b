/- The statement LexValues: for every input the law answers true and its arguments read as before; no conditions. -/
import Derived.Test.YtllehkjebikgpaaDoorRows
import Derived.Test.YtllehkjebikgpaaDoorPureLexValues
import Derived.Test.YtllehkjebikgpaaDoorXT
import Derived.Test.YtllehkjebikgpaaDoorXL
import Derived.WalkKit
import Derived.ProofKit
import Derived.OpenShut
import Derived.ShutString
import Derived.ChangeOld
import Derived.Below
import Derived.SizedLaws
import Derived.LaidMore
import Derived.Lay
import Derived.SevenTiedAt
import Derived.Stop.Joined
import Derived.Test.YtllehkjebikgpaaDoorCards
import Derived.Test.YtllehkjebikgpaaDoorTie
namespace Go.Proofs.YtllehkjebikgpaaDoor.lexValues
open Go.ChangeShapes Go.WideShapes Go.ChangeAt Go.RowKit Go.Proofs.YtllehkjebikgpaaDoorV
open Go.ChangeMaps (open_string shut_string)
set_option linter.unusedVariables false
theorem own : ownKnob Tryd.prog.godebug = none := by kernel_rfl
theorem laidOut : laidOutB Tryd.prog = true := by kernel_rfl
set_option maxRecDepth 100000 in
theorem lifted (os : Os) (started : os.Started) (H : Type) (enc : TypeId × Value → H) :
    ReturnsInHanded {} Tryd.checked os 7 .any (fun w args => (Rows.lexValuesSpec.pre enc Tryd.prog Tryd.f7 Rows.lexValuesRow.domain false w args ∧ laidMetH Tryd.prog Rows.lexValuesRow.laid w) ∧ sizedMet enc Tryd.prog Tryd.f7 (OpenSpec.ofChange Rows.lexValuesSpec) false w args) (Rows.lexValuesSpec.post enc Tryd.prog Tryd.f7 false true false false) := by
  refine returnsInHanded_of_change_and (C := Tryd.checked) (X := fun w _ => laidMetH Tryd.prog Rows.lexValuesRow.laid w) (fun _ _ _ hh h => h.of_heap hh) own started (by kernel_rfl) Tryd.func7
    (ChangeSpec.witness_shaped (enc := enc) (C := Tryd.checked) (os := os) (X := fun w _ => laidMetH Tryd.prog Rows.lexValuesRow.laid w) false (World.laidAll Tryd.prog os Rows.lexValuesRow.laid) #[.agg #[.int .i64 0, .int .i64 0, .string ByteArray.empty]] 8 (World.laidAll_os _ _ _)
      (World.shaped_of_ZipB (by kernel_rfl) (by kernel_rfl)) (by kernel_rfl) (by kernel_rfl) (by kernel_rfl)
      (by rw [MakeChecks.laidMetH_plain _ _ _ (by kernel_rfl)]; exact laidMet_laidAll _ (by kernel_rfl) (by kernel_rfl))) ?_
  intro W base args ds gs before hval0 hW hcnd hsz0 hlaid _
  have hsz : (DataW.weightsEach Tryd.prog (Tryd.f7.params.toList ++ Rows.lexValuesSpec.plain.varTypes Tryd.prog) (ds ++ gs)).all (· ≤ reachBytes) = true := hsz0
  have hval : ∀ (j : Nat) t v, Tryd.f7.params[j]? = some t → args[j]? = some v → Value.okWide Tryd.prog W .any base t v := hval0
  have hW' := hW
  obtain ⟨p, q, hA0, hV, rfl, hfz, hnd⟩ := hW
  have hA : DataW.TrodAll enc Tryd.prog W 0 (fun _ => true) true Tryd.f7.params.toList args.toList ds p := hA0
  rw [Tryd.params7] at hA hval hsz
  obtain ⟨v0, vs0, d0, ds0, p0, q0, hargs, rfl, rfl, h0, r0⟩ := trodAll_cons hA
  obtain ⟨rfl, rfl, rfl⟩ := trodAll_nil r0
  obtain rfl : args = #[v0] := by cases args; simp_all
  obtain ⟨rfl, rfl⟩ := trodVars_none hV
  have k0 := h0
  have lt0 : ∀ x ∈ p0, x.block < W.heap.size := by obtain ⟨m, hm⟩ := k0; exact DataW.trod_lt m _ _ _ hm
  obtain ⟨a0_0, a0_1, a0_2, rfl, w0_0, w0_1, _⟩ := open_val (okWide_struct Tryd.underlying36 (hval 0 36 v0 rfl rfl)) h0
  clear hA0 hval0 hsz0 hsz
  have HG : Go.Proofs.YtllehkjebikgpaaDoorX.Gw W := Go.Proofs.YtllehkjebikgpaaDoorX.gw_of (by kernel_rfl) hlaid (by repeat (first | exact List.mem_cons_self | apply List.mem_cons_of_mem)) (by repeat (first | exact List.mem_cons_self | apply List.mem_cons_of_mem)) (by repeat (first | exact List.mem_cons_self | apply List.mem_cons_of_mem))
  obtain ⟨kr, hkr⟩ := Pure.LexValues a0_0 a0_1 a0_2 w0_0 w0_1
  refine (PA.unisonlaw10_LexValues.calls kr a0_0 a0_1 a0_2 true W  hkr HG).mono fun e W' ⟨he, bel⟩ => ?_
  subst he
  exact ⟨_, rfl, _, _, _, [], _, [], hW', trodAll_mk1 (shut_bool Tryd.underlying4 _), (trodAll_cons_mk (Below.trod laidOut (by kernel_rfl) (of_decide_eq_true (by kernel_rfl)) k0 bel lt0) trodAll_mk0), rfl, bel.frame _, fun h => by cases h⟩
theorem over : Rows.lexValuesRow.holds Tryd.pinned (OpenSpec.ofChange Rows.lexValuesSpec) :=
  OpenClaim.holds_of_wide 7 Tryd.f7 rfl rfl rfl rfl rfl rfl rfl ⟨rfl, rfl, rfl, rfl, rfl⟩ rfl rfl rfl rfl rfl (by kernel_rfl) Tryd.func7 (by kernel_rfl)
    (of_decide_eq_true (by kernel_rfl)) (by unfold Func.isWrapper; first | (rw [if_pos (by decide +kernel)]; kernel_rfl) | (rw [if_neg (by decide +kernel)]; exact ⟨rfl, rfl⟩))
    (fun os started H enc _ => lifted os started H enc)
theorem proved : Rows.LexValuesSaid := over
#print axioms proved
end Go.Proofs.YtllehkjebikgpaaDoor.lexValues
namespace Go.Proofs.YtllehkjebikgpaaDoor
/-- The row, under a short name, for the claim. -/
theorem lexValues_holds : Rows.LexValuesSaid := lexValues.proved
end Go.Proofs.YtllehkjebikgpaaDoor
namespace Go.Proofs.YtllehkjebikgpaaDoor
/-- THE TIED CARD. -/
theorem lexValues_card : Rows.LexValuesCardSaid :=
  Claim7.holds_tied_plain_at .later [] [.data, .data, .data, .data, .sentinel, .sentinel, .pinned, .pinned] true (true, "649fa49057b6cbe8a7cccb80746eb4617fc78aa3d2d9bd7b85d014e87f2c30cb") true lexValues_holds (fun _ h => by cases h) (by kernel_rfl) (fun _ h => by cases h) lexValues_row_tie rfl ⟨rfl, rfl⟩ (by kernel_rfl) rfl
    (fun f fn hf hfn => by
      obtain rfl : f = 7 := Option.some.inj ((show Tryd.prog.funcNamed "unison/unisonlaw10.LexValues" = some 7 by kernel_rfl).symm.trans hf) |>.symm
      obtain rfl : fn = Tryd.f7 := (Option.some.inj (Tryd.func7.symm.trans hfn)).symm
      exact ⟨by kernel_rfl, fun j t ht => by
        rw [Tryd.params7] at ht
        have hm : t ∈ ([36] : List TypeId) := by simpa using Array.mem_of_getElem? ht
        have hall : (([36] : List TypeId).all fun u => !Tryd.prog.wantsStandIn u) = true := by kernel_rfl
        exact (show Tryd.prog.wantsStandIn t = false by simpa using List.all_eq_true.1 hall t hm)⟩)
    (by kernel_rfl)
#print axioms lexValues_card
end Go.Proofs.YtllehkjebikgpaaDoor
