/- The statement KeySorted: for every input the law answers true and its arguments read as before; no conditions. -/
import Derived.Test.YtohknmlcleifpaaDoorRows
import Derived.Test.YtohknmlcleifpaaDoorPureKeySorted
import Derived.Test.YtohknmlcleifpaaDoorXV
import Derived.Test.YtohknmlcleifpaaDoorXW
import Derived.WalkKit
import Derived.ProofKit
import Derived.OpenShut
import Derived.ShutString
import Derived.ChangeOld
import Derived.Below
import Derived.SizedLaws
import Derived.LaidMore
import Derived.Lay
import Derived.SevenTiedAt
import Derived.Stop.Joined
import Derived.Test.YtohknmlcleifpaaDoorCards
import Derived.Test.YtohknmlcleifpaaDoorTie
namespace Go.Proofs.YtohknmlcleifpaaDoor.keySorted
open Go.ChangeShapes Go.WideShapes Go.ChangeAt Go.RowKit Go.Proofs.YtohknmlcleifpaaDoorV
open Go.ChangeMaps (open_string shut_string)
set_option linter.unusedVariables false
theorem own : ownKnob Tryd.prog.godebug = none := by kernel_rfl
theorem laidOut : laidOutB Tryd.prog = true := by kernel_rfl
set_option maxRecDepth 100000 in
theorem lifted (os : Os) (started : os.Started) (H : Type) (enc : TypeId × Value → H) :
    ReturnsInHanded {} Tryd.checked os 9 .any (fun w args => (Rows.keySortedSpec.pre enc Tryd.prog Tryd.f9 Rows.keySortedRow.domain false w args ∧ laidMetH Tryd.prog Rows.keySortedRow.laid w) ∧ sizedMet enc Tryd.prog Tryd.f9 (OpenSpec.ofChange Rows.keySortedSpec) false w args) (Rows.keySortedSpec.post enc Tryd.prog Tryd.f9 false true false false) := by
  refine returnsInHanded_of_change_and (C := Tryd.checked) (X := fun w _ => laidMetH Tryd.prog Rows.keySortedRow.laid w) (fun _ _ _ hh h => h.of_heap hh) own started (by kernel_rfl) Tryd.func9
    (ChangeSpec.witness_shaped (enc := enc) (C := Tryd.checked) (os := os) (X := fun w _ => laidMetH Tryd.prog Rows.keySortedRow.laid w) false (World.laidAll Tryd.prog os Rows.keySortedRow.laid) #[.slice none 0 0] 8 (World.laidAll_os _ _ _)
      (World.shaped_of_ZipB (by kernel_rfl) (by kernel_rfl)) (by kernel_rfl) (by kernel_rfl) (by kernel_rfl)
      (by rw [MakeChecks.laidMetH_plain _ _ _ (by kernel_rfl)]; exact laidMet_laidAll _ (by kernel_rfl) (by kernel_rfl))) ?_
  intro W base args ds gs before hval0 hW hcnd hsz0 _ _
  have hsz : (DataW.weightsEach Tryd.prog (Tryd.f9.params.toList ++ Rows.keySortedSpec.plain.varTypes Tryd.prog) (ds ++ gs)).all (· ≤ reachBytes) = true := hsz0
  have hval : ∀ (j : Nat) t v, Tryd.f9.params[j]? = some t → args[j]? = some v → Value.okWide Tryd.prog W .any base t v := hval0
  have hW' := hW
  obtain ⟨p, q, hA0, hV, rfl, hfz, hnd⟩ := hW
  have hA : DataW.TrodAll enc Tryd.prog W 0 (fun _ => true) true Tryd.f9.params.toList args.toList ds p := hA0
  rw [Tryd.params9] at hA hval hsz
  obtain ⟨v0, vs0, d0, ds0, p0, q0, hargs, rfl, rfl, h0, r0⟩ := trodAll_cons hA
  obtain ⟨rfl, rfl, rfl⟩ := trodAll_nil r0
  obtain rfl : args = #[v0] := by cases args; simp_all
  obtain ⟨rfl, rfl⟩ := trodVars_none hV
  have k0 := h0
  have lt0 : ∀ x ∈ p0, x.block < W.heap.size := by obtain ⟨m, hm⟩ := k0; exact DataW.trod_lt m _ _ _ hm
  obtain ⟨A0, c0, l0, rfl, hV0⟩ := open_rows (base' := W.heap.size) (okWide_slice Tryd.underlying42 (hval 0 42 v0 rfl rfl)) h0
  clear hA0 hval0 hsz0 hsz
  obtain ⟨kr, hkr⟩ := Pure.KeySorted l0
  refine (PA.unisonlaw02_KeySorted.calls kr (fun k_ => k_ < W.heap.size) _ _ l0 true W hV0 hkr).mono fun e W' ⟨he, bel⟩ => ?_
  subst he
  exact ⟨_, rfl, _, _, _, [], _, [], hW', trodAll_mk1 (shut_bool Tryd.underlying4 _), (trodAll_cons_mk (Below.trod laidOut (by kernel_rfl) (of_decide_eq_true (by kernel_rfl)) k0 bel lt0) trodAll_mk0), rfl, bel.frame _, fun h => by cases h⟩
theorem over : Rows.keySortedRow.holds Tryd.pinned (OpenSpec.ofChange Rows.keySortedSpec) :=
  OpenClaim.holds_of_wide 9 Tryd.f9 rfl rfl rfl rfl rfl rfl rfl ⟨rfl, rfl, rfl, rfl, rfl⟩ rfl rfl rfl rfl rfl (by kernel_rfl) Tryd.func9 (by kernel_rfl)
    (of_decide_eq_true (by kernel_rfl)) (by unfold Func.isWrapper; first | (rw [if_pos (by decide +kernel)]; kernel_rfl) | (rw [if_neg (by decide +kernel)]; exact ⟨rfl, rfl⟩))
    (fun os started H enc _ => lifted os started H enc)
theorem proved : Rows.KeySortedSaid := over
#print axioms proved
end Go.Proofs.YtohknmlcleifpaaDoor.keySorted
namespace Go.Proofs.YtohknmlcleifpaaDoor
/-- The row, under a short name, for the claim. -/
theorem keySorted_holds : Rows.KeySortedSaid := keySorted.proved
end Go.Proofs.YtohknmlcleifpaaDoor
namespace Go.Proofs.YtohknmlcleifpaaDoor
/-- THE TIED CARD. -/
theorem keySorted_card : Rows.KeySortedCardSaid :=
  Claim7.holds_tied_plain_at .later [] [.data, .pinned] true (true, "e5297a2c1476f6d7829575b029cca7ad28b810d7b5cb562e591ea13c5b37bf3e") false keySorted_holds (fun _ h => by cases h) (by kernel_rfl) (fun _ h => by cases h) keySorted_row_tie rfl ⟨rfl, rfl⟩ (by kernel_rfl) rfl
    (fun f fn hf hfn => by
      obtain rfl : f = 9 := Option.some.inj ((show Tryd.prog.funcNamed "unison/unisonlaw02.KeySorted" = some 9 by kernel_rfl).symm.trans hf) |>.symm
      obtain rfl : fn = Tryd.f9 := (Option.some.inj (Tryd.func9.symm.trans hfn)).symm
      exact ⟨by kernel_rfl, fun j t ht => by
        rw [Tryd.params9] at ht
        have hm : t ∈ ([42] : List TypeId) := by simpa using Array.mem_of_getElem? ht
        have hall : (([42] : List TypeId).all fun u => !Tryd.prog.wantsStandIn u) = true := by kernel_rfl
        exact (show Tryd.prog.wantsStandIn t = false by simpa using List.all_eq_true.1 hall t hm)⟩)
    (by kernel_rfl)
#print axioms keySorted_card
end Go.Proofs.YtohknmlcleifpaaDoor
