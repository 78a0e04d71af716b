/- find, Sync, Read of a disk: what each call answers and does. -/
import Derived.Test.YtakhnkkcllfbjaaDoorE5
import Derived.Test.YtakhnkkcllfbjaaDoorE1
namespace Go.Proofs.YtakhnkkcllfbjaaDoorX
open Go.RowKit Go.Proofs.YtakhnkkcllfbjaaDoorW.PrintWords Go.Proofs.YtakhnkkcllfbjaaDoorW.PrintLast Go.Proofs.YtakhnkkcllfbjaaDoorW.PrintMore
set_option linter.unusedVariables false
set_option linter.unusedSimpArgs false
def AD.findQ (D : AD) (lay : Lay) (x : Nm) : Option Nat := if D.findE x = 0 then some (lay x).1 else none
theorem mapL_some {lay : Lay} {L : List AF} {x : Nm} {f : AF} (h : findL x L = some f) : mapL lay L x = some (some (lay x).1) := by simp [mapL, hasL, h]
theorem mapL_none {lay : Lay} {L : List AF} {x : Nm} (h : findL x L = none) : mapL lay L x = none := by simp [mapL, hasL, h]
theorem find_calls {w : World} {a m : Nat} {lay : Lay} {D : AD} (h : DK w a m lay D) (s : ByteArray) (hs : s.size ≤ maxLen) :
    Calls Tryd.prog 30 #[.pointer (some ⟨a, 0, none⟩), .string s] w fun e w' => e = .returned (.tuple #[ptrVal (D.findQ lay s.data.toList), .int .i64 (D.findE s.data.toList)]) ∧ Below w.heap.size w w' := by
  obtain ⟨c0, c1, c2, c3, c4, c5⟩ := head_cells h.head
  have MP := Aside0.mk h.map
  have HS := Aside0.mk hs
  have cN := named_calls s
  clear h hs c0 c2 c3 c5
  by_cases hd : D.down = true
  · have hE : Aside0 (D.findE s.data.toList = 3) := ⟨by unfold AD.findE; rw [if_pos hd]⟩
    have hQ : Aside0 (D.findQ lay s.data.toList = none) := ⟨by unfold AD.findQ; rw [hE.out]; rfl⟩
    rw [hE.out, hQ.out]
    clear hE hQ cN
    cases hf : findL s.data.toList D.L with
    | none =>
      have hM := mapL_none (lay := lay) hf
      clear hf
      go_enter Tryd.func30, Tryd.ntmps30
      go_wp2_with (at_lookup; refine wp_look_ok rfl MP.out _ _ rfl Tryd.underlying9 Tryd.underlying62 (Tryd.zeroValue65 w) rfl s rfl HS.out ?_; simp only [hM, Option.getD, Option.isSome, ptrVal])
      go_ret2
      exact ⟨rfl, Below.refl _ _⟩
    | some f =>
      have hM := mapL_some (lay := lay) hf
      clear hf
      go_enter Tryd.func30, Tryd.ntmps30
      go_wp2_with (at_lookup; refine wp_look_ok rfl MP.out _ _ rfl Tryd.underlying9 Tryd.underlying62 (Tryd.zeroValue65 w) rfl s rfl HS.out ?_; simp only [hM, Option.getD, Option.isSome, ptrVal])
      go_ret2
      exact ⟨rfl, Below.refl _ _⟩
  · have hd2 : D.down = false := by simpa using hd
    cases hn : named s.data.toList with
    | false =>
      have hE : Aside0 (D.findE s.data.toList = 40) := ⟨by unfold AD.findE; rw [if_neg hd, if_pos hn]⟩
      have hQ : Aside0 (D.findQ lay s.data.toList = none) := ⟨by unfold AD.findQ; rw [hE.out]; rfl⟩
      rw [hE.out, hQ.out]
      rw [hn] at cN
      clear hE hQ hn hd
      cases hf : findL s.data.toList D.L with
      | none =>
        have hM := mapL_none (lay := lay) hf
        clear hf
        go_enter Tryd.func30, Tryd.ntmps30
        go_wp2_with (first
          | (at_lookup; refine wp_look_ok rfl MP.out _ _ rfl Tryd.underlying9 Tryd.underlying62 (Tryd.zeroValue65 w) rfl s rfl HS.out ?_; simp only [hM, Option.getD, Option.isSome, ptrVal])
          | (go_at_call 29; refine (cN _).mono ?_; rintro e w1 ⟨rfl, hb1⟩))
        go_ret2
        exact ⟨rfl, hb1⟩
      | some f =>
        have hM := mapL_some (lay := lay) hf
        clear hf
        go_enter Tryd.func30, Tryd.ntmps30
        go_wp2_with (first
          | (at_lookup; refine wp_look_ok rfl MP.out _ _ rfl Tryd.underlying9 Tryd.underlying62 (Tryd.zeroValue65 w) rfl s rfl HS.out ?_; simp only [hM, Option.getD, Option.isSome, ptrVal])
          | (go_at_call 29; refine (cN _).mono ?_; rintro e w1 ⟨rfl, hb1⟩))
        go_ret2
        exact ⟨rfl, hb1⟩
    | true =>
      have hn' : ¬ named s.data.toList = false := by rw [hn]; decide
      rw [hn] at cN
      cases hf : findL s.data.toList D.L with
      | none =>
        have hE : Aside0 (D.findE s.data.toList = 41) := ⟨by unfold AD.findE; rw [if_neg hd, if_neg hn', if_pos (by rw [hf]; rfl)]⟩
        have hQ : Aside0 (D.findQ lay s.data.toList = none) := ⟨by unfold AD.findQ; rw [hE.out]; rfl⟩
        rw [hE.out, hQ.out]
        have hM := mapL_none (lay := lay) hf
        clear hf hn hn' hd hE hQ
        go_enter Tryd.func30, Tryd.ntmps30
        go_wp2_with (first
          | (at_lookup; refine wp_look_ok rfl MP.out _ _ rfl Tryd.underlying9 Tryd.underlying62 (Tryd.zeroValue65 w) rfl s rfl HS.out ?_; simp only [hM, Option.getD, Option.isSome, ptrVal])
          | (go_at_call 29; refine (cN _).mono ?_; rintro e w1 ⟨rfl, hb1⟩))
        go_ret2
        exact ⟨rfl, hb1⟩
      | some f =>
        have hE : Aside0 (D.findE s.data.toList = 0) := ⟨by unfold AD.findE; rw [if_neg hd, if_neg hn', if_neg (by rw [hf]; simp)]⟩
        have hQ : Aside0 (D.findQ lay s.data.toList = some (lay s.data.toList).1) := ⟨by unfold AD.findQ; rw [hE.out]; rfl⟩
        rw [hE.out, hQ.out]
        have hM := mapL_some (lay := lay) hf
        clear hf hn hn' hd hE hQ
        go_enter Tryd.func30, Tryd.ntmps30
        go_wp2_with (first
          | (at_lookup; refine wp_look_ok rfl MP.out _ _ rfl Tryd.underlying9 Tryd.underlying62 (Tryd.zeroValue65 w) rfl s rfl HS.out ?_; simp only [hM, Option.getD, Option.isSome, ptrVal])
          | (go_at_call 29; refine (cN _).mono ?_; rintro e w1 ⟨rfl, hb1⟩))
        go_ret2
        exact ⟨rfl, hb1⟩
end Go.Proofs.YtakhnkkcllfbjaaDoorX
