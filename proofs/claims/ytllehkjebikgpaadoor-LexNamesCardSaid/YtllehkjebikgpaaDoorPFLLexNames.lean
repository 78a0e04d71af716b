-- Laid by a program of ours (wip/gen/xprint.py). Not trusted: Lean checks it.
import Derived.Test.YtllehkjebikgpaaDoorPAx0
import Derived.Test.YtllehkjebikgpaaDoorMD
import Derived.Test.YtllehkjebikgpaaDoorMA
import Derived.Test.YtllehkjebikgpaaDoorMC
namespace Go.Proofs.YtllehkjebikgpaaDoor.PA
open Go.RowKit Go.Proofs.YtllehkjebikgpaaDoorW.PrintWords Go.Proofs.YtllehkjebikgpaaDoorW.PrintLast Go.Proofs.YtllehkjebikgpaaDoorW.PrintMore Go.Proofs.YtllehkjebikgpaaDoorX
attribute [local go_sem] max2_int min2_int max_two min_two max_three min_three max_four min_four   -- for this text's walks alone
set_option linter.unusedVariables false
set_option linter.unusedSimpArgs false
/-! ### unisonlaw10_LexNames: function 3 -/
def unisonlaw10_LexNames.f (k : Nat) (a0 : ByteArray) : Option (Bool) := (unisonlaw10_awake.f k).bind fun t131 => ((lex_IsName.f k a0).bind fun t132 => ((lex_IsWord.f k a0).bind fun t133 => ((unisonref10_IsName.f k a0).bind fun t134 => ((unisonref10_IsWord.f k a0).bind fun t135 => (if t131 = true then (if (t132 == t134) = true then (some (t133 == t135)) else (none)) else (none))))))
theorem unisonlaw10_LexNames.mono : ∀ a0 k, LeO (unisonlaw10_LexNames.f k a0) (unisonlaw10_LexNames.f (k + 1) a0) := by
 intro a0 k
 unfold unisonlaw10_LexNames.f
 repeat' first
   | (with_reducible exact lex_IsName.mono _ _)
   | (with_reducible exact lex_IsWord.mono _ _)
   | (with_reducible exact unisonlaw10_awake.mono _)
   | (with_reducible exact unisonref10_IsName.mono _ _)
   | (with_reducible exact unisonref10_IsWord.mono _ _)
   | (with_reducible exact LeO.refl _)
   | (with_reducible exact LeO.none _)
   | (with_reducible refine LeO.ite ?_ ?_)
   | (with_reducible refine LeO.bind ?_ (fun _ => ?_))
   | exact lex_IsName.mono _ _
   | exact lex_IsWord.mono _ _
   | exact unisonlaw10_awake.mono _
   | exact unisonref10_IsName.mono _ _
   | exact unisonref10_IsWord.mono _ _
   | exact LeO.none _
   | refine LeO.ite ?_ ?_
   | refine LeO.bind ?_ (fun _ => ?_)
set_option maxHeartbeats 8000000 in
set_option maxRecDepth 100000 in
theorem unisonlaw10_LexNames.calls (k : Nat) (a0 : ByteArray) (r : Bool) (w : World) (h : unisonlaw10_LexNames.f k a0 = some r) (HG0 : Gw w) :
  Calls Tryd.prog 3 #[.string a0] w fun e w' => e = .returned (.bool r) ∧ Below w.heap.size w w' := by
 have HG := Aside0.mk HG0
 clear HG0
 have HB := Aside0.mk (Below.refl w.heap.size w); have H : ((unisonlaw10_awake.f k).bind fun t131 => ((lex_IsName.f k a0).bind fun t132 => ((lex_IsWord.f k a0).bind fun t133 => ((unisonref10_IsName.f k a0).bind fun t134 => ((unisonref10_IsWord.f k a0).bind fun t135 => (if t131 = true then (if (t132 == t134) = true then (some (t133 == t135)) else (none)) else (none))))))) = some r := h; clear h; replace H := Option.bind_eq_some_iff.mp H
 obtain ⟨t131, A20, H⟩ := H
 replace H : ((lex_IsName.f k a0).bind fun t132 => ((lex_IsWord.f k a0).bind fun t133 => ((unisonref10_IsName.f k a0).bind fun t134 => ((unisonref10_IsWord.f k a0).bind fun t135 => (if t131 = true then (if (t132 == t134) = true then (some (t133 == t135)) else (none)) else (none)))))) = some r := H; have A2 := Aside0.mk A20; clear A20; replace H := Option.bind_eq_some_iff.mp H
 obtain ⟨t132, A30, H⟩ := H
 replace H : ((lex_IsWord.f k a0).bind fun t133 => ((unisonref10_IsName.f k a0).bind fun t134 => ((unisonref10_IsWord.f k a0).bind fun t135 => (if t131 = true then (if (t132 == t134) = true then (some (t133 == t135)) else (none)) else (none))))) = some r := H; have A3 := Aside0.mk A30; clear A30; replace H := Option.bind_eq_some_iff.mp H
 obtain ⟨t133, A40, H⟩ := H
 replace H : ((unisonref10_IsName.f k a0).bind fun t134 => ((unisonref10_IsWord.f k a0).bind fun t135 => (if t131 = true then (if (t132 == t134) = true then (some (t133 == t135)) else (none)) else (none)))) = some r := H; have A4 := Aside0.mk A40; clear A40; replace H := Option.bind_eq_some_iff.mp H
 obtain ⟨t134, A50, H⟩ := H
 replace H : ((unisonref10_IsWord.f k a0).bind fun t135 => (if t131 = true then (if (t132 == t134) = true then (some (t133 == t135)) else (none)) else (none))) = some r := H; have A5 := Aside0.mk A50; clear A50; replace H := Option.bind_eq_some_iff.mp H
 obtain ⟨t135, A60, H⟩ := H
 replace H : (if t131 = true then (if (t132 == t134) = true then (some (t133 == t135)) else (none)) else (none)) = some r := H; have A6 := Aside0.mk A60; clear A60
 by_cases c7 : t131 = true
 ·
  subst c7
  have H1 : (if (t132 == t134) = true then (some (t133 == t135)) else (none)) = some r := by rw [if_pos rfl] at H; exact H
  clear H; have H := H1; clear H1
  by_cases c8 : (t132 == t134) = true
  ·
   rw [if_pos c8] at H
   have c8b0 : (t132 == t134) = true := c8
   (try (have c8b1 : decide (t132 = t134) = true := by simpa using c8))
   (try (have c8b2 : (t132 == t134) = true := by simpa using c8))
   clear c8
   obtain rfl := Option.some.inj H
   go_enter Tryd.func3, Tryd.ntmps3
   go_wp2_with (first | ((with_reducible refine gate_callee (f := 8) rfl ?_); refine gL (some 8) Tryd.func8 #[] ?_; (with_reducible refine (unisonlaw10_awake.calls k  true _ A2.out (gk HG)).mono ?_); rintro e w9 ⟨rfl, hb⟩; refine ⟨_, rfl, ?_⟩; replace HB := bs hb; (try clear hb); (try clear hb2); (try clear hk); (try clear hi)) | ((with_reducible refine gate_callee (f := 9) rfl ?_); refine gL (some 10) Tryd.func9 #[.string a0] ?_; (with_reducible refine (lex_IsName.calls k a0 t132 _ A3.out).mono ?_); rintro e w' ⟨rfl, ⟨nd, rfl⟩⟩; refine ⟨_, rfl, ?_⟩) | ((with_reducible refine gate_callee (f := 10) rfl ?_); refine gL (some 12) Tryd.func10 #[.string a0] ?_; (with_reducible refine (lex_IsWord.calls k a0 t133 _ A4.out).mono ?_); rintro e w10 ⟨rfl, hb⟩; refine ⟨_, rfl, ?_⟩; replace HB := bs hb; (try clear hb); (try clear hb2); (try clear hk); (try clear hi)) | ((with_reducible refine gate_callee (f := 11) rfl ?_); refine gL (some 14) Tryd.func11 #[.string a0] ?_; (with_reducible refine (unisonref10_IsName.calls k a0 t134 _ A5.out).mono ?_); rintro e w' ⟨rfl, ⟨nd, rfl⟩⟩; refine ⟨_, rfl, ?_⟩) | ((with_reducible refine gate_callee (f := 12) rfl ?_); refine gL (some 16) Tryd.func12 #[.string a0] ?_; (with_reducible refine (unisonref10_IsWord.calls k a0 t135 _ A6.out).mono ?_); rintro e w11 ⟨rfl, hb⟩; refine ⟨_, rfl, ?_⟩; replace HB := bs hb; (try clear hb); (try clear hb2); (try clear hk); (try clear hi)))
   go_ret
   exact ⟨by first | rfl | (simp [errW_none, errW_some] <;> rfl) | (simp [*, errW_none, errW_some] <;> rfl), by repeat (first | (with_reducible first | exact HB.out | apply below_alloc | apply pw_below_drewN | apply below_drew1) | exact HB.out)⟩
  ·
   rw [if_neg c8] at H
   exact absurd H (by simp)
 ·
  replace c7 := Bool.eq_false_iff.mpr c7
  subst c7
  have H1 : (none) = some r := by rw [if_neg (show ¬ (false = true) by decide)] at H; exact H
  clear H; have H := H1; clear H1
  exact absurd H (by simp)

end Go.Proofs.YtllehkjebikgpaaDoor.PA
