/- lex.number: what a run says as a number; no conditions beyond those in each theorem's head. -/
import Derived.Test.YtllehkjebikgpaaGreatDoorX5
import Derived.Deep.QuietTactic
import Derived.BigQuiet
import Derived.Lib.AtoiAllCases
namespace Go.Proofs.YtllehkjebikgpaaGreatDoorX
open Go.RowKit Go.Lib Go.Proofs.YtllehkjebikgpaaGreatDoorSh Go.Proofs.YtllehkjebikgpaaGreatDoorW.PrintWords Go.Proofs.YtllehkjebikgpaaGreatDoorW.PrintLast
set_option linter.unusedVariables false

/-- What a run says as a number. -/
def lex_number.f (s : ByteArray) : Option (Int × Bool) :=
  if s.size ≤ 100000000000 then some (atoiN s.data.toList, atoiOk s.data.toList && (decide (0 ≤ atoiN s.data.toList) && (decide (atoiN s.data.toList ≤ 4611686018427387904) && (Lib.itoa (atoiN s.data.toList) == s.data.toList)))) else none
theorem atoi_range (s : List UInt8) : -9223372036854775808 ≤ atoiN s ∧ atoiN s ≤ 9223372036854775807 := by
  unfold atoiN
  split
  · next h => exact Lib.atoiAll_bounds h
  · exact Lib.atoiSat_bounds s
  · omega
set_option maxHeartbeats 16000000 in
set_option maxRecDepth 1000000 in
theorem lex_number.calls (a0 : ByteArray) (r1 : Int) (r2 : Bool) (w : World) (h : lex_number.f a0 = some (r1, r2)) (HG : Gw w) :
    Calls Tryz.prog 16 #[.string a0] w fun e w' => e = .returned (.tuple #[.int .i64 r1, .bool r2]) ∧ Below w.heap.size w w' := by
  unfold lex_number.f at h
  by_cases hsz : ¬ a0.size ≤ 100000000000
  · rw [if_neg hsz] at h; cases h
  have hsz := Decidable.of_not_not hsz
  rw [if_pos hsz] at h
  have h := Option.some.inj h
  simp only [Prod.mk.injEq] at h
  obtain ⟨h1, h2⟩ := h
  have hr := atoi_range a0.data.toList
  have hat := strconv_Atoi3 a0 (by omega) w HG.syn HG.rng
  generalize atoiN a0.data.toList = n at h1 h2 hr hat
  subst h1
  cases hok : atoiOk a0.data.toList with
  | false =>
    rw [hok, Bool.false_and] at h2
    subst h2
    rw [hok] at hat
    go_enter Tryz.func16, Tryz.ntmps16
    go_wp2_with (go_at_call 29; refine hat.mono ?_; rintro e w1 ⟨⟨x, rfl, _, hx⟩, HB⟩; obtain ⟨b, rfl⟩ := hx rfl)
    go_ret2
    exact ⟨rfl, HB⟩
  | true =>
    rw [hok, Bool.true_and] at h2
    rw [hok] at hat
    have hcall : ∀ (e : Ending) (w' : World), ((∃ x, e = .returned (.tuple #[.int .i64 n, x]) ∧ (true = true → x = .nilIface) ∧ (true = false → ∃ b, x = .iface 72 (.pointer (some ⟨b, 0, none⟩)))) ∧ Below w.heap.size w w') → e = .returned (.tuple #[.int .i64 n, .nilIface]) ∧ Below w.heap.size w w' := by
      rintro e w' ⟨⟨x, rfl, hx, _⟩, hb⟩
      obtain rfl := hx rfl
      exact ⟨rfl, hb⟩
    have hat := hat.mono hcall
    clear hcall
    by_cases h0 : 0 ≤ n
    · rw [decide_eq_true h0, Bool.true_and] at h2
      by_cases h1 : n ≤ 4611686018427387904
      · rw [decide_eq_true h1, Bool.true_and] at h2
        have hq : (Lib.itoa n == a0.toList) = r2 := by rw [← h2, ByteArray.toList_eq]
        have HQ := Lib.hid hq
        clear hq
        clear h2
        go_enter Tryz.func16, Tryz.ntmps16
        go_wp2_with (first | (go_at_call 29; refine hat.mono ?_; rintro e w1 ⟨rfl, hb1⟩; have HB := Lib.hid hb1; clear hb1) | (go_at_call 30; refine (strconv_Itoa n (by omega) (by omega) _ (HG.below HB.out).tab).mono ?_; rintro e w2 ⟨rfl, hb2⟩; have HB2 := Lib.hid (HB.out.trans (hb2.mono HB.out.size)); clear HB hb2))
        go_ret2
        exact ⟨by rw [← HQ.out]; rfl, HB2.out⟩
      · rw [decide_eq_false h1, Bool.false_and] at h2
        subst h2
        go_enter Tryz.func16, Tryz.ntmps16
        go_wp2_with (go_at_call 29; refine hat.mono ?_; rintro e w1 ⟨rfl, hb1⟩; have HB := Lib.hid hb1; clear hb1)
        go_ret2
        exact ⟨rfl, HB.out⟩
    · rw [decide_eq_false h0, Bool.false_and] at h2
      subst h2
      go_enter Tryz.func16, Tryz.ntmps16
      go_wp2_with (go_at_call 29; refine hat.mono ?_; rintro e w1 ⟨rfl, hb1⟩; have HB := Lib.hid hb1; clear hb1)
      go_ret2
      exact ⟨rfl, HB.out⟩
end Go.Proofs.YtllehkjebikgpaaGreatDoorX
