/- The laws' own comparing and waking; no program's steps in sight; no conditions beyond those in each theorem's head. -/
import Derived.Test.YtohknmlcleifpaaDoorPS2
import Derived.Test.YtohknmlcleifpaaDoorPAx8
import Derived.Test.YtohknmlcleifpaaDoorPAx10
namespace Go.Proofs.YtohknmlcleifpaaDoor.PS
open Go.RowKit Go.Proofs.YtohknmlcleifpaaDoorW.PrintWords Go.Proofs.YtohknmlcleifpaaDoorW.PrintLast Go.Proofs.YtohknmlcleifpaaDoorW.PrintMore Go.Proofs.YtohknmlcleifpaaDoorX Go.Proofs.YtohknmlcleifpaaDoorL Go.Proofs.YtohknmlcleifpaaDoor.PA
set_option linter.unusedVariables false
set_option linter.unusedSimpArgs false

/-! ### comparing, waking -/
theorem same_loop {x y : List S25} (hl : x.length = y.length) (hx : x.length < 9223372036854775807) : ∀ (d i : Nat), i + d = x.length → x.take i = y.take i → ∀ k, d + 1 ≤ k →
    unisonlaw02_same.l0 k x y (i : Int) = some (decide (x = y))
  | d, i, hd, hi, 0, hk => by omega
  | 0, i, hd, hi, k + 1, hk => by
    rw [unisonlaw02_same.l0, if_neg (by omega)]
    have e : i = x.length := by omega
    subst e
    rw [List.take_length, hl, List.take_length] at hi
    rw [decide_eq_true hi]
  | d + 1, i, hd, hi, k + 1, hk => by
    rw [unisonlaw02_same.l0, if_pos (by omega), if_pos (by omega), if_pos (by omega), rd_at, rd_at, show wrap64 ((i : Int) + 1) = ((i + 1 : Nat) : Int) from by unfold wrap64; omega]
    by_cases h : x.getD i z25 = y.getD i z25
    · rw [h, if_neg (by simp)]
      exact same_loop hl hx d (i + 1) (by omega) (by rw [take_snoc z25 (by omega), take_snoc z25 (by omega), hi, h]) k (by omega)
    · rw [if_pos (by
        simp only [Bool.or_eq_true, Bool.not_eq_true', beq_eq_false_iff_ne, ne_eq]
        by_cases a : (x.getD i z25).f0 = (y.getD i z25).f0
        · by_cases b : (x.getD i z25).f1 = (y.getD i z25).f1
          · exact .inr (.inr fun c => h (eta _ _ a b (toList_inj.1 c)))
          · exact .inr (.inl b)
        · exact .inl a), decide_eq_false (fun e => h (by rw [e]))]
theorem same_all (x y : List S25) (hx : x.length < 9223372036854775807) {k : Nat} (hk : x.length + 1 ≤ k) : unisonlaw02_same.f k x y = some (decide (x = y)) := by
  unfold unisonlaw02_same.f
  by_cases h : x.length = y.length
  · rw [if_pos (by omega)]
    exact same_loop h hx x.length 0 (by omega) (by simp) k hk
  · rw [if_neg (by omega), decide_eq_false (fun e => h (by rw [e]))]
theorem awake_300 : unisonlaw02_awake.f 300 = some true := by decide +kernel
theorem awake_all {k : Nat} (hk : 300 ≤ k) : unisonlaw02_awake.f k = some true := at_rounds unisonlaw02_awake.mono hk awake_300

theorem w1 {i : Nat} (h : i < 1000000000000000) : wrap64 ((i : Int) + 1) = ((i + 1 : Nat) : Int) := by unfold wrap64; omega
theorem w2 {i : Nat} (h : i < 1000000000000000) : wrap64 ((i : Int) + 2) = ((i + 2 : Nat) : Int) := by unfold wrap64; omega
end Go.Proofs.YtohknmlcleifpaaDoor.PS
