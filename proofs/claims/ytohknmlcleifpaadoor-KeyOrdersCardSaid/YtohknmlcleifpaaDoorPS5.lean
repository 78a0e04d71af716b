/- The reference's order and next; no program's steps in sight; no conditions beyond those in each theorem's head. -/
import Derived.Test.YtohknmlcleifpaaDoorPS7
import Derived.Test.YtohknmlcleifpaaDoorPS8
import Derived.Test.YtohknmlcleifpaaDoorPB1
import Derived.Test.YtohknmlcleifpaaDoorPAx16
namespace Go.Proofs.YtohknmlcleifpaaDoor.PS
open Go.RowKit Go.Proofs.YtohknmlcleifpaaDoorW.PrintWords Go.Proofs.YtohknmlcleifpaaDoorW.PrintLast Go.Proofs.YtohknmlcleifpaaDoorW.PrintMore Go.Proofs.YtohknmlcleifpaaDoorX Go.Proofs.YtohknmlcleifpaaDoorL Go.Proofs.YtohknmlcleifpaaDoor.PA
set_option linter.unusedVariables false
set_option linter.unusedSimpArgs false

theorem order_ref_value (v w : S25) : unisonref01_Order.f v.f0 v.f1 v.f2 w.f0 w.f1 w.f2 = some (cmpV v w) := by
  unfold unisonref01_Order.f cmpV
  by_cases e : v = w
  · subst e
    simp
  · rw [if_neg e, if_neg (by
      simp only [Bool.and_eq_true, beq_iff_eq]
      rintro ⟨h0, h1, h2⟩
      exact e (eta _ _ h0 h1 (toList_inj.1 h2)))]
    unfold vlt
    rw [bytesLess_eq]
    by_cases h0 : v.f0 < w.f0
    · rw [if_pos h0, if_pos (by simp [h0])]
    · rw [if_neg h0]
      by_cases g0 : v.f0 = w.f0
      · rw [if_pos g0]
        by_cases h1 : v.f1 < w.f1
        · rw [if_pos h1, if_pos (by simp [g0, h1])]
        · rw [if_neg h1]
          by_cases g1 : v.f1 = w.f1
          · rw [if_pos g1]
            by_cases h2 : ltI (bytesOf v.f2) (bytesOf w.f2) = true
            · rw [if_pos h2, if_pos (by simp [g0, g1, h2])]
            · rw [if_neg h2, if_neg (by simp [g0, g1, h2])]
          · rw [if_neg g1, if_neg (by simp [g0, g1, h1])]
      · rw [if_neg g0, if_neg (by simp [g0, h0])]
theorem ref_next_loop (s : ByteArray) (hs : s.size < 1000000000000000) : ∀ n, n ≤ s.size → ∀ k, n + 1 ≤ k → unisonref02_Next.l0 k s (n : Int) = some (nxt s n)
  | n, h, 0, hk => by omega
  | 0, h, k + 1, hk => by rw [unisonref02_Next.l0, if_neg (by omega), if_pos (by omega), nxt]
  | n + 1, h, k + 1, hk => by
    rw [unisonref02_Next.l0, if_pos (by omega), next_step n (by omega), if_pos (by omega), if_pos (by omega), nxt]
    by_cases e : bt s (n : Int) = 255
    · rw [if_pos e, if_pos e]
      exact ref_next_loop s hs n (by omega) k (by omega)
    · rw [if_neg e, if_neg e, if_neg (by omega), if_pos (by omega), some_bind, Int.toNat_natCast, if_pos]
      rw [size_strOfNums, ByteArray.size_extract]
      simp only [List.length_cons, List.length_nil]
      omega
theorem next_ref (s : ByteArray) (hs : s.size < 1000000000000000) {k : Nat} (hk : s.size + 1 ≤ k) : unisonref02_Next.f k s = some (nxt s s.size) := ref_next_loop s hs s.size (Nat.le_refl _) k hk
theorem ref_order_end (x y : List S25) {i : Nat} (hx : i ≤ x.length) (hy : i ≤ y.length) (h : i = x.length ∨ i = y.length) (k : Nat) : unisonref02_Order.j1 (k + 1) x y (i : Int) false = some (cmpL (x.drop i) (y.drop i)) := by
  rw [unisonref02_Order.j1, if_neg (by decide), cmpL_end hx hy h]
  unfold cmpI
  split
  · rfl
  · split <;> rfl
theorem ref_order_loop {x y : List S25} (hb : x.length < 9223372036854775807) : ∀ (d i : Nat), i + d = x.length → i ≤ y.length → ∀ k, 2 * d + 2 ≤ k → unisonref02_Order.l0 k x y (i : Int) = some (cmpL (x.drop i) (y.drop i))
  | d, i, hd, hy, 0, hk => by omega
  | d, i, hd, hy, 1, hk => by omega
  | 0, i, hd, hy, k + 1 + 1, hk => by
    rw [unisonref02_Order.l0, if_neg (by omega), ref_order_end x y (by omega) hy (.inl (by omega))]
  | d + 1, i, hd, hy, k + 1 + 1, hk => by
    have h1 : i < x.length := by omega
    rw [unisonref02_Order.l0, if_pos (by omega)]
    by_cases h2 : i < y.length
    · rw [decide_eq_true (by omega), unisonref02_Order.j1, if_pos rfl, if_pos (by omega), if_pos (by omega), if_pos (by omega), rd_at, rd_at, order_ref_value, some_bind, cmpL_drop h1 h2]
      by_cases e : x.getD i z25 = y.getD i z25
      · rw [if_pos (cmpV_zero.2 e), if_pos e, show wrap64 ((i : Int) + 1) = ((i + 1 : Nat) : Int) from by unfold wrap64; omega]
        exact ref_order_loop hb d (i + 1) (by omega) h2 k (by omega)
      · rw [if_neg (fun c => e (cmpV_zero.1 c)), if_neg e]
    · rw [decide_eq_false (by omega), ref_order_end x y (by omega) hy (.inr (by omega))]
theorem order_ref (x y : List S25) (hb : x.length < 9223372036854775807) {k : Nat} (hk : 2 * x.length + 2 ≤ k) : unisonref02_Order.f k x y = some (cmpL x y) := ref_order_loop hb x.length 0 (by omega) (by omega) k hk
end Go.Proofs.YtohknmlcleifpaaDoor.PS
