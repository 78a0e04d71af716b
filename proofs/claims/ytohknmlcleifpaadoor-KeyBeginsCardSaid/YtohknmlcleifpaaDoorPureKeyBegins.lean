/- The law KeyBegins: its program answers true at every two lists and number; no conditions beyond those in the theorem's head. -/
import Derived.Test.YtohknmlcleifpaaDoorPS6
import Derived.Test.YtohknmlcleifpaaDoorPAx18
import Derived.Test.YtohknmlcleifpaaDoorXV
namespace Go.Proofs.YtohknmlcleifpaaDoor.Pure
open Go.RowKit Go.Proofs.YtohknmlcleifpaaDoorW.PrintWords Go.Proofs.YtohknmlcleifpaaDoorW.PrintLast Go.Proofs.YtohknmlcleifpaaDoorW.PrintMore Go.Proofs.YtohknmlcleifpaaDoorX Go.Proofs.YtohknmlcleifpaaDoorL Go.Proofs.YtohknmlcleifpaaDoor.PA Go.Proofs.YtohknmlcleifpaaDoor.PS Go.Proofs.YtohknmlcleifpaaDoorV
set_option linter.unusedVariables false
set_option linter.unusedSimpArgs false

theorem front_iff {a b : List Int} (ha : Bytes a) (hb : Bytes b) : ((strOfNums a).extract 0 b.length).toList = (strOfNums b).toList ↔ ∃ r, a = b ++ r := by
  rw [toList_inj]
  constructor
  · intro h
    have h2 := congrArg bytesOf h
    rw [bytesOf_extract_front, bytesOf_strOfNums ha, bytesOf_strOfNums hb] at h2
    exact ⟨a.drop b.length, by rw [show b ++ a.drop b.length = a.take b.length ++ a.drop b.length from by rw [h2], List.take_append_drop]⟩
  · rintro ⟨r, rfl⟩
    apply bytesOf_inj
    rw [bytesOf_extract_front, bytesOf_strOfNums ha, bytesOf_strOfNums hb, List.take_left]
theorem KeyBegins : ∀ (l0 : List S25) (a1 : Int) (l2 : List S25), (∀ x ∈ l0, Fine x) → l0.length * 32 ≤ 140737488351232 → (Lit.int .i64 a1).wf = true → (∀ x ∈ l2, Fine x) → l2.length * 32 ≤ 140737488351232 → ∃ k, unisonlaw02_KeyBegins.f k l0 a1 l2 = some true := by
  intro x few y _ _ _ _ _
  refine ⟨y.length + 400 + 1 + 1 + 1 + 1 + 1, ?_⟩
  unfold unisonlaw02_KeyBegins.f
  have done : ∀ k, unisonlaw02_KeyBegins.j0 (k + 1) x few y true = some true := fun k => by rw [unisonlaw02_KeyBegins.j0, if_pos rfl]
  by_cases hx : (x.length : Int) > 2147483647
  · rw [if_pos hx]; exact done _
  · rw [if_neg hx]
    by_cases hy : (y.length : Int) > 2147483647
    · rw [decide_eq_true hy]; exact done _
    · rw [decide_eq_false hy, unisonlaw02_KeyBegins.j0, if_neg (by decide), awake_all (by omega), some_bind, encode_row x (by omega), some_bind, encode_row y (by omega), some_bind, encode_ref x (by omega), some_bind, encode_ref y (by omega), some_bind,
        if_pos rfl, unisonlaw02_KeyBegins.j1, bne_self_eq_false, if_neg (by decide)]
      by_cases h0 : (encK x).2 = 0
      · obtain ⟨ox, ex⟩ := encK_of h0
        have e1 : wrap64 ((x.length : Int) + 1) = (x.length : Int) + 1 := by unfold wrap64; omega
        have hm := Int.tmod_lt_of_pos few (show (0 : Int) < (x.length : Int) + 1 by omega)
        have hm2 : -((x.length : Int) + 1) < Int.tmod few ((x.length : Int) + 1) := by
          have := Int.lt_tmod_of_pos few (show (0 : Int) < (x.length : Int) + 1 by omega)
          omega
        have step : ∀ (n : Nat), n ≤ x.length → unisonlaw02_KeyBegins.j2 (y.length + 400 + 1 + 1 + 1) x y true (encK x).1 (encK y).1 (encK y).2 (n : Int) = some true := fun n hn => by
          have on : OK (x.take n) := ⟨by have := ox.1; rw [List.length_take]; omega, ox.2.take n⟩
          have hpre : enc x = enc (x.take n) ++ enc (x.drop n) := by rw [← enc_app, List.take_append_drop]
          have hlen := congrArg List.length hpre
          rw [List.length_append] at hlen
          rw [unisonlaw02_KeyBegins.j2, if_pos (by omega), if_pos (by omega), Int.toNat_natCast, encode_row _ (by omega), some_bind, encK_ok on, if_pos rfl, ex]
          show (if ((strOfNums (enc (x.take n))).size : Int) > ((strOfNums (enc x)).size : Int) then _ else _) = some true
          rw [size_strOfNums, size_strOfNums, if_neg (by omega), if_pos (by omega), if_pos (by omega), Int.toNat_natCast]
          rw [show (((strOfNums (enc x)).extract 0 (enc (x.take n)).length).toList != (strOfNums (enc (x.take n))).toList) = false from bne_eq_false_iff_eq.2 ((front_iff (enc_bytes _) (enc_bytes _)).2 ⟨_, hpre⟩)]
          rw [unisonlaw02_KeyBegins.j3, if_neg (by decide), unisonlaw02_KeyBegins.j4]
          by_cases h1 : (encK y).2 = 0
          · obtain ⟨oy, ey⟩ := encK_of h1
            rw [if_pos h1]
            by_cases hl : (y.length : Int) ≤ (x.length : Int)
            · rw [if_pos hl, ey, size_strOfNums, size_strOfNums]
              by_cases hs : ((enc y).length : Int) ≤ ((enc x).length : Int)
              · rw [if_pos hs, if_pos (by omega), Int.toNat_natCast, Int.toNat_natCast]
                by_cases hf : ((strOfNums (enc x)).extract 0 (enc y).length).toList = (strOfNums (enc y)).toList
                · rw [if_pos hf, if_pos (by omega)]
                  obtain ⟨r, hr⟩ := (front_iff (enc_bytes _) (enc_bytes _)).1 hf
                  have := enc_front oy.2 ox.2 (by omega) hr.symm
                  rw [← this, same_all y y (by omega) (by omega), some_bind, if_pos rfl, decide_eq_true rfl]
                · rw [if_neg hf]
              · rw [if_neg hs]
            · rw [if_neg hl]
          · rw [if_neg h1]
        rw [if_pos h0, e1, if_neg (by omega)]
        by_cases hn : Int.tmod few ((x.length : Int) + 1) < 0
        · rw [if_pos hn, show wrap64 (wrap64 (Int.tmod few ((x.length : Int) + 1) + (x.length : Int)) + 1) = ((Int.tmod few ((x.length : Int) + 1) + (x.length : Int) + 1).toNat : Int) from by unfold wrap64; omega]
          exact step _ (by omega)
        · rw [if_neg hn, show Int.tmod few ((x.length : Int) + 1) = ((Int.tmod few ((x.length : Int) + 1)).toNat : Int) from by omega]
          exact step _ (by omega)
      · rw [if_neg h0]
end Go.Proofs.YtohknmlcleifpaaDoor.Pure
