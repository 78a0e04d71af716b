/- value.Print, whole; no conditions beyond those in each theorem's head. -/
import Derived.Test.YtllehkjebikgpaaGreatDoorX5
import Derived.Test.YtllehkjebikgpaaGreatDoorX3a
namespace Go.Proofs.YtllehkjebikgpaaGreatDoorX
open Go.RowKit Go.Lib Go.Proofs.YtllehkjebikgpaaGreatDoorSh Go.Proofs.YtllehkjebikgpaaGreatDoorW.PrintWords Go.Proofs.YtllehkjebikgpaaGreatDoorW.PrintLast Go.Proofs.YtllehkjebikgpaaGreatDoor.PA
set_option linter.unusedVariables false

/-- What Print tells. -/
def value_Print.f (a0 a1 : Int) (a2 : ByteArray) : Option (ByteArray × Int) := (value_Right.f a0 a1 a2).bind fun r => some (if r = true then (if a0 = 1 then (⟨(Lib.itoa a1).toArray⟩, 0) else if a0 = 2 then (if a1 = 1 then (⟨#[84, 82, 85, 69]⟩, 0) else (⟨#[70, 65, 76, 83, 69]⟩, 0)) else if a0 = 3 then (⟨(quoted a2.data.toList ++ [39]).toArray⟩, 0) else (⟨#[78, 85, 76, 76]⟩, 0)) else (⟨#[]⟩, 10))
theorem right_kinds {a0 a1 : Int} {a2 : ByteArray} (h : value_Right.f a0 a1 a2 = some true) : a0 = 0 ∨ (a0 = 1 ∧ -4611686018427387904 ≤ a1 ∧ a1 ≤ 4611686018427387904) ∨ (a0 = 2 ∧ (a1 = 0 ∨ a1 = 1)) ∨ (a0 = 3 ∧ a1 = 0 ∧ a2.size ≤ 64) := by
  unfold value_Right.f at h
  by_cases h0 : a0 = 0
  · exact .inl h0
  · rw [if_neg h0] at h
    by_cases h1 : a0 = 1
    · rw [if_pos h1] at h
      by_cases g : a1 ≥ (-4611686018427387904)
      · rw [if_pos g] at h
        by_cases k : a1 ≤ 4611686018427387904
        · exact .inr (.inl ⟨h1, g, k⟩)
        · rw [if_neg k] at h; cases h
      · rw [if_neg g] at h; cases h
    · rw [if_neg h1] at h
      by_cases h2 : a0 = 2
      · rw [if_pos h2] at h
        by_cases g : a1 / 2 = 0
        · exact .inr (.inr (.inl ⟨h2, by omega⟩))
        · rw [if_neg g] at h; cases h
      · rw [if_neg h2] at h
        by_cases h3 : a0 = 3
        · rw [if_pos h3] at h
          by_cases g : a1 = 0
          · rw [if_pos g] at h
            have h := Option.some.inj h
            exact .inr (.inr (.inr ⟨h3, g, by have := of_decide_eq_true h; omega⟩))
          · rw [if_neg g] at h; cases h
        · rw [if_neg h3] at h; cases h
set_option maxHeartbeats 16000000 in
set_option maxRecDepth 1000000 in
theorem value_Print.calls (a0 a1 : Int) (a2 r1 : ByteArray) (r2 : Int) (w : World) (h : value_Print.f a0 a1 a2 = some (r1, r2)) (HG : Gw w) :
    Calls Tryz.prog 46 #[.agg #[.int .i64 a0, .int .i64 a1, .string a2]] w fun e w' => e = .returned (.tuple #[.string r1, .int .i64 r2]) ∧ Below w.heap.size w w' := by
  unfold value_Print.f at h
  obtain ⟨r, hR, h⟩ := Option.bind_eq_some_iff.1 h
  cases r with
  | false =>
    obtain ⟨rfl, rfl⟩ : r1 = ⟨#[]⟩ ∧ r2 = 10 := by
      have := Option.some.inj h
      rw [if_neg (by decide)] at this
      cases this; exact ⟨rfl, rfl⟩
    go_enter Tryz.func46, Tryz.ntmps46
    go_wp2_with (first | (go_at_call 60; refine (value_Right.calls a0 a1 a2 false _ hR).mono ?_; rintro e w1 ⟨rfl, hb1⟩; have HB := hid (two_below hb1); clear hb1))
    go_ret2
    exact ⟨rfl, HB.out⟩
  | true =>
    have h := Option.some.inj h
    rw [if_pos rfl] at h
    rcases right_kinds hR with rfl | ⟨rfl, l0, l1⟩ | ⟨rfl, hb⟩ | ⟨rfl, rfl, hs⟩
    · rw [if_neg (by decide), if_neg (by decide), if_neg (by decide)] at h
      cases h
      go_enter Tryz.func46, Tryz.ntmps46
      go_wp2_with (first | (go_at_call 60; refine (value_Right.calls 0 a1 a2 true _ hR).mono ?_; rintro e w1 ⟨rfl, hb1⟩; have B1 := hid (box_kept hb1); have HB := hid (two_below hb1); clear hb1; have c0 : w1.cell? ⟨w.heap.size, 0, none⟩ = some (.int .i64 0) := (blk_cell B1.out 0).trans rfl; have f0 := blk_frozen B1.out 0))
      go_ret2
      exact ⟨rfl, HB.out⟩
    · rw [if_pos rfl] at h
      cases h
      go_enter Tryz.func46, Tryz.ntmps46
      go_wp2_with (first | (go_at_call 60; refine (value_Right.calls 1 a1 a2 true _ hR).mono ?_; rintro e w1 ⟨rfl, hb1⟩; have B1 := hid (box_kept hb1); have HB := hid (two_below hb1); clear hb1; have c0 : w1.cell? ⟨w.heap.size, 0, none⟩ = some (.int .i64 1) := (blk_cell B1.out 0).trans rfl; have c1 : w1.cell? ⟨w.heap.size, 1, none⟩ = some (.int .i64 a1) := (blk_cell B1.out 1).trans rfl; have f0 := blk_frozen B1.out 0; have f1 := blk_frozen B1.out 1) | (go_at_call 30; refine (strconv_Itoa a1 (by omega) (by omega) _ (HG.below HB.out).tab).mono ?_; rintro e w2 ⟨rfl, hb2⟩; have HB2 := hid (HB.out.trans (hb2.mono HB.out.size)); clear HB hb2))
      go_ret2
      exact ⟨rfl, HB2.out⟩
    · rw [if_neg (by decide), if_pos rfl] at h
      have up : ∀ (b : Bool) (W : World), Calls Tryz.prog 61 #[.string ⟨(Lib.formatBool b).toArray⟩] W fun e w' => e = .returned (.string (if b = true then ⟨#[84, 82, 85, 69]⟩ else ⟨#[70, 65, 76, 83, 69]⟩)) ∧ Below W.heap.size W w' := fun b W => by
        have := strings_ToUpper ⟨(Lib.formatBool b).toArray⟩ W (by cases b <;> decide) (by
          intro j c hj
          have hm := List.mem_of_getElem? hj
          clear hj
          have all : ∀ b : Bool, ∀ c ∈ (⟨(Lib.formatBool b).toArray⟩ : ByteArray).data.toList, c.toNat < 128 := by decide
          exact all b c hm)
        cases b with
        | true => exact this
        | false => exact this
      rcases hb with rfl | rfl
      · have u : ∀ W : World, Calls Tryz.prog 61 #[.string ⟨(Lib.formatBool false).toArray⟩] W fun e w' => e = .returned (.string ⟨#[70, 65, 76, 83, 69]⟩) ∧ Below W.heap.size W w' := up false
        cases h
        clear up
        go_enter Tryz.func46, Tryz.ntmps46
        go_wp2_with (first | (go_at_call 60; refine (value_Right.calls 2 0 a2 true _ hR).mono ?_; rintro e w1 ⟨rfl, hb1⟩; have B1 := hid (box_kept hb1); have HB := hid (two_below hb1); clear hb1; have c0 : w1.cell? ⟨w.heap.size, 0, none⟩ = some (.int .i64 2) := (blk_cell B1.out 0).trans rfl; have c1 : w1.cell? ⟨w.heap.size, 1, none⟩ = some (.int .i64 0) := (blk_cell B1.out 1).trans rfl; have f0 := blk_frozen B1.out 0; have f1 := blk_frozen B1.out 1) | (go_at_call 62; refine (strconv_FormatBool false _).mono ?_; rintro e w2 ⟨rfl, rfl⟩) | (go_at_call 61; refine (u _).mono ?_; rintro e w3 ⟨rfl, hb3⟩; have HB3 := hid (HB.out.trans (hb3.mono HB.out.size)); clear HB hb3))
        go_ret2
        exact ⟨rfl, HB3.out⟩
      · have u : ∀ W : World, Calls Tryz.prog 61 #[.string ⟨(Lib.formatBool true).toArray⟩] W fun e w' => e = .returned (.string ⟨#[84, 82, 85, 69]⟩) ∧ Below W.heap.size W w' := up true
        cases h
        clear up
        go_enter Tryz.func46, Tryz.ntmps46
        go_wp2_with (first | (go_at_call 60; refine (value_Right.calls 2 1 a2 true _ hR).mono ?_; rintro e w1 ⟨rfl, hb1⟩; have B1 := hid (box_kept hb1); have HB := hid (two_below hb1); clear hb1; have c0 : w1.cell? ⟨w.heap.size, 0, none⟩ = some (.int .i64 2) := (blk_cell B1.out 0).trans rfl; have c1 : w1.cell? ⟨w.heap.size, 1, none⟩ = some (.int .i64 1) := (blk_cell B1.out 1).trans rfl; have f0 := blk_frozen B1.out 0; have f1 := blk_frozen B1.out 1) | (go_at_call 62; refine (strconv_FormatBool true _).mono ?_; rintro e w2 ⟨rfl, rfl⟩) | (go_at_call 61; refine (u _).mono ?_; rintro e w3 ⟨rfl, hb3⟩; have HB3 := hid (HB.out.trans (hb3.mono HB.out.size)); clear HB hb3))
        go_ret2
        exact ⟨rfl, HB3.out⟩
    · rw [if_neg (by decide), if_neg (by decide), if_pos rfl] at h
      cases h
      exact value_Print_text a2 w hs
end Go.Proofs.YtllehkjebikgpaaGreatDoorX
