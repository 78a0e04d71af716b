/- named of package disk: what a name is. -/
import Derived.Test.YtakhnkkcllfbjaaDoorE4
namespace Go.Proofs.YtakhnkkcllfbjaaDoorX
open Go.RowKit Go.Proofs.YtakhnkkcllfbjaaDoorW.PrintWords Go.Proofs.YtakhnkkcllfbjaaDoorW.PrintLast Go.Proofs.YtakhnkkcllfbjaaDoorW.PrintMore
set_option linter.unusedVariables false
set_option linter.unusedSimpArgs false
theorem letter_calls (c : UInt8) (hc : c.toNat < 128) (w : World) : Calls Tryd.prog 49 #[.int .i32 (c.toNat : Int)] w fun e w' => e = .returned (.bool (!nameByte c)) ∧ w' = w := by
  have cR := Any.strings_ContainsRune_ascii YtakhnkkcllfbjaaDoorSh.crA cut (c.toNat : Int) w (by omega) (by omega)
  change Calls Tryd.prog 50 _ _ _ at cR
  rw [show ((c.toNat : Int)).toNat.toUInt8 = c by simp, idx_name c hc] at cR
  clear hc
  go_enter Tryd.func49, Tryd.ntmps49
  go_wp2_with (go_at_call 50; refine cR.mono ?_; rintro e w' ⟨rfl, hw⟩; rw [hw])
  go_ret
  exact ⟨rfl, rfl⟩
theorem indexFunc_calls (s : ByteArray) (ha : s.data.toList.all nameByte = true) (w : World) : Calls Tryd.prog 74 #[.string s, .func (.func 49) #[] #[], .bool true] w fun e w' => e = .returned (.int .i64 (-1)) ∧ Below w.heap.size w w' := by
  have HA := Aside0.mk ha
  clear ha
  go_enter Tryd.func74, Tryd.ntmps74
  go_wp2
  go_loopg [] s.size (fun gf wx => ∃ pos : Nat, Aside0 (wx.heap[w.heap.size]? = some (.stringIter s pos)) ∧ Aside0 (Below w.heap.size w wx) ∧ Aside0 (pos + gf = s.size))
  case atStart => exact ⟨0, ⟨World.iter_heap w s 0⟩, ⟨(Below.refl _ w).alloc (Nat.le_refl _) _⟩, ⟨by omega⟩⟩
  case round =>
    obtain ⟨pos, hit, hbw, hp⟩ := hrel
    by_cases hps : pos < s.size
    · have hnx : ∀ ty, (Instr.next (.pointer (some ⟨w.heap.size, 0, none⟩)) true ty).run Tryd.prog wr = _ := fun ty => Lib.run_next_any_at wr w.heap.size s pos ty hit.out hps
      have hm : nameByte (s[pos]'hps) = true := by
        refine List.all_eq_true.1 HA.out _ ?_
        rw [← bytes_at s hps (by simpa using hps)]
        exact List.getElem_mem _
      have h128 := name_ascii hm
      rw [decode_ascii s pos hps h128] at hnx
      have hit2 := Aside0.mk (Lib.iterAt_heap wr w.heap.size s pos (pos + 1) hit.out)
      have hbw2 := Aside0.mk (Lib.below_iterAt hbw.out (k := w.heap.size) (Nat.le_refl _) s (pos + 1))
      generalize wr.iterAt w.heap.size s (pos + 1) = W at hnx hit2 hbw2
      have cL := letter_calls (s[pos]'hps) h128 W
      rw [hm] at cL
      have HPS := Aside0.mk hps
      clear hit hbw hm h128
      go_wp2_with (go_at_call 49; refine cL.mono ?_; rintro e w' ⟨rfl, rfl⟩)
      go_roundg (s.size - (pos + 1))
      case measure => have := hp.out; have := HPS.out; omega
      case rel => exact ⟨pos + 1, hit2, hbw2, ⟨by have := hp.out; have := HPS.out; omega⟩⟩
    · have hnx : ∀ ty, (Instr.next (.pointer (some ⟨w.heap.size, 0, none⟩)) true ty).run Tryd.prog wr = _ := fun ty => Lib.run_next_end_at wr w.heap.size s pos ty hit.out hps
      clear hps
      go_wp2
      go_ret
      exact ⟨rfl, hbw.out⟩
theorem IndexFunc_calls (s : ByteArray) (ha : s.data.toList.all nameByte = true) (w : World) : Calls Tryd.prog 66 #[.string s, .func (.func 49) #[] #[]] w fun e w' => e = .returned (.int .i64 (-1)) ∧ Below w.heap.size w w' := by
  have cL := indexFunc_calls s ha w
  clear ha
  go_enter Tryd.func66, Tryd.ntmps66
  go_wp2_with (go_at_call 74; refine cL.mono ?_; rintro e w' ⟨rfl, hb⟩)
  go_ret
  exact ⟨rfl, hb⟩
theorem ContainsFunc_calls (s : ByteArray) (ha : s.data.toList.all nameByte = true) (w : World) : Calls Tryd.prog 48 #[.string s, .func (.func 49) #[] #[]] w fun e w' => e = .returned (.bool false) ∧ Below w.heap.size w w' := by
  have cL := IndexFunc_calls s ha w
  clear ha
  go_enter Tryd.func48, Tryd.ntmps48
  go_wp2_with (go_at_call 66; refine cL.mono ?_; rintro e w' ⟨rfl, hb⟩)
  go_ret
  exact ⟨rfl, hb⟩
theorem isEmpty_size (s : ByteArray) : s.toList.isEmpty = decide (s.size = 0) := by
  rw [toList_is]
  cases h : s.data.toList with
  | nil =>
    have : s.size = 0 := by have := congrArg List.length h; simpa using this
    simp [this]
  | cons x r =>
    have : s.size ≠ 0 := by
      have := congrArg List.length h
      simp only [Array.length_toList, ByteArray.size_data, List.length_cons] at this
      omega
    simp [this]
theorem isEmpty_eq (s : ByteArray) : s.toList.isEmpty = decide (s = ⟨#[]⟩) := by
  rw [isEmpty_size]
  refine decide_eq_decide.2 ⟨fun h => ByteArray.ext (Array.eq_empty_of_size_eq_zero h), fun h => by rw [h]; rfl⟩
theorem named_calls (s : ByteArray) (w : World) : Calls Tryd.prog 29 #[.string s] w fun e w' => e = .returned (.bool (named s.data.toList)) ∧ Below w.heap.size w w' := by
  have hE := isEmpty_size s
  by_cases h0 : s.size = 0
  · have e1 : s.toList.isEmpty = true := by rw [hE]; exact decide_eq_true h0
    have hN : named s.data.toList = false := by simp [named, h0]
    rw [hN]
    clear hE h0 hN
    go_enter Tryd.func29, Tryd.ntmps29
    go_wp2
    go_ret
    exact ⟨rfl, Below.refl _ _⟩
  · have e1 : s.toList.isEmpty = false := by rw [hE]; exact decide_eq_false h0
    by_cases h1 : s.size ≤ 16
    · have cT := Trim_calls s (by omega) (by omega) w
      have e2 : decide ((s.size : Int) ≤ 16) = true := decide_eq_true (by omega)
      have e2' : decide (s.size ≤ 16) = true := decide_eq_true h1
      cases hA : s.data.toList.all nameByte with
      | true =>
        rw [hA] at cT
        have hN : named s.data.toList = true := by
          simp only [named, hA, Bool.and_true, Array.length_toList, ByteArray.size_data, Bool.and_eq_true, decide_eq_true_eq]
          omega
        rw [hN]
        have H := Aside0.mk hA
        clear hE h0 hN h1 hA
        go_enter Tryd.func29, Tryd.ntmps29
        go_wp2_with (first
          | (go_at_call 47; refine cT.mono ?_; rintro e w1 ⟨⟨r, rfl, hr⟩, hb1⟩; rw [← isEmpty_eq] at hr; have HB1 := Aside0.mk hb1; clear hb1; have cC := ContainsFunc_calls s H.out w1)
          | (go_at_call 48; refine cC.mono ?_; rintro e w2 ⟨rfl, hb2⟩))
        go_ret
        exact ⟨rfl, HB1.out.trans (hb2.mono HB1.out.size)⟩
      | false =>
        rw [hA] at cT
        have hN : named s.data.toList = false := by simp [named, hA]
        rw [hN]
        clear hE h0 hN h1 hA
        go_enter Tryd.func29, Tryd.ntmps29
        go_wp2_with (go_at_call 47; refine cT.mono ?_; rintro e w1 ⟨⟨r, rfl, hr⟩, hb1⟩; rw [← isEmpty_eq] at hr; have HB1 := Aside0.mk hb1; clear hb1)
        go_ret
        exact ⟨rfl, HB1.out⟩
    · have e2 : decide ((s.size : Int) ≤ 16) = false := decide_eq_false (by omega)
      have e2' : decide (s.size ≤ 16) = false := decide_eq_false h1
      have hN : named s.data.toList = false := by simp [named, h1]
      rw [hN]
      clear hE h0 hN h1
      go_enter Tryd.func29, Tryd.ntmps29
      go_wp2
      go_ret
      exact ⟨rfl, Below.refl _ _⟩
end Go.Proofs.YtakhnkkcllfbjaaDoorX
