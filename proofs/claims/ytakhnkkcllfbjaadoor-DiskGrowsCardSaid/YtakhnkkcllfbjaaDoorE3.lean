/- strings.trimRightASCII, trimLeftASCII at a table: what they cut. -/
import Derived.Test.YtakhnkkcllfbjaaDoorE2
namespace Go.Proofs.YtakhnkkcllfbjaaDoorX
open Go.RowKit Go.Proofs.YtakhnkkcllfbjaaDoorW.PrintWords Go.Proofs.YtakhnkkcllfbjaaDoorW.PrintLast Go.Proofs.YtakhnkkcllfbjaaDoorW.PrintMore
set_option linter.unusedVariables false
set_option linter.unusedSimpArgs false
theorem ext_at {s y : ByteArray} {k i : Nat} (h : y = s.extract 0 k) (h1 : i < y.size) (h2 : i < s.size) : s[i]'h2 = y[i]'h1 := by
  subst h
  rw [ByteArray.getElem_extract]
  simp
theorem drop_pred {l : List UInt8} {n : Nat} (h0 : 0 < n) (h : n - 1 < l.length) : l.drop (n - 1) = l[n - 1] :: l.drop n := by
  rw [List.drop_eq_getElem_cons h, show n - 1 + 1 = n by omega]
theorem bytes_at (s : ByteArray) {i : Nat} (h : i < s.size) (h2 : i < s.data.toList.length) : s.data.toList[i]'h2 = s[i]'h := by simp [ByteArray.getElem_eq_getElem_data]
theorem trimR_calls {w : World} {g : Nat} {tab : Array Value} (hg : w.heap[g]? = some (.cells tab 93 (0, 0))) (p : UInt8 → Bool) (ht : ∀ c : UInt8, tab[c.toNat]? = some (.bool (p c))) (s : ByteArray) (hs : s.size ≤ 4611686018427387904) :
    Calls Tryd.prog 63 #[.string s, .pointer (some ⟨g, 0, none⟩)] w fun e w' => (∃ r : ByteArray, e = .returned (.string r) ∧ ∃ j, j ≤ s.size ∧ r = s.extract 0 j ∧ (∀ c ∈ s.data.toList.drop j, p c = true) ∧ ∀ h : 0 < j ∧ j - 1 < s.size, p (s[j - 1]'h.2) = false) ∧ w' = w := by
  have G := Aside0.mk hg
  have HT : Aside0 (∀ c : UInt8, tab[c.toNat]? = some (.bool (p c))) := ⟨ht⟩
  have HS := Aside0.mk hs
  clear hg ht hs
  go_enter Tryd.func63, Tryd.ntmps63
  go_wp2
  go_loopg [0] s.size (fun kq v0 wr => ∃ y : ByteArray, v0 = .string y ∧ Aside0 (y.size = kq) ∧ Aside0 (y = s.extract 0 kq ∧ kq ≤ s.size ∧ ∀ c ∈ s.data.toList.drop kq, p c = true) ∧ wr = w)
  case atStart => exact ⟨s, rfl, ⟨rfl⟩, ⟨by simp, Nat.le_refl _, by rw [List.drop_of_length_le (by simp)]; simp⟩, rfl⟩
  case round =>
    obtain ⟨y, rfl, h1, h2, rfl⟩ := hrel
    have S1 : (y.size : Int) ≤ 4611686018427387904 := by have := HS.out; have := h1.out; have := h2.out.2.1; omega
    by_cases hz : 0 < y.size
    · have e1 : decide ((0 : Int) < (y.size : Int)) = true := decide_eq_true (by omega)
      have e2 : IntKind.i64.wrap ((y.size : Int) - 1) = ((y.size - 1 : Nat) : Int) := by rw [i64_w]; unfold wrap64; omega
      have hl : y.size - 1 < y.size := by omega
      have e3 : decide (y.size - 1 < y.size) = true := decide_eq_true hl
      have hb : (y[y.size - 1]'hl).toNat < 256 := (y[y.size - 1]'hl).toNat_lt
      have cC := contains_calls G.out ((y[y.size - 1]'hl).toNat : Int) (by omega) (by omega) (p (y[y.size - 1]'hl)) (HT.out _)
      have HZ := Aside0.mk hz
      cases hp : p (y[y.size - 1]'hl) with
      | false =>
        rw [hp] at cC
        have HP : Aside0 (p (y[y.size - 1]'hl) = false) := ⟨hp⟩
        clear hz S1 hb hp
        go_wp2_with (go_at_call 71; refine cC.mono ?_; rintro e w' ⟨rfl, rfl⟩)
        go_ret
        refine ⟨⟨y, rfl, y.size, ?_, ?_, ?_, ?_⟩, rfl⟩
        · rw [h1.out]; exact h2.out.2.1
        · rw [h1.out]; exact h2.out.1
        · rw [h1.out]; exact h2.out.2.2
        · intro h
          have e9 : s[y.size - 1]'h.2 = y[y.size - 1]'hl := ext_at h2.out.1 _ _
          rw [e9]; exact HP.out
      | true =>
        rw [hp] at cC
        have HP : Aside0 (p (y[y.size - 1]'hl) = true) := ⟨hp⟩
        clear hz S1 hb hp
        go_wp2_with (go_at_call 71; refine cC.mono ?_; rintro e w' ⟨rfl, rfl⟩)
        go_roundg (y.size - 1)
        case measure => have := h1.out; have := HZ.out; omega
        case rel =>
          have h2 := h2.out
          have h1 := h1.out
          have hz := HZ.out
          have hys : y.size - 1 < s.size := by omega
          refine ⟨_, rfl, ⟨?_⟩, ⟨?_, ?_, ?_⟩, rfl⟩
          · rw [ByteArray.size_extract]; omega
          · rw [h2.1, ByteArray.extract_extract, ByteArray.size_extract]; congr 1; omega
          · omega
          · intro c hc
            rw [drop_pred hz (by simpa using hys)] at hc
            rcases List.mem_cons.1 hc with rfl | hc
            · rw [bytes_at s hys, ext_at h2.1 hl hys]; exact HP.out
            · rw [h1] at hc; exact h2.2.2 c hc
    · have e1 : decide ((0 : Int) < (y.size : Int)) = false := decide_eq_false (by omega)
      have e2 : decide (0 < y.size) = false := decide_eq_false hz
      have HZ := Aside0.mk hz
      clear hz S1
      go_wp2
      go_ret
      refine ⟨⟨y, rfl, y.size, ?_, ?_, ?_, ?_⟩, rfl⟩
      · rw [h1.out]; exact h2.out.2.1
      · rw [h1.out]; exact h2.out.1
      · rw [h1.out]; exact h2.out.2.2
      · intro h; exact absurd h.1 (by have := HZ.out; omega)
theorem trimL_calls {w : World} {g : Nat} {tab : Array Value} (hg : w.heap[g]? = some (.cells tab 93 (0, 0))) (p : UInt8 → Bool) (ht : ∀ c : UInt8, tab[c.toNat]? = some (.bool (p c))) (s : ByteArray) (hs : s.size ≤ 4611686018427387904) :
    Calls Tryd.prog 62 #[.string s, .pointer (some ⟨g, 0, none⟩)] w fun e w' => (∃ r : ByteArray, e = .returned (.string r) ∧ ((∀ c ∈ s.data.toList, p c = true) → r.size = 0) ∧ (r.size = 0 → ∀ c ∈ s.data.toList, p c = true)) ∧ w' = w := by
  have G := Aside0.mk hg
  have HT : Aside0 (∀ c : UInt8, tab[c.toNat]? = some (.bool (p c))) := ⟨ht⟩
  have HS := Aside0.mk hs
  clear hg ht hs
  go_enter Tryd.func62, Tryd.ntmps62
  go_wp2
  go_loopg [0] s.size (fun kq v0 wr => ∃ y : ByteArray, v0 = .string y ∧ Aside0 (y.size = kq) ∧ Aside0 (kq ≤ s.size ∧ (∀ c ∈ y.data.toList, c ∈ s.data.toList) ∧ ∀ c ∈ s.data.toList, p c = false → c ∈ y.data.toList) ∧ wr = w)
  case atStart => exact ⟨s, rfl, ⟨rfl⟩, ⟨Nat.le_refl _, fun _ hc => hc, fun _ hc _ => hc⟩, rfl⟩
  case round =>
    obtain ⟨y, rfl, h1, h2, rfl⟩ := hrel
    have S1 : (y.size : Int) ≤ 4611686018427387904 := by have := HS.out; have := h1.out; have := h2.out.1; omega
    by_cases hz : 0 < y.size
    · have e1 : decide ((0 : Int) < (y.size : Int)) = true := decide_eq_true (by omega)
      have e1' : decide (1 ≤ y.size) = true := decide_eq_true hz
      have e3 : decide (0 < y.size) = true := decide_eq_true hz
      have hb : (y[0]'hz).toNat < 256 := (y[0]'hz).toNat_lt
      have cC := contains_calls G.out ((y[0]'hz).toNat : Int) (by omega) (by omega) (p (y[0]'hz)) (HT.out _)
      have HZ := Aside0.mk hz
      have hm : y[0]'hz ∈ y.data.toList := by rw [← bytes_at y hz (by simpa using hz)]; exact List.getElem_mem _
      cases hp : p (y[0]'hz) with
      | false =>
        rw [hp] at cC
        have HP : Aside0 (p (y[0]'hz) = false) := ⟨hp⟩
        have HM := Aside0.mk hm
        clear S1 hb hp hm
        go_wp2_with (go_at_call 71; refine cC.mono ?_; rintro e w' ⟨rfl, rfl⟩)
        go_ret
        refine ⟨⟨y, rfl, fun ha => ?_, fun h => absurd h (by have := HZ.out; omega)⟩, rfl⟩
        have := ha _ (h2.out.2.1 _ HM.out)
        rw [HP.out] at this
        cases this
      | true =>
        rw [hp] at cC
        have HP : Aside0 (p (y[0]'hz) = true) := ⟨hp⟩
        clear S1 hb hp hm
        go_wp2_with (go_at_call 71; refine cC.mono ?_; rintro e w' ⟨rfl, rfl⟩)
        go_roundg (y.size - 1)
        case measure => have := h1.out; have := HZ.out; omega
        case rel =>
          have h2 := h2.out
          have h1 := h1.out
          have hz := HZ.out
          refine ⟨_, rfl, ⟨?_⟩, ⟨?_, ?_, ?_⟩, rfl⟩
          · rw [ByteArray.size_extract]; omega
          · omega
          · intro c hc
            rw [ByteArray.data_extract, Array.toList_extract] at hc
            exact h2.2.1 c (List.mem_of_mem_drop (List.mem_of_mem_take hc))
          · intro c hc hpc
            have h5 := h2.2.2 c hc hpc
            have hl : 0 < y.data.toList.length := by simpa using hz
            rw [show y.data.toList = y.data.toList[0]'hl :: y.data.toList.drop 1 from by rw [← List.drop_eq_getElem_cons hl]; rfl] at h5
            rcases List.mem_cons.1 h5 with rfl | h6
            · rw [bytes_at y hz, HP.out] at hpc; cases hpc
            · rw [ByteArray.data_extract, Array.toList_extract, List.extract_eq_take_drop]
              rw [List.take_of_length_le (by simp)]
              exact h6
    · have e1 : decide ((0 : Int) < (y.size : Int)) = false := decide_eq_false (by omega)
      have e2 : decide (0 < y.size) = false := decide_eq_false hz
      have HZ := Aside0.mk hz
      clear hz S1
      go_wp2
      go_ret
      refine ⟨⟨y, rfl, fun _ => by have := HZ.out; omega, fun h c hc => ?_⟩, rfl⟩
      cases hpc : p c with
      | true => rfl
      | false =>
        have h5 := h2.out.2.2 c hc hpc
        have h6 : y.data.toList.length = 0 := by simpa using h
        rw [List.eq_nil_of_length_eq_zero h6] at h5
        cases h5
end Go.Proofs.YtakhnkkcllfbjaaDoorX
