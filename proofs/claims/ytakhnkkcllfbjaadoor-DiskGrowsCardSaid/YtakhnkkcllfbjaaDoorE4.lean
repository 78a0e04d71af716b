/- named of package disk: what a name is. -/
import Derived.Test.YtakhnkkcllfbjaaDoorE3
import Derived.Test.YtakhnkkcllfbjaaDoorSh
import Derived.Deep.WholeRow
namespace Go.Proofs.YtakhnkkcllfbjaaDoorX
open Go.RowKit Go.Proofs.YtakhnkkcllfbjaaDoorW.PrintWords Go.Proofs.YtakhnkkcllfbjaaDoorW.PrintLast Go.Proofs.YtakhnkkcllfbjaaDoorW.PrintMore
set_option linter.unusedVariables false
set_option linter.unusedSimpArgs false
/-- The letters of a name. -/
def cut : ByteArray := ⟨#[97, 98, 99, 100, 101, 102, 103, 104, 105, 106, 107, 108, 109, 110, 111, 112, 113, 114, 115, 116, 117, 118, 119, 120, 121, 122, 48, 49, 50, 51, 52, 53, 54, 55, 56, 57, 45, 46]⟩
theorem cut_all : ((List.range 256).all fun n => (cut.data.toList.any fun c => c.toNat == n) == nameByte n.toUInt8) = true := by kernel_rfl
theorem cut_idx : ((List.range 128).all fun n => decide (0 ≤ Lib.indexByte cut.data.toList n.toUInt8) == nameByte n.toUInt8) = true := by kernel_rfl
theorem cut_ascii : ∀ c ∈ cut.data.toList, c.toNat < 128 := by decide
theorem setTab_get (l : List UInt8) : ∀ (t : Array Value) (n : Nat), n < t.size → (setTab l t)[n]? = if l.any (fun c => c.toNat == n) then some (.bool true) else t[n]? := by
  induction l with
  | nil => intro t n _; rfl
  | cons c r ih =>
    intro t n hn
    refine (ih _ n (by simpa using hn)).trans ?_
    rw [List.any_cons]
    by_cases h1 : r.any (fun c => c.toNat == n) = true
    · simp [h1]
    · have h1 : r.any (fun c => c.toNat == n) = false := by simpa using h1
      by_cases h2 : c.toNat = n
      · simp [h1, h2, hn]
      · simp [h1, h2, Array.getElem?_setIfInBounds]
theorem tab_name (c : UInt8) : (setTab cut.data.toList zeroTab)[c.toNat]? = some (.bool (nameByte c)) := by
  have hc : c.toNat < 256 := c.toNat_lt
  have h := List.all_eq_true.1 cut_all c.toNat (List.mem_range.2 hc)
  have e : c.toNat.toUInt8 = c := by simp
  rw [e] at h
  have h2 := eq_of_beq h
  rw [setTab_get _ _ _ (by rw [zero_size]; exact hc), h2]
  cases nameByte c
  · simp only [Bool.false_eq_true, if_false]
    unfold zeroTab
    rw [Array.getElem?_replicate, if_pos hc]
  · rfl
theorem idx_name (c : UInt8) (hc : c.toNat < 128) : decide (0 ≤ Lib.indexByte cut.data.toList c) = nameByte c := by
  have h := List.all_eq_true.1 cut_idx c.toNat (List.mem_range.2 hc)
  have e : c.toNat.toUInt8 = c := by simp
  rw [e] at h
  exact eq_of_beq h
theorem name_ascii {c : UInt8} (h : nameByte c = true) : c.toNat < 128 := by
  have hc := h
  unfold nameByte at hc
  simp only [Bool.or_eq_true, beq_iff_eq, Bool.and_eq_true, decide_eq_true_eq] at hc
  rcases hc with ((rfl | rfl) | h2) | h2
  · decide
  · decide
  · have := UInt8.le_iff_toNat_le.1 h2.2
    simp at this; omega
  · have := UInt8.le_iff_toNat_le.1 h2.2
    simp at this; omega
theorem toList_is (s : ByteArray) : s.toList = s.data.toList := ByteArray.toList_eq s
theorem row_new (w : World) (Z : Array Value) (t : TypeId) : (w.alloc (.cells Z t)).heap[w.heap.size]? = some (.cells Z t (0, 0)) := blk_new _ _
theorem zc_size : Tryd.zeroCells93.size = 256 := by rw [zero_is, zero_size]
theorem row_laid (w : World) (Z T : Array Value) (t : TypeId) : ((w.alloc (.cells Z t)).setRow w.heap.size T).heap[w.heap.size]? = some (.cells T t (0, 0)) ∧ Below w.heap.size w ((w.alloc (.cells Z t)).setRow w.heap.size T) :=
  ⟨setRow_heap _ _ _ _ _ _ (blk_new _ _), below_setRow (below_alloc (Below.refl _ _) _) (Nat.le_refl _) _⟩
theorem ext_size {s r : ByteArray} {A : Nat → Prop} (h : ∃ j, j ≤ s.size ∧ r = s.extract 0 j ∧ A j) (hs : s.size ≤ 4611686018427387904) : r.size ≤ 4611686018427387904 := by
  obtain ⟨j, h1, h2, _⟩ := h
  rw [h2, ByteArray.size_extract]
  omega
theorem Trim_calls (s : ByteArray) (h0 : 0 < s.size) (hs : s.size ≤ 4611686018427387904) (w : World) :
    Calls Tryd.prog 47 #[.string s, .string cut] w fun e w' => (∃ r : ByteArray, e = .returned (.string r) ∧ decide (r = ⟨#[]⟩) = s.data.toList.all nameByte) ∧ Below w.heap.size w w' := by
  have cM := make_calls cut (by decide) cut_ascii w
  have e1 : s.toList.isEmpty = false := by
    rw [toList_is]
    cases h : s.data.toList with
    | nil => exact absurd (show s.size = 0 by have := congrArg List.length h; simpa using this) (by omega)
    | cons x r => rfl
  have e2 : cut.toList.isEmpty = false := by rw [toList_is]; rfl
  have e3 : cut.size = 38 := rfl
  have HS := Aside0.mk hs
  have HT : Aside0 (∀ c : UInt8, (setTab cut.data.toList zeroTab)[c.toNat]? = some (.bool (nameByte c))) := ⟨tab_name⟩
  have hT6 : (setTab cut.data.toList zeroTab).size = 256 := by rw [setTab_size, zero_size]
  have hT8 : (setTab cut.data.toList zeroTab).all (·.oneCell') = true := setTab_one _ _ zero_one
  generalize setTab cut.data.toList zeroTab = T at cM HT hT6 hT8
  have H6 := Aside0.mk hT6
  have H8 := Aside0.mk hT8
  have H0 := Aside0.mk h0
  clear hs hT6 hT8 h0
  go_enter Tryd.func47, Tryd.ntmps47
  have hst : ∀ W : World, (Instr.storeAt 93 (.pointer (some ⟨W.heap.size, 0, none⟩)) (.agg T)).run Tryd.prog (W.alloc (.cells Tryd.zeroCells93 93)) = .ok () (W.alloc (.cells T 93)) := fun W => run_storeAt_new W 93 _ T (size93.trans (congrArg some H6.out.symm)) (zc_size.trans H6.out.symm) H8.out
  have hst2 : ∀ W : World, (storeCells ⟨W.heap.size, 0, none⟩ T.toList).run Tryd.prog (W.alloc (.cells Tryd.zeroCells93 93)) = .ok () (W.alloc (.cells T 93)) := fun W => run_storeCells_new W 93 _ T (size93.trans (congrArg some H6.out.symm)) (zc_size.trans H6.out.symm) H8.out
  have hT6 : T.size = 256 := H6.out
  clear H6 H8
  go_upto_region 7 with (go_at_call 61; refine cM.mono ?_; rintro e w1 ⟨rfl, hb1⟩)
  have hblk : (w1.alloc (.cells T 93)).heap[w1.heap.size]? = some (.cells T 93 (0, 0)) := blk_new _ _
  have HB : Aside0 (Below w.heap.size w (w1.alloc (.cells T 93))) := ⟨hb1.trans ((below_alloc (Below.refl _ _) _).mono hb1.size)⟩
  have cR := trimR_calls hblk nameByte HT.out s HS.out
  have HBK := Aside0.mk hblk
  clear hblk hb1 cM hT6 hst hst2
  go_wp2_with (first
    | (go_at_call 63; refine cR.mono ?_; rintro e w2 ⟨⟨r, rfl, hr⟩, rfl⟩; have HR := Aside0.mk hr; clear hr; have cL := trimL_calls HBK.out nameByte HT.out r (ext_size HR.out HS.out))
    | (go_at_call 62; refine cL.mono ?_; rintro e w2 ⟨⟨r2, rfl, hr2⟩, rfl⟩))
  go_ret
  refine ⟨⟨r2, rfl, ?_⟩, HB.out⟩
  obtain ⟨j, hj, hr, hd, hp⟩ := HR.out
  obtain ⟨hr2, hr3⟩ := hr2
  by_cases hall : s.data.toList.all nameByte = true
  · rw [hall]
    have h5 : ∀ c ∈ r.data.toList, nameByte c = true := fun c hc => by
      rw [hr, ByteArray.data_extract, Array.toList_extract] at hc
      exact List.all_eq_true.1 hall c (List.mem_of_mem_drop (List.mem_of_mem_take hc))
    refine decide_eq_true ?_
    have := hr2 h5
    exact ByteArray.ext (Array.eq_empty_of_size_eq_zero this)
  · have hall2 : s.data.toList.all nameByte = false := by simpa using hall
    rw [hall2]
    refine decide_eq_false ?_
    rintro rfl
    have h5 := hr3 rfl
    apply hall
    rw [List.all_eq_true]
    intro c hc
    rw [← List.take_append_drop j s.data.toList] at hc
    rcases List.mem_append.1 hc with h6 | h6
    · refine h5 c ?_
      rw [hr, ByteArray.data_extract, Array.toList_extract, List.extract_eq_take_drop]
      simpa using h6
    · exact hd c h6
end Go.Proofs.YtakhnkkcllfbjaaDoorX
