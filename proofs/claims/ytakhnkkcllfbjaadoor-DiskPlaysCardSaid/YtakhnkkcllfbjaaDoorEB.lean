/- Several texts in one (merge.py): E4, E5, E6, E7, E8; no conditions beyond those in each theorem's head. -/
import Derived.Test.YtakhnkkcllfbjaaDoorEA
import Derived.Test.YtakhnkkcllfbjaaDoorSh
import Derived.Deep.WholeRow
section
namespace Go.Proofs.YtakhnkkcllfbjaaDoorX
open Go.RowKit Go.Proofs.YtakhnkkcllfbjaaDoorW.PrintWords Go.Proofs.YtakhnkkcllfbjaaDoorW.PrintLast Go.Proofs.YtakhnkkcllfbjaaDoorW.PrintMore
set_option linter.unusedVariables false
set_option linter.unusedSimpArgs false
/-- The letters of a name. -/
def cut : ByteArray := ⟨#[97, 98, 99, 100, 101, 102, 103, 104, 105, 106, 107, 108, 109, 110, 111, 112, 113, 114, 115, 116, 117, 118, 119, 120, 121, 122, 48, 49, 50, 51, 52, 53, 54, 55, 56, 57, 45, 46]⟩
theorem cut_all : ((List.range 256).all fun n => (cut.data.toList.any fun c => c.toNat == n) == nameByte n.toUInt8) = true := by kernel_rfl
theorem cut_idx : ((List.range 128).all fun n => decide (0 ≤ Lib.indexByte cut.data.toList n.toUInt8) == nameByte n.toUInt8) = true := by kernel_rfl
theorem cut_ascii : ∀ c ∈ cut.data.toList, c.toNat < 128 := by decide
theorem setTab_get (l : List UInt8) : ∀ (t : Array Value) (n : Nat), n < t.size → (setTab l t)[n]? = if l.any (fun c => c.toNat == n) then some (.bool true) else t[n]? := by
  induction l with
  | nil => intro t n _; rfl
  | cons c r ih =>
    intro t n hn
    refine (ih _ n (by simpa using hn)).trans ?_
    rw [List.any_cons]
    by_cases h1 : r.any (fun c => c.toNat == n) = true
    · simp [h1]
    · have h1 : r.any (fun c => c.toNat == n) = false := by simpa using h1
      by_cases h2 : c.toNat = n
      · simp [h1, h2, hn]
      · simp [h1, h2, Array.getElem?_setIfInBounds]
theorem tab_name (c : UInt8) : (setTab cut.data.toList zeroTab)[c.toNat]? = some (.bool (nameByte c)) := by
  have hc : c.toNat < 256 := c.toNat_lt
  have h := List.all_eq_true.1 cut_all c.toNat (List.mem_range.2 hc)
  have e : c.toNat.toUInt8 = c := by simp
  rw [e] at h
  have h2 := eq_of_beq h
  rw [setTab_get _ _ _ (by rw [zero_size]; exact hc), h2]
  cases nameByte c
  · simp only [Bool.false_eq_true, if_false]
    unfold zeroTab
    rw [Array.getElem?_replicate, if_pos hc]
  · rfl
theorem idx_name (c : UInt8) (hc : c.toNat < 128) : decide (0 ≤ Lib.indexByte cut.data.toList c) = nameByte c := by
  have h := List.all_eq_true.1 cut_idx c.toNat (List.mem_range.2 hc)
  have e : c.toNat.toUInt8 = c := by simp
  rw [e] at h
  exact eq_of_beq h
theorem name_ascii {c : UInt8} (h : nameByte c = true) : c.toNat < 128 := by
  have hc := h
  unfold nameByte at hc
  simp only [Bool.or_eq_true, beq_iff_eq, Bool.and_eq_true, decide_eq_true_eq] at hc
  rcases hc with ((rfl | rfl) | h2) | h2
  · decide
  · decide
  · have := UInt8.le_iff_toNat_le.1 h2.2
    simp at this; omega
  · have := UInt8.le_iff_toNat_le.1 h2.2
    simp at this; omega
theorem toList_is (s : ByteArray) : s.toList = s.data.toList := ByteArray.toList_eq s
theorem row_new (w : World) (Z : Array Value) (t : TypeId) : (w.alloc (.cells Z t)).heap[w.heap.size]? = some (.cells Z t (0, 0)) := blk_new _ _
theorem zc_size : Tryd.zeroCells93.size = 256 := by rw [zero_is, zero_size]
theorem row_laid (w : World) (Z T : Array Value) (t : TypeId) : ((w.alloc (.cells Z t)).setRow w.heap.size T).heap[w.heap.size]? = some (.cells T t (0, 0)) ∧ Below w.heap.size w ((w.alloc (.cells Z t)).setRow w.heap.size T) :=
  ⟨setRow_heap _ _ _ _ _ _ (blk_new _ _), below_setRow (below_alloc (Below.refl _ _) _) (Nat.le_refl _) _⟩
theorem ext_size {s r : ByteArray} {A : Nat → Prop} (h : ∃ j, j ≤ s.size ∧ r = s.extract 0 j ∧ A j) (hs : s.size ≤ 4611686018427387904) : r.size ≤ 4611686018427387904 := by
  obtain ⟨j, h1, h2, _⟩ := h
  rw [h2, ByteArray.size_extract]
  omega
theorem Trim_calls (s : ByteArray) (h0 : 0 < s.size) (hs : s.size ≤ 4611686018427387904) (w : World) :
    Calls Tryd.prog 47 #[.string s, .string cut] w fun e w' => (∃ r : ByteArray, e = .returned (.string r) ∧ decide (r = ⟨#[]⟩) = s.data.toList.all nameByte) ∧ Below w.heap.size w w' := by
  have cM := make_calls cut (by decide) cut_ascii w
  have e1 : s.toList.isEmpty = false := by
    rw [toList_is]
    cases h : s.data.toList with
    | nil => exact absurd (show s.size = 0 by have := congrArg List.length h; simpa using this) (by omega)
    | cons x r => rfl
  have e2 : cut.toList.isEmpty = false := by rw [toList_is]; rfl
  have e3 : cut.size = 38 := rfl
  have HS := Aside0.mk hs
  have HT : Aside0 (∀ c : UInt8, (setTab cut.data.toList zeroTab)[c.toNat]? = some (.bool (nameByte c))) := ⟨tab_name⟩
  have hT6 : (setTab cut.data.toList zeroTab).size = 256 := by rw [setTab_size, zero_size]
  have hT8 : (setTab cut.data.toList zeroTab).all (·.oneCell') = true := setTab_one _ _ zero_one
  generalize setTab cut.data.toList zeroTab = T at cM HT hT6 hT8
  have H6 := Aside0.mk hT6
  have H8 := Aside0.mk hT8
  have H0 := Aside0.mk h0
  clear hs hT6 hT8 h0
  go_enter Tryd.func47, Tryd.ntmps47
  have hst : ∀ W : World, (Instr.storeAt 93 (.pointer (some ⟨W.heap.size, 0, none⟩)) (.agg T)).run Tryd.prog (W.alloc (.cells Tryd.zeroCells93 93)) = .ok () (W.alloc (.cells T 93)) := fun W => run_storeAt_new W 93 _ T (size93.trans (congrArg some H6.out.symm)) (zc_size.trans H6.out.symm) H8.out
  have hst2 : ∀ W : World, (storeCells ⟨W.heap.size, 0, none⟩ T.toList).run Tryd.prog (W.alloc (.cells Tryd.zeroCells93 93)) = .ok () (W.alloc (.cells T 93)) := fun W => run_storeCells_new W 93 _ T (size93.trans (congrArg some H6.out.symm)) (zc_size.trans H6.out.symm) H8.out
  have hT6 : T.size = 256 := H6.out
  clear H6 H8
  go_upto_region 7 with (go_at_call 61; refine cM.mono ?_; rintro e w1 ⟨rfl, hb1⟩)
  have hblk : (w1.alloc (.cells T 93)).heap[w1.heap.size]? = some (.cells T 93 (0, 0)) := blk_new _ _
  have HB : Aside0 (Below w.heap.size w (w1.alloc (.cells T 93))) := ⟨hb1.trans ((below_alloc (Below.refl _ _) _).mono hb1.size)⟩
  have cR := trimR_calls hblk nameByte HT.out s HS.out
  have HBK := Aside0.mk hblk
  clear hblk hb1 cM hT6 hst hst2
  go_wp2_with (first
    | (go_at_call 63; refine cR.mono ?_; rintro e w2 ⟨⟨r, rfl, hr⟩, rfl⟩; have HR := Aside0.mk hr; clear hr; have cL := trimL_calls HBK.out nameByte HT.out r (ext_size HR.out HS.out))
    | (go_at_call 62; refine cL.mono ?_; rintro e w2 ⟨⟨r2, rfl, hr2⟩, rfl⟩))
  go_ret
  refine ⟨⟨r2, rfl, ?_⟩, HB.out⟩
  obtain ⟨j, hj, hr, hd, hp⟩ := HR.out
  obtain ⟨hr2, hr3⟩ := hr2
  by_cases hall : s.data.toList.all nameByte = true
  · rw [hall]
    have h5 : ∀ c ∈ r.data.toList, nameByte c = true := fun c hc => by
      rw [hr, ByteArray.data_extract, Array.toList_extract] at hc
      exact List.all_eq_true.1 hall c (List.mem_of_mem_drop (List.mem_of_mem_take hc))
    refine decide_eq_true ?_
    have := hr2 h5
    exact ByteArray.ext (Array.eq_empty_of_size_eq_zero this)
  · have hall2 : s.data.toList.all nameByte = false := by simpa using hall
    rw [hall2]
    refine decide_eq_false ?_
    rintro rfl
    have h5 := hr3 rfl
    apply hall
    rw [List.all_eq_true]
    intro c hc
    rw [← List.take_append_drop j s.data.toList] at hc
    rcases List.mem_append.1 hc with h6 | h6
    · refine h5 c ?_
      rw [hr, ByteArray.data_extract, Array.toList_extract, List.extract_eq_take_drop]
      simpa using h6
    · exact hd c h6
end Go.Proofs.YtakhnkkcllfbjaaDoorX
end
section
namespace Go.Proofs.YtakhnkkcllfbjaaDoorX
open Go.RowKit Go.Proofs.YtakhnkkcllfbjaaDoorW.PrintWords Go.Proofs.YtakhnkkcllfbjaaDoorW.PrintLast Go.Proofs.YtakhnkkcllfbjaaDoorW.PrintMore
set_option linter.unusedVariables false
set_option linter.unusedSimpArgs false
theorem letter_calls (c : UInt8) (hc : c.toNat < 128) (w : World) : Calls Tryd.prog 49 #[.int .i32 (c.toNat : Int)] w fun e w' => e = .returned (.bool (!nameByte c)) ∧ w' = w := by
  have cR := Any.strings_ContainsRune_ascii YtakhnkkcllfbjaaDoorSh.crA cut (c.toNat : Int) w (by omega) (by omega)
  change Calls Tryd.prog 50 _ _ _ at cR
  rw [show ((c.toNat : Int)).toNat.toUInt8 = c by simp, idx_name c hc] at cR
  clear hc
  go_enter Tryd.func49, Tryd.ntmps49
  go_wp2_with (go_at_call 50; refine cR.mono ?_; rintro e w' ⟨rfl, hw⟩; rw [hw])
  go_ret
  exact ⟨rfl, rfl⟩
theorem indexFunc_calls (s : ByteArray) (ha : s.data.toList.all nameByte = true) (w : World) : Calls Tryd.prog 74 #[.string s, .func (.func 49) #[] #[], .bool true] w fun e w' => e = .returned (.int .i64 (-1)) ∧ Below w.heap.size w w' := by
  have HA := Aside0.mk ha
  clear ha
  go_enter Tryd.func74, Tryd.ntmps74
  go_wp2
  go_loopg [] s.size (fun gf wx => ∃ pos : Nat, Aside0 (wx.heap[w.heap.size]? = some (.stringIter s pos)) ∧ Aside0 (Below w.heap.size w wx) ∧ Aside0 (pos + gf = s.size))
  case atStart => exact ⟨0, ⟨World.iter_heap w s 0⟩, ⟨(Below.refl _ w).alloc (Nat.le_refl _) _⟩, ⟨by omega⟩⟩
  case round =>
    obtain ⟨pos, hit, hbw, hp⟩ := hrel
    by_cases hps : pos < s.size
    · have hnx : ∀ ty, (Instr.next (.pointer (some ⟨w.heap.size, 0, none⟩)) true ty).run Tryd.prog wr = _ := fun ty => Lib.run_next_any_at wr w.heap.size s pos ty hit.out hps
      have hm : nameByte (s[pos]'hps) = true := by
        refine List.all_eq_true.1 HA.out _ ?_
        rw [← bytes_at s hps (by simpa using hps)]
        exact List.getElem_mem _
      have h128 := name_ascii hm
      rw [decode_ascii s pos hps h128] at hnx
      have hit2 := Aside0.mk (Lib.iterAt_heap wr w.heap.size s pos (pos + 1) hit.out)
      have hbw2 := Aside0.mk (Lib.below_iterAt hbw.out (k := w.heap.size) (Nat.le_refl _) s (pos + 1))
      generalize wr.iterAt w.heap.size s (pos + 1) = W at hnx hit2 hbw2
      have cL := letter_calls (s[pos]'hps) h128 W
      rw [hm] at cL
      have HPS := Aside0.mk hps
      clear hit hbw hm h128
      go_wp2_with (go_at_call 49; refine cL.mono ?_; rintro e w' ⟨rfl, rfl⟩)
      go_roundg (s.size - (pos + 1))
      case measure => have := hp.out; have := HPS.out; omega
      case rel => exact ⟨pos + 1, hit2, hbw2, ⟨by have := hp.out; have := HPS.out; omega⟩⟩
    · have hnx : ∀ ty, (Instr.next (.pointer (some ⟨w.heap.size, 0, none⟩)) true ty).run Tryd.prog wr = _ := fun ty => Lib.run_next_end_at wr w.heap.size s pos ty hit.out hps
      clear hps
      go_wp2
      go_ret
      exact ⟨rfl, hbw.out⟩
theorem IndexFunc_calls (s : ByteArray) (ha : s.data.toList.all nameByte = true) (w : World) : Calls Tryd.prog 66 #[.string s, .func (.func 49) #[] #[]] w fun e w' => e = .returned (.int .i64 (-1)) ∧ Below w.heap.size w w' := by
  have cL := indexFunc_calls s ha w
  clear ha
  go_enter Tryd.func66, Tryd.ntmps66
  go_wp2_with (go_at_call 74; refine cL.mono ?_; rintro e w' ⟨rfl, hb⟩)
  go_ret
  exact ⟨rfl, hb⟩
theorem ContainsFunc_calls (s : ByteArray) (ha : s.data.toList.all nameByte = true) (w : World) : Calls Tryd.prog 48 #[.string s, .func (.func 49) #[] #[]] w fun e w' => e = .returned (.bool false) ∧ Below w.heap.size w w' := by
  have cL := IndexFunc_calls s ha w
  clear ha
  go_enter Tryd.func48, Tryd.ntmps48
  go_wp2_with (go_at_call 66; refine cL.mono ?_; rintro e w' ⟨rfl, hb⟩)
  go_ret
  exact ⟨rfl, hb⟩
theorem isEmpty_size (s : ByteArray) : s.toList.isEmpty = decide (s.size = 0) := by
  rw [toList_is]
  cases h : s.data.toList with
  | nil =>
    have : s.size = 0 := by have := congrArg List.length h; simpa using this
    simp [this]
  | cons x r =>
    have : s.size ≠ 0 := by
      have := congrArg List.length h
      simp only [Array.length_toList, ByteArray.size_data, List.length_cons] at this
      omega
    simp [this]
theorem isEmpty_eq (s : ByteArray) : s.toList.isEmpty = decide (s = ⟨#[]⟩) := by
  rw [isEmpty_size]
  refine decide_eq_decide.2 ⟨fun h => ByteArray.ext (Array.eq_empty_of_size_eq_zero h), fun h => by rw [h]; rfl⟩
theorem named_calls (s : ByteArray) (w : World) : Calls Tryd.prog 29 #[.string s] w fun e w' => e = .returned (.bool (named s.data.toList)) ∧ Below w.heap.size w w' := by
  have hE := isEmpty_size s
  by_cases h0 : s.size = 0
  · have e1 : s.toList.isEmpty = true := by rw [hE]; exact decide_eq_true h0
    have hN : named s.data.toList = false := by simp [named, h0]
    rw [hN]
    clear hE h0 hN
    go_enter Tryd.func29, Tryd.ntmps29
    go_wp2
    go_ret
    exact ⟨rfl, Below.refl _ _⟩
  · have e1 : s.toList.isEmpty = false := by rw [hE]; exact decide_eq_false h0
    by_cases h1 : s.size ≤ 16
    · have cT := Trim_calls s (by omega) (by omega) w
      have e2 : decide ((s.size : Int) ≤ 16) = true := decide_eq_true (by omega)
      have e2' : decide (s.size ≤ 16) = true := decide_eq_true h1
      cases hA : s.data.toList.all nameByte with
      | true =>
        rw [hA] at cT
        have hN : named s.data.toList = true := by
          simp only [named, hA, Bool.and_true, Array.length_toList, ByteArray.size_data, Bool.and_eq_true, decide_eq_true_eq]
          omega
        rw [hN]
        have H := Aside0.mk hA
        clear hE h0 hN h1 hA
        go_enter Tryd.func29, Tryd.ntmps29
        go_wp2_with (first
          | (go_at_call 47; refine cT.mono ?_; rintro e w1 ⟨⟨r, rfl, hr⟩, hb1⟩; rw [← isEmpty_eq] at hr; have HB1 := Aside0.mk hb1; clear hb1; have cC := ContainsFunc_calls s H.out w1)
          | (go_at_call 48; refine cC.mono ?_; rintro e w2 ⟨rfl, hb2⟩))
        go_ret
        exact ⟨rfl, HB1.out.trans (hb2.mono HB1.out.size)⟩
      | false =>
        rw [hA] at cT
        have hN : named s.data.toList = false := by simp [named, hA]
        rw [hN]
        clear hE h0 hN h1 hA
        go_enter Tryd.func29, Tryd.ntmps29
        go_wp2_with (go_at_call 47; refine cT.mono ?_; rintro e w1 ⟨⟨r, rfl, hr⟩, hb1⟩; rw [← isEmpty_eq] at hr; have HB1 := Aside0.mk hb1; clear hb1)
        go_ret
        exact ⟨rfl, HB1.out⟩
    · have e2 : decide ((s.size : Int) ≤ 16) = false := decide_eq_false (by omega)
      have e2' : decide (s.size ≤ 16) = false := decide_eq_false h1
      have hN : named s.data.toList = false := by simp [named, h1]
      rw [hN]
      clear hE h0 hN h1
      go_enter Tryd.func29, Tryd.ntmps29
      go_wp2
      go_ret
      exact ⟨rfl, Below.refl _ _⟩
end Go.Proofs.YtakhnkkcllfbjaaDoorX
end
section
namespace Go.Proofs.YtakhnkkcllfbjaaDoorX
open Go.RowKit Go.Proofs.YtakhnkkcllfbjaaDoorW.PrintWords Go.Proofs.YtakhnkkcllfbjaaDoorW.PrintLast Go.Proofs.YtakhnkkcllfbjaaDoorW.PrintMore
set_option linter.unusedVariables false
set_option linter.unusedSimpArgs false
def AD.findQ (D : AD) (lay : Lay) (x : Nm) : Option Nat := if D.findE x = 0 then some (lay x).1 else none
theorem mapL_some {lay : Lay} {L : List AF} {x : Nm} {f : AF} (h : findL x L = some f) : mapL lay L x = some (some (lay x).1) := by simp [mapL, hasL, h]
theorem mapL_none {lay : Lay} {L : List AF} {x : Nm} (h : findL x L = none) : mapL lay L x = none := by simp [mapL, hasL, h]
theorem find_calls {w : World} {a m : Nat} {lay : Lay} {D : AD} (h : DK w a m lay D) (s : ByteArray) (hs : s.size ≤ maxLen) :
    Calls Tryd.prog 30 #[.pointer (some ⟨a, 0, none⟩), .string s] w fun e w' => e = .returned (.tuple #[ptrVal (D.findQ lay s.data.toList), .int .i64 (D.findE s.data.toList)]) ∧ Below w.heap.size w w' := by
  obtain ⟨c0, c1, c2, c3, c4, c5⟩ := head_cells h.head
  have MP := Aside0.mk h.map
  have HS := Aside0.mk hs
  have cN := named_calls s
  clear h hs c0 c2 c3 c5
  by_cases hd : D.down = true
  · have hE : Aside0 (D.findE s.data.toList = 3) := ⟨by unfold AD.findE; rw [if_pos hd]⟩
    have hQ : Aside0 (D.findQ lay s.data.toList = none) := ⟨by unfold AD.findQ; rw [hE.out]; rfl⟩
    rw [hE.out, hQ.out]
    clear hE hQ cN
    cases hf : findL s.data.toList D.L with
    | none =>
      have hM := mapL_none (lay := lay) hf
      clear hf
      go_enter Tryd.func30, Tryd.ntmps30
      go_wp2_with (at_lookup; refine wp_look_ok rfl MP.out _ _ rfl Tryd.underlying9 Tryd.underlying62 (Tryd.zeroValue65 w) rfl s rfl HS.out ?_; simp only [hM, Option.getD, Option.isSome, ptrVal])
      go_ret2
      exact ⟨rfl, Below.refl _ _⟩
    | some f =>
      have hM := mapL_some (lay := lay) hf
      clear hf
      go_enter Tryd.func30, Tryd.ntmps30
      go_wp2_with (at_lookup; refine wp_look_ok rfl MP.out _ _ rfl Tryd.underlying9 Tryd.underlying62 (Tryd.zeroValue65 w) rfl s rfl HS.out ?_; simp only [hM, Option.getD, Option.isSome, ptrVal])
      go_ret2
      exact ⟨rfl, Below.refl _ _⟩
  · have hd2 : D.down = false := by simpa using hd
    cases hn : named s.data.toList with
    | false =>
      have hE : Aside0 (D.findE s.data.toList = 40) := ⟨by unfold AD.findE; rw [if_neg hd, if_pos hn]⟩
      have hQ : Aside0 (D.findQ lay s.data.toList = none) := ⟨by unfold AD.findQ; rw [hE.out]; rfl⟩
      rw [hE.out, hQ.out]
      rw [hn] at cN
      clear hE hQ hn hd
      cases hf : findL s.data.toList D.L with
      | none =>
        have hM := mapL_none (lay := lay) hf
        clear hf
        go_enter Tryd.func30, Tryd.ntmps30
        go_wp2_with (first
          | (at_lookup; refine wp_look_ok rfl MP.out _ _ rfl Tryd.underlying9 Tryd.underlying62 (Tryd.zeroValue65 w) rfl s rfl HS.out ?_; simp only [hM, Option.getD, Option.isSome, ptrVal])
          | (go_at_call 29; refine (cN _).mono ?_; rintro e w1 ⟨rfl, hb1⟩))
        go_ret2
        exact ⟨rfl, hb1⟩
      | some f =>
        have hM := mapL_some (lay := lay) hf
        clear hf
        go_enter Tryd.func30, Tryd.ntmps30
        go_wp2_with (first
          | (at_lookup; refine wp_look_ok rfl MP.out _ _ rfl Tryd.underlying9 Tryd.underlying62 (Tryd.zeroValue65 w) rfl s rfl HS.out ?_; simp only [hM, Option.getD, Option.isSome, ptrVal])
          | (go_at_call 29; refine (cN _).mono ?_; rintro e w1 ⟨rfl, hb1⟩))
        go_ret2
        exact ⟨rfl, hb1⟩
    | true =>
      have hn' : ¬ named s.data.toList = false := by rw [hn]; decide
      rw [hn] at cN
      cases hf : findL s.data.toList D.L with
      | none =>
        have hE : Aside0 (D.findE s.data.toList = 41) := ⟨by unfold AD.findE; rw [if_neg hd, if_neg hn', if_pos (by rw [hf]; rfl)]⟩
        have hQ : Aside0 (D.findQ lay s.data.toList = none) := ⟨by unfold AD.findQ; rw [hE.out]; rfl⟩
        rw [hE.out, hQ.out]
        have hM := mapL_none (lay := lay) hf
        clear hf hn hn' hd hE hQ
        go_enter Tryd.func30, Tryd.ntmps30
        go_wp2_with (first
          | (at_lookup; refine wp_look_ok rfl MP.out _ _ rfl Tryd.underlying9 Tryd.underlying62 (Tryd.zeroValue65 w) rfl s rfl HS.out ?_; simp only [hM, Option.getD, Option.isSome, ptrVal])
          | (go_at_call 29; refine (cN _).mono ?_; rintro e w1 ⟨rfl, hb1⟩))
        go_ret2
        exact ⟨rfl, hb1⟩
      | some f =>
        have hE : Aside0 (D.findE s.data.toList = 0) := ⟨by unfold AD.findE; rw [if_neg hd, if_neg hn', if_neg (by rw [hf]; simp)]⟩
        have hQ : Aside0 (D.findQ lay s.data.toList = some (lay s.data.toList).1) := ⟨by unfold AD.findQ; rw [hE.out]; rfl⟩
        rw [hE.out, hQ.out]
        have hM := mapL_some (lay := lay) hf
        clear hf hn hn' hd hE hQ
        go_enter Tryd.func30, Tryd.ntmps30
        go_wp2_with (first
          | (at_lookup; refine wp_look_ok rfl MP.out _ _ rfl Tryd.underlying9 Tryd.underlying62 (Tryd.zeroValue65 w) rfl s rfl HS.out ?_; simp only [hM, Option.getD, Option.isSome, ptrVal])
          | (go_at_call 29; refine (cN _).mono ?_; rintro e w1 ⟨rfl, hb1⟩))
        go_ret2
        exact ⟨rfl, hb1⟩
end Go.Proofs.YtakhnkkcllfbjaaDoorX
end
section
namespace Go.Proofs.YtakhnkkcllfbjaaDoorX
open Go.RowKit Go.Proofs.YtakhnkkcllfbjaaDoorW.PrintWords Go.Proofs.YtakhnkkcllfbjaaDoorW.PrintLast Go.Proofs.YtakhnkkcllfbjaaDoorW.PrintMore
set_option linter.unusedVariables false
set_option linter.unusedSimpArgs false
/-- A file's cells, behind a name. -/
theorem DK.at {w : World} {a m : Nat} {lay : Lay} {D : AD} (h : DK w a m lay D) {x : Nm} {f : AF} (hf : findL x D.L = some f) : FileAt w (lay x) f := by
  obtain ⟨h1, h2⟩ := findL_name hf
  have := h.file f h2
  rwa [h1] at this
theorem DK.below {w w' : World} {a m : Nat} {lay : Lay} {D : AD} (h : DK w a m lay D) (hb : Below w.heap.size w w') : DK w' a m lay D := h.fr (Fr.of_below hb []) (by simp)
theorem mapL_congr {lay lay' : Lay} {L L' : List AF} (h1 : ∀ y, hasL y L' = hasL y L) (h2 : ∀ y, hasL y L = true → (lay' y).1 = (lay y).1) : mapL lay' L' = mapL lay L := by
  funext y
  unfold mapL
  rw [h1 y]
  split
  · rename_i h; rw [h2 y h]
  · rfl
theorem setLay_self (lay : Lay) (x : Nm) : setLay lay x (lay x) = lay := by
  funext y
  unfold setLay
  split
  · rename_i h; rw [h]
  · rfl
theorem hasL_upd {x y : Nm} {g : AF → AF} (hg : ∀ f, (g f).name = f.name) {L : List AF} : hasL y (updL x g L) = hasL y L := by
  unfold hasL
  rw [findL_updL hg]
  split
  · cases findL y L <;> rfl
  · rfl
theorem mem_upd {x : Nm} {g : AF → AF} (hg : ∀ f, (g f).name = f.name) {L : List AF} (hr : Rising L) {f : AF} (hf : findL x L = some f) : ∀ q ∈ updL x g L, q = g f ∨ (q ∈ L ∧ q.name ≠ (g f).name ∧ q.name ≠ x) := fun q hq => by
  obtain ⟨h1, h2⟩ := findL_name hf
  rcases mem_updL hq with ⟨f', h3, h4, rfl⟩ | ⟨h3, h4⟩
  · have h5 := findL_mem hr h3
    rw [h4, hf] at h5
    cases h5
    exact .inl rfl
  · exact .inr ⟨h3, by rw [hg, h1]; exact h4, h4⟩
theorem owns_at {lay : Lay} {L : List AF} {x : Nm} {f : AF} (hf : findL x L = some f) : ∀ k ∈ ownF (lay x), k ∈ ownL lay L := fun k hk => by
  obtain ⟨h1, h2⟩ := findL_name hf
  rw [← h1] at hk
  exact mem_ownL.2 ⟨f, h2, hk⟩
theorem sync_done {w1 w2 : World} {a m : Nat} {lay : Lay} {D : AD} {x : Nm} (h2 : DK w1 a m lay D.tick) (hok : ({ D.tick with L := updL x safeF D.L } : AD).Ok) {f : AF} (hf : findL x D.L = some f)
    (hw : w2 = w1.setCell ⟨(lay x).1, 1, none⟩ (.int .i64 f.data.size)) : DK w2 a m lay { D.tick with L := updL x safeF D.L } ∧ Fr [(lay x).1] w1 w2 := by
  have hat := h2.at (x := x) hf
  have hfr : Fr [(lay x).1] w1 w2 := by subst hw; exact (Fr.refl _ _).setCell (.inl (by simp)) _
  obtain ⟨hn, hm⟩ := findL_name hf
  have hfa : (lay x).1 ∈ ownF (lay f.name) := by rw [hn]; simp [ownF]
  have hna : a ∉ [(lay x).1] := by simp only [List.mem_singleton]; intro e; exact h2.sep.afar f hm (e ▸ hfa)
  have hnm : m ∉ [(lay x).1] := by simp only [List.mem_singleton]; intro e; exact h2.sep.mfar f hm (e ▸ hfa)
  have hself := h2.sep.self f hm
  rw [hn] at hself
  have key := h2.one (w' := w2) (D' := { D.tick with L := updL x safeF D.L }) (safeF f) x (lay x) ?_ ?_ hok (fun q hq => by
      rcases mem_upd (g := safeF) (fun _ => rfl) h2.ok.rising hf q hq with h3 | ⟨h3, h4, h5⟩
      · exact .inl h3
      · exact .inr ⟨h3, h4, h5⟩) ?_ ?_ (fun k hk => .inr ⟨⟨f, hm, hn⟩, hk⟩) hself
  · have e3 : setLay lay (safeF f).name (lay x) = lay := by rw [show (safeF f).name = x from hn]; exact setLay_self _ _
    rw [e3] at key
    exact ⟨key.1, hfr⟩
  · have h3 := hfr.blk h2.head hna
    rw [h3]
    simp only [headD, AD.used, updL_tot (g := safeF) h2.ok.rising hf]
    have ht := updL_tot (g := safeF) h2.ok.rising hf
    have ht2 : totL (updL x safeF D.L) = totL D.L := by simp only [safeF] at ht; exact Nat.add_right_cancel ht
    rw [ht2]
    rfl
  · have e3 : setLay lay (safeF f).name (lay x) = lay := by rw [show (safeF f).name = x from hn]; exact setLay_self _ _
    have h3 := h2.map.fr hfr hnm
    rw [e3]
    show MapP _ _ _ _ (updL x safeF D.L).length (mapL lay (updL x safeF D.L))
    rw [updL_length, mapL_congr (lay := lay) (lay' := lay) (fun y => hasL_upd (g := safeF) (fun _ => rfl)) (fun _ _ => rfl)]
    exact h3
  · refine ⟨?_, hat.2.step (fun k hk => hfr.block k (hat.2.lt k hk) (by simp only [List.mem_singleton]; rintro rfl; exact hself hk))⟩
    subst hw
    exact blk_put hat.1 1 _ rfl
  · intro q hq h3 h4 k hk
    refine hfr.block k ((h2.file q hq).lt k hk) ?_
    simp only [List.mem_singleton]
    rintro rfl
    exact h2.sep.two q hq f hm (by rw [hn]; exact h4) _ hk hfa
theorem Sync_calls {w : World} {a m : Nat} {lay : Lay} {D : AD} (h : DK w a m lay D) (s : ByteArray) (hs : s.size ≤ maxLen) :
    Calls Tryd.prog 11 #[.pointer (some ⟨a, 0, none⟩), .string s] w fun e w' => e = .returned (.int .i64 (D.sync s.data.toList).2) ∧ DK w' a m lay (D.sync s.data.toList).1 ∧ Fr (a :: m :: ownL lay D.L) w w' := by
  have cF := find_calls h s hs
  have H := Aside0.mk h
  have OK := Aside0.mk (h.ok.sync s.data.toList)
  by_cases he : D.findE s.data.toList = 0
  · obtain ⟨_, _, f, hf⟩ := findE_ok he
    have hat := h.at hf
    obtain ⟨p, c, hv⟩ := hat.2.shape
    rw [he] at cF
    have hq : D.findQ lay s.data.toList = some (lay s.data.toList).1 := if_pos he
    rw [hq] at cF
    by_cases hz : D.armed = 0
    · have E : Aside0 (D.sync s.data.toList = (D.fall, 3)) := ⟨by unfold AD.sync; rw [if_neg (by rw [he]; decide), if_pos hz]⟩
      have ES : D.stepE = 3 := if_pos hz
      have ED : D.stepD = D.fall := if_pos hz
      rw [E.out]
      clear h hs hat hv hq he hf hz
      go_enter Tryd.func11, Tryd.ntmps11
      go_wp2_with (first
        | (go_at_call 30; refine cF.mono ?_; rintro e w1 ⟨rfl, hb1⟩; have H1 := Aside0.mk (H.out.below hb1); have B1 := Aside0.mk hb1; clear hb1; have cS := step_calls H1.out; rw [ES, ED] at cS; simp only [ptrVal])
        | (go_at_call 31; refine cS.mono ?_; rintro e w2 ⟨rfl, h2, hf2⟩))
      go_ret
      exact ⟨rfl, h2, (Fr.of_below B1.out _).trans hf2 (fun x hx => .inl (by simp at hx; simp [hx]))⟩
    · have E : Aside0 (D.sync s.data.toList = ({ D.tick with L := updL s.data.toList safeF D.L }, 0)) := ⟨by unfold AD.sync; rw [if_neg (by rw [he]; decide), if_neg hz]⟩
      have ES : D.stepE = 0 := if_neg hz
      have ED : D.stepD = D.tick := if_neg hz
      have hok := OK.out
      rw [E.out] at hok ⊢
      have HF := Aside0.mk hf
      have HV := Aside0.mk hv
      have HO := Aside0.mk hok
      clear h hs hat hv hq he hf hz hok
      go_enter Tryd.func11, Tryd.ntmps11
      go_wp2_with (first
        | (go_at_call 30; refine cF.mono ?_; rintro e w1 ⟨rfl, hb1⟩; have H1 := Aside0.mk (H.out.below hb1); have B1 := Aside0.mk hb1; clear hb1; have cS := step_calls H1.out; rw [ES, ED] at cS; simp only [ptrVal])
        | (go_at_call 31; refine cS.mono ?_; rintro e w2 ⟨rfl, h2, hf2⟩; have hat2 := h2.at HF.out; have c0 := (file_cells hat2).1; have c1 := (file_cells hat2).2; rw [HV.out] at c0; have f1 := blk_frozen hat2.1 1; have H2 := Aside0.mk h2; have F2 := Aside0.mk hf2; clear h2 hf2 hat2))
      go_ret
      obtain ⟨k1, k2⟩ := sync_done H2.out HO.out HF.out rfl
      exact ⟨rfl, k1, ((Fr.of_below B1.out _).trans F2.out (fun x hx => .inl (by simp at hx; simp [hx]))).trans k2 (fun x hx => .inl (by rw [List.mem_singleton] at hx; subst hx; simp only [List.mem_cons]; exact .inr (.inr (owns_at HF.out _ (by simp [ownF])))))⟩
  · have E : Aside0 (D.sync s.data.toList = (D, D.findE s.data.toList)) := ⟨if_pos he⟩
    have hq : D.findQ lay s.data.toList = none := if_neg he
    rw [E.out]
    rw [hq] at cF
    generalize D.findE s.data.toList = e0 at cF he ⊢
    have e1 : (e0 == 0) = false := by simpa using he
    clear h hs hq he
    go_enter Tryd.func11, Tryd.ntmps11
    go_wp2_with (go_at_call 30; refine cF.mono ?_; rintro e w1 ⟨rfl, hb1⟩; have H1 := Aside0.mk (H.out.below hb1); have B1 := Aside0.mk hb1; clear hb1; simp only [ptrVal])
    go_ret
    exact ⟨rfl, H1.out, Fr.of_below B1.out _⟩
end Go.Proofs.YtakhnkkcllfbjaaDoorX
end
section
namespace Go.Proofs.YtakhnkkcllfbjaaDoorX
open Go.RowKit Go.Proofs.YtakhnkkcllfbjaaDoorW.PrintWords Go.Proofs.YtakhnkkcllfbjaaDoorW.PrintLast Go.Proofs.YtakhnkkcllfbjaaDoorW.PrintMore
set_option linter.unusedVariables false
set_option linter.unusedSimpArgs false
theorem Read_calls {w : World} {a m : Nat} {lay : Lay} {D : AD} (h : DK w a m lay D) (s : ByteArray) (hs : s.size ≤ maxLen) :
    Calls Tryd.prog 14 #[.pointer (some ⟨a, 0, none⟩), .string s] w fun e w' => e = .returned (.tuple #[.string (D.read s.data.toList).1, .int .i64 (D.read s.data.toList).2]) ∧ Below w.heap.size w w' := by
  have cF := find_calls h s hs
  have H := Aside0.mk h
  by_cases he : D.findE s.data.toList = 0
  · obtain ⟨_, _, f, hf⟩ := findE_ok he
    have hat := h.at hf
    obtain ⟨p, c, hv⟩ := hat.2.shape
    have E : Aside0 (D.read s.data.toList = (f.data, 0)) := ⟨by unfold AD.read; rw [if_neg (by rw [he]; decide), hf]⟩
    rw [he] at cF
    have hq : D.findQ lay s.data.toList = some (lay s.data.toList).1 := if_pos he
    rw [hq] at cF
    rw [E.out]
    have HF := Aside0.mk hf
    have HV := Aside0.mk hv
    clear h hs hat hv hq he hf E
    go_enter Tryd.func14, Tryd.ntmps14
    go_wp2_with (go_at_call 30; refine cF.mono ?_; rintro e w1 ⟨rfl, hb1⟩; have h1 := H.out.below hb1; have hat1 := h1.at HF.out; have c0 := (file_cells hat1).1; have cv := hat1.2.back (P := Tryd.prog) 68 9 Tryd.underlying68 Tryd.underlying5 Tryd.underlying9; rw [HV.out] at c0 cv; have B1 := Aside0.mk hb1; clear hb1 h1 hat1; simp only [ptrVal])
    go_ret2
    exact ⟨rfl, B1.out⟩
  · have E : Aside0 (D.read s.data.toList = (⟨#[]⟩, D.findE s.data.toList)) := ⟨if_pos he⟩
    have hq : D.findQ lay s.data.toList = none := if_neg he
    rw [E.out]
    rw [hq] at cF
    generalize D.findE s.data.toList = e0 at cF he ⊢
    have e1 : (e0 == 0) = false := by simpa using he
    have e2 : (e0 != 0) = true := by simpa using he
    clear h hs hq he
    go_enter Tryd.func14, Tryd.ntmps14
    go_wp2_with (go_at_call 30; refine cF.mono ?_; rintro e w1 ⟨rfl, hb1⟩; have B1 := Aside0.mk hb1; clear hb1; simp only [ptrVal])
    go_ret2
    exact ⟨rfl, B1.out⟩
/-- What a call has done. -/
def Did (w w' : World) (a m : Nat) (lay : Lay) (D D' : AD) : Prop := ∃ lay', DK w' a m lay' D' ∧ Fr (a :: m :: ownL lay D.L) w w' ∧ ∀ k ∈ ownL lay' D'.L, k ∈ ownL lay D.L ∨ w.heap.size ≤ k
theorem Did.same {w w' : World} {a m : Nat} {lay : Lay} {D D' : AD} (h : DK w' a m lay D') (hL : D'.L = D.L) (hf : Fr (a :: m :: ownL lay D.L) w w') : Did w w' a m lay D D' := ⟨lay, h, hf, fun k hk => .inl (hL ▸ hk)⟩
/-- f's bytes have grown. -/
theorem append_done {w2 w3 : World} {a m : Nat} {lay : Lay} {D : AD} {x : Nm} {f : AF} {y : ByteArray} {v' : Value} (h2 : DK w2 a m lay D.tick) (hf : findL x D.L = some f)
    (hok : ({ D.tick with L := updL x (fun f => { f with data := f.data ++ y }) D.L } : AD).Ok) (hrow : RowB 5 w3 v' (f.data ++ y)) (hg : w2.grownBy w3 (lay x).2.ownBlock) (hat : v'.ownBlock = (lay x).2.ownBlock ∨ ∃ b, v'.ownBlock = some b ∧ w2.heap.size ≤ b) :
    Did w2 ((w3.setCell ⟨(lay x).1, 0, none⟩ v').setCell ⟨a, 2, none⟩ (.int .i64 (D.used + y.size))) a m lay D { D.tick with L := updL x (fun f => { f with data := f.data ++ y }) D.L } := by
  obtain ⟨hn, hm⟩ := findL_name hf
  have hfa := h2.at (x := x) hf
  have sep := h2.sep
  have hmem : ∀ k ∈ ownF (lay x), k ∈ ownF (lay f.name) := fun k hk => by rw [hn]; exact hk
  have haf : a ∉ ownF (lay x) := fun hk => sep.afar f hm (hmem _ hk)
  have hmf : m ∉ ownF (lay x) := fun hk => sep.mfar f hm (hmem _ hk)
  have hself := sep.self f hm
  rw [hn] at hself
  have hro : ∀ k, (lay x).2.ownBlock = some k → k ∈ ownF (lay x) := fun k hk => by simp [ownF, hk]
  have hfb : (lay x).1 ∈ ownF (lay x) := by simp [ownF]
  have hfrx : Fr (a :: ownF (lay x)) w2 ((w3.setCell ⟨(lay x).1, 0, none⟩ v').setCell ⟨a, 2, none⟩ (.int .i64 (D.used + y.size))) :=
    Fr.setCell (p := ⟨a, 2, none⟩) (Fr.setCell (p := ⟨(lay x).1, 0, none⟩) ((Fr.refl (a :: ownF (lay x)) _).grown hg (fun k hk => .inl (List.mem_cons_of_mem _ (hro k hk)))) (.inl (List.mem_cons_of_mem _ hfb)) _) (.inl (List.mem_cons_self ..)) _
  have hgn : ∀ k, k < w2.heap.size → k ∉ ownF (lay x) → w3.heap[k]? = w2.heap[k]? := fun k hk hn => hg.block k hk (fun e => hn (hro k e.symm))
  have hfb3 : w3.heap[(lay x).1]? = some (.cells (fileD (lay x) f.safe) 70 (0, 0)) := by
    rw [hg.block _ (blk_lt hfa.1) (fun e => hself (by rw [← e]; simp))]
    exact hfa.1
  have ha3 : w3.heap[a]? = some (.cells (headD m D.tick) 64 (0, 0)) := (hgn a (blk_lt h2.head) haf).trans h2.head
  have hne : a ≠ (lay x).1 := fun e => haf (e ▸ hfb)
  have hvnew : ∀ k ∈ v'.ownBlock.toList, k ∈ (lay x).2.ownBlock.toList ∨ w2.heap.size ≤ k := fun k hk => by
    rcases hat with h | ⟨b, h, hb⟩
    · rw [h] at hk; exact .inl hk
    · rw [h] at hk; simp at hk; subst hk; exact .inr hb
  have hva : ∀ k ∈ v'.ownBlock.toList, k ≠ a ∧ k ≠ (lay x).1 := fun k hk => by
    rcases hvnew k hk with h | h
    · exact ⟨fun e => haf (by rw [← e]; simp [ownF]; right; simpa using h), fun e => hself (e ▸ h)⟩
    · exact ⟨fun e => by have := blk_lt h2.head; omega, fun e => by have := blk_lt hfa.1; omega⟩
  have ht := updL_tot (g := fun f => { f with data := f.data ++ y }) h2.ok.rising hf
  have key := h2.one (w' := (w3.setCell ⟨(lay x).1, 0, none⟩ v').setCell ⟨a, 2, none⟩ (.int .i64 (D.used + y.size))) (D' := { D.tick with L := updL x (fun f => { f with data := f.data ++ y }) D.L })
    { f with data := f.data ++ y } x ((lay x).1, v') ?_ ?_ hok (fun q hq => mem_upd (g := fun f => { f with data := f.data ++ y }) (fun _ => rfl) h2.ok.rising hf q hq) ?_ ?_ ?_ ?_
  · refine ⟨_, key.1, hfrx.mono ?_, key.2⟩
    intro k hk
    simp only [List.mem_cons] at hk ⊢
    rcases hk with hk | hk
    · exact .inl hk
    · exact .inr (.inr (owns_at hf k hk))
  · refine blk_put (blk_far ha3 hne _) 2 _ ?_
    have e2 : ({ D.tick with L := updL x (fun f => { f with data := f.data ++ y }) D.L } : AD).used = D.used + y.size := by
      have hsz : (f.data ++ y).size = f.data.size + y.size := ByteArray.size_append
      unfold AD.used
      show ((totL (updL x (fun f => { f with data := f.data ++ y }) D.L) : Nat) : Int) = (totL D.L : Int) + y.size
      simp only [hsz] at ht
      have ht' : totL (updL x (fun f => { f with data := f.data ++ y }) D.L) = totL D.L + y.size := by
        have : totL (updL x (fun f => { f with data := f.data ++ y }) D.L) + f.data.size = totL D.L + (f.data.size + y.size) := ht
        omega
      rw [ht']; omega
    unfold headD
    rw [e2]
    rfl
  · have e3 : mapL (setLay lay f.name ((lay x).1, v')) (updL x (fun f => { f with data := f.data ++ y }) D.L) = mapL lay D.L := by
      refine mapL_congr (fun z => hasL_upd (g := fun f => { f with data := f.data ++ y }) (fun _ => rfl)) (fun z _ => ?_)
      unfold setLay
      split
      · rename_i h; rw [h, hn]
      · rfl
    show MapP _ _ _ _ (updL x (fun f => { f with data := f.data ++ y }) D.L).length (mapL (setLay lay f.name ((lay x).1, v')) (updL x (fun f => { f with data := f.data ++ y }) D.L))
    rw [e3, updL_length]
    refine h2.map.fr hfrx ?_
    simp only [List.mem_cons, not_or]
    exact ⟨fun e => sep.am e.symm, hmf⟩
  · refine ⟨blk_far (blk_put hfb3 0 _ rfl) (fun e => hne e.symm) _, hrow.step (fun k hk => ?_)⟩
    rw [Below.heap_setCell _ _ _ _ (hva k hk).1, Below.heap_setCell _ _ _ _ (hva k hk).2]
  · intro q hq h3 h4 k hk
    refine hfrx.block k ((h2.file q hq).lt k hk) ?_
    simp only [List.mem_cons, not_or]
    refine ⟨fun e => sep.afar q hq (e ▸ hk), fun h5 => ?_⟩
    exact sep.two q hq f hm (by rw [hn]; exact h4) k hk (hmem k h5)
  · intro k hk
    simp only [ownF, List.mem_cons] at hk
    rcases hk with rfl | hk
    · exact .inr ⟨⟨f, hm, hn⟩, hfb⟩
    · rcases hvnew k hk with h | h
      · exact .inr ⟨⟨f, hm, hn⟩, by simp only [ownF, List.mem_cons]; exact .inr h⟩
      · exact .inl h
  · exact fun hk => (hva _ hk).2 rfl
end Go.Proofs.YtakhnkkcllfbjaaDoorX
end
