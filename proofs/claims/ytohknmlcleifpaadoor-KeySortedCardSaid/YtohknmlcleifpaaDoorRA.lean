/- strings.ReplaceAll of the byte 0 by the bytes 0, 255: the walk, at this dump, over the shelf's contracts of its callees; no conditions beyond those in each theorem's head. -/
import Derived.Test.YtohknmlcleifpaaDoorSh
import Derived.Lib.ReplaceLaws
import Derived.Lib.SlicesS
import Derived.Lib.IndexBytes
import Derived.Deep.LoopGhost
import Derived.Tactics
namespace Go.Proofs.YtohknmlcleifpaaDoorRA
open Go.RowKit Go.Lib Go.Proofs.YtohknmlcleifpaaDoorSh
set_option linter.unusedVariables false

def dbl : List UInt8 → List UInt8
  | [] => []
  | b :: l => if b = 0 then 0 :: 255 :: dbl l else b :: dbl l
theorem dbl_none : ∀ {l : List UInt8}, l.count 0 = 0 → dbl l = l
  | [], _ => rfl
  | b :: l, h => by
    have hb : b ≠ 0 := fun e => by rw [e, List.count_cons_self] at h; omega
    rw [List.count_cons_of_ne hb] at h
    rw [dbl, if_neg hb, dbl_none h]
theorem dbl_length : ∀ l : List UInt8, (dbl l).length = l.length + l.count 0
  | [] => rfl
  | b :: l => by
    by_cases hb : b = 0
    · rw [dbl, if_pos hb, hb, List.count_cons_self, List.length_cons, List.length_cons, List.length_cons, dbl_length l]; omega
    · rw [dbl, if_neg hb, List.count_cons_of_ne hb, List.length_cons, List.length_cons, dbl_length l]; omega
theorem dbl_find : ∀ l : List UInt8, 0 < l.count 0 → ∃ j : Nat, Lib.indexByte l 0 = (j : Int) ∧ j + 1 ≤ l.length ∧ dbl l = l.take j ++ [0, 255] ++ dbl (l.drop (j + 1)) ∧ (l.drop (j + 1)).count 0 + 1 = l.count 0
  | [], h => by simp at h
  | b :: l, h => by
    by_cases hb : b = 0
    · subst hb
      refine ⟨0, by simp [Lib.indexByte], by simp, by simp [dbl], by simp⟩
    · rw [List.count_cons_of_ne hb] at h
      obtain ⟨j, h1, h2, h3, h4⟩ := dbl_find l h
      refine ⟨j + 1, ?_, Nat.succ_le_succ h2, ?_, ?_⟩
      · unfold Lib.indexByte
        have e1 : (b == (0 : UInt8)) = false := by simpa using hb
        have e2 : ((j : Int) == -1) = false := beq_eq_false_iff_ne.2 (by omega)
        rw [e1, h1, e2]
        simp
      · rw [dbl, if_neg hb, h3]; simp
      · rw [List.drop_succ_cons, h4, List.count_cons_of_ne hb]
theorem hid {p : Prop} (h : p) : Hid p := h
theorem beq_old : ((⟨#[0]⟩ : ByteArray).toList == (⟨#[0, 255]⟩ : ByteArray).toList) = false := by decide +kernel

set_option maxHeartbeats 4000000 in
set_option maxRecDepth 1000000 in
theorem replace_none (s : ByteArray) (w : World) (h0 : s.data.toList.count 0 = 0) :
    Calls Tryd.prog 35 #[.string s, .string ⟨#[0]⟩, .string ⟨#[0, 255]⟩, .int .i64 (-1)] w fun e w' => e = .returned (.string s) ∧ w' = w := by
  have hC := strings_Count_one s 0 w
  rw [show Lib.countByte s.data.toList 0 = 0 from h0] at hC
  have hbeq := beq_old
  go_enter Tryd.func35, Tryd.ntmps35
  go_wp2_with (first | (go_at_call 41; refine hC.mono ?_; rintro e w' ⟨rfl, hw⟩; rw [hw]))
  go_ret
  exact ⟨rfl, rfl⟩

set_option maxHeartbeats 16000000 in
set_option maxRecDepth 1000000 in
theorem replace_some (s : ByteArray) (w : World) (hs : s.size ≤ 1000000) (h0 : 0 < s.data.toList.count 0) :
    Calls Tryd.prog 35 #[.string s, .string ⟨#[0]⟩, .string ⟨#[0, 255]⟩, .int .i64 (-1)] w fun e w' => e = .returned (.string ⟨(dbl s.data.toList).toArray⟩) ∧ Below w.heap.size w w' := by
  have hC := strings_Count_one s 0 w
  obtain ⟨K, hK⟩ : ∃ K : Nat, s.data.toList.count 0 = K := ⟨_, rfl⟩
  rw [show Lib.countByte s.data.toList 0 = K from hK] at hC
  have hlenL : s.data.toList.length = s.size := (Lib.size_eq s).symm
  have hKs : K ≤ s.size := by rw [← hK, ← hlenL]; exact List.count_le_length
  have hK0 : 0 < K := by omega
  have hbeq := beq_old
  have hcz : ((K : Int) == 0) = false := beq_eq_false_iff_ne.2 (by omega)
  have hga : wrap64 ((s.size : Int) + wrap64 ((K : Int) * wrap64 ((2 : Int) - 1))) = ((s.size + K : Nat) : Int) := by unfold wrap64; omega
  have hKcount : (s.data.toList.drop 0).count 0 = K := by rw [List.drop_zero, hK]
  go_enter Tryd.func35, Tryd.ntmps35
  go_wp2_with (first | (go_at_call 41; refine hC.mono ?_; rintro e w' ⟨rfl, hw⟩; rw [hw]))
  all_goals (
    clear hC
    try rw [hga]
    refine (Builder_Grow_fresh w.heap.size w.heap.size _ _ (Nat.le_refl _) (heap_alloc_new w _) (by simp) (by omega)).mono ?_
    rintro e w1 ⟨rfl, hb0, hb1⟩
    have H1 := hid (Or.inr (Lib.BuilderAtF.of hb0) : Lib.IsBuilderF 66 5 w.heap.size w.heap.size (Lib.byteCells []) w1)
    have Hb1 := hid (((Below.refl w.heap.size w).alloc (Nat.le_refl _) _).trans hb1)
    clear hb0 hb1 hga
    go_wp2_with fail
    go_loopg [11, 53] K (fun g s11 s53 wx => ∃ (i start : Nat) (acc : List UInt8), s53 = .int .i64 i ∧ s11 = .int .i64 start ∧ i + g = K ∧ start ≤ s.size ∧
      Hid (Lib.IsBuilderF 66 5 w.heap.size w.heap.size (Lib.byteCells acc) wx) ∧ Hid (Below w.heap.size w wx) ∧ Hid (acc ++ dbl (s.data.toList.drop start) = dbl s.data.toList) ∧
      (s.data.toList.drop start).count 0 = g ∧ acc.length + (s.size - start) + g ≤ s.size + K)
    case atStart => exact ⟨0, 0, [], rfl, rfl, by omega, Nat.zero_le _, H1, Hb1, hid (by simp), hKcount, by simp⟩
    case round =>
      obtain ⟨i, start, acc, rfl, rfl, hig, hst, HB, HW, HR, hgc, hbd⟩ := hrel
      have hBw : w.heap.size ≤ wr.heap.size := HW.out.size
      have c1 : (0 : Int) ≤ (start : Int) := by omega
      have c2 : (start : Int) ≤ (s.size : Int) := by omega
      cases gk with
      | zero =>
        have hiK : ¬ ((i : Int) < (K : Int)) := by omega
        go_wp2_with fail
        refine (Builder_WriteString w.heap.size w.heap.size _ _ wr HB.out (by rw [Lib.byteCells_length, ByteArray.size_extract]; omega) hBw).mono ?_
        rintro e w3 ⟨rfl, h3, hb3, _⟩
        rw [Lib.strCells_eq, Lib.extract_to_end, ← Lib.byteCells_append] at h3
        have hfin : acc ++ s.data.toList.drop start = dbl s.data.toList := by rw [← HR.out, dbl_none hgc]
        rw [hfin] at h3
        have H3 := hid (Or.inr h3 : Lib.IsBuilderF 66 5 w.heap.size w.heap.size _ w3)
        have Hb3 := hid (HW.out.trans hb3)
        have hBw3 : w.heap.size ≤ w3.heap.size := Hb3.out.size
        clear h3 hb3 hfin
        go_wp2_with fail
        refine (Builder_String w.heap.size w.heap.size _ w3 H3.out hBw3).mono ?_
        rintro e w5 ⟨rfl, _, hb5, _⟩
        have Hb5 := hid (Hb3.out.trans hb5)
        clear hb5
        go_wp2
        go_ret
        exact ⟨rfl, Hb5.out⟩
      | succ g =>
        have hiK : (i : Int) < (K : Int) := by omega
        obtain ⟨j, hj, hroom, hdb, hcnt⟩ := dbl_find (s.data.toList.drop start) (by omega)
        rw [List.length_drop, hlenL] at hroom
        have c3 : (start : Int) ≤ (start : Int) + (j : Int) := by omega
        have c4 : (start : Int) + (j : Int) ≤ (s.size : Int) := by omega
        have hnext : Lib.byteCells acc ++ Lib.strCells (s.extract start (start + j)) ++ Lib.strCells (⟨#[0, 255]⟩ : ByteArray) = Lib.byteCells (acc ++ (s.data.toList.drop start).take j ++ [0, 255]) := by
          rw [Lib.strCells_eq, Lib.strCells_eq, Lib.extract_data, Nat.add_sub_cancel_left, ← Lib.byteCells_append, ← Lib.byteCells_append]
        have hrep : (acc ++ (s.data.toList.drop start).take j ++ [0, 255]) ++ dbl (s.data.toList.drop (start + j + 1)) = dbl s.data.toList := by
          rw [← HR.out, hdb, List.drop_drop]
          simp only [List.append_assoc, Nat.add_assoc]
        have hcnt' : (s.data.toList.drop (start + j + 1)).count 0 = g := by
          rw [List.drop_drop] at hcnt
          rw [show start + j + 1 = start + (j + 1) by omega]
          omega
        have htl : ((s.data.toList.drop start).take j).length = j := by rw [List.length_take, List.length_drop, hlenL]; omega
        have Hn := hid hnext
        have Hrep := hid hrep
        clear hnext hrep HR hdb hcnt
        go_wp2_with (first | (go_at_call 43; refine (strings_Index_one _ 0 _).mono ?_; rintro e w' ⟨rfl, hw⟩; rw [hw, Lib.extract_to_end, hj]))
        refine (Builder_WriteString w.heap.size w.heap.size _ (s.extract start (start + j)) wr HB.out (by rw [Lib.byteCells_length, ByteArray.size_extract]; omega) hBw).mono ?_
        rintro e w3 ⟨rfl, h3, hb3, _⟩
        have hBw3 : w.heap.size ≤ w3.heap.size := Nat.le_trans hBw hb3.size
        have H3 := hid h3
        have Hb3 := hid hb3
        clear h3 hb3
        go_wp2_with fail
        refine (Builder_WriteString w.heap.size w.heap.size _ ⟨#[0, 255]⟩ w3 (Or.inr H3.out) (by rw [List.length_append, Lib.byteCells_length, Lib.strCells_length, ByteArray.size_extract]; show _ + 2 ≤ _; omega) hBw3).mono ?_
        rintro e w4 ⟨rfl, h4, hb4, _⟩
        rw [Hn.out] at h4
        have H4 := hid (Or.inr h4 : Lib.IsBuilderF 66 5 w.heap.size w.heap.size _ w4)
        have Hb4 := hid ((HW.out.trans Hb3.out).trans hb4)
        clear h4 hb4
        go_wp2
        go_roundg g
        case measure => omega
        case rel => exact ⟨i + 1, start + j + 1, _, by first | rfl | (simp; unfold wrap64; omega), by first | rfl | simp | (simp; unfold wrap64; omega), by omega, by omega, H4, Hb4, Hrep, hcnt', by simp only [List.length_append, htl, List.length_cons, List.length_nil]; omega⟩)
end Go.Proofs.YtohknmlcleifpaaDoorRA
