/- The reference's Name and New; no conditions beyond those in each theorem's head. -/
import Derived.Test.YtakhnkkcllfbjaaDoorR2
import Derived.Test.YtakhnkkcllfbjaaDoorPAx13
import Derived.Test.YtakhnkkcllfbjaaDoorW4
namespace Go.Proofs.YtakhnkkcllfbjaaDoorX
open Go.RowKit Go.Proofs.YtakhnkkcllfbjaaDoorW.PrintWords Go.Proofs.YtakhnkkcllfbjaaDoorW.PrintLast Go.Proofs.YtakhnkkcllfbjaaDoorW.PrintMore
open Go.Proofs.YtakhnkkcllfbjaaDoor.PA (S37 k37 z37 rd_T37 at_T37 unisonref04_Name.l0 unisonref04_Name.f unisonref04_Name.calls)
set_option linter.unusedVariables false
set_option linter.unusedSimpArgs false
theorem nameByte_is (b : UInt8) : nameByte b = decide (b.toNat = 45 ∨ b.toNat = 46 ∨ (48 ≤ b.toNat ∧ b.toNat ≤ 57) ∨ (97 ≤ b.toNat ∧ b.toNat ≤ 122)) := by
  unfold nameByte
  have h1 : (b == 45) = decide (b.toNat = 45) := by rw [Bool.eq_iff_iff]; simp [← UInt8.toNat_inj]
  have h2 : (b == 46) = decide (b.toNat = 46) := by rw [Bool.eq_iff_iff]; simp [← UInt8.toNat_inj]
  have h3 : (decide (48 ≤ b)) = decide (48 ≤ b.toNat) := by rw [Bool.eq_iff_iff]; simp [UInt8.le_iff_toNat_le]
  have h4 : (decide (b ≤ 57)) = decide (b.toNat ≤ 57) := by rw [Bool.eq_iff_iff]; simp [UInt8.le_iff_toNat_le]
  have h5 : (decide (97 ≤ b)) = decide (97 ≤ b.toNat) := by rw [Bool.eq_iff_iff]; simp [UInt8.le_iff_toNat_le]
  have h6 : (decide (b ≤ 122)) = decide (b.toNat ≤ 122) := by rw [Bool.eq_iff_iff]; simp [UInt8.le_iff_toNat_le]
  rw [h1, h2, h3, h4, h5, h6, Bool.eq_iff_iff]
  simp
  omega
theorem nb_if {α : Type} (b : UInt8) (x y : α) : (if (b.toNat : Int) = 45 then x else (if (b.toNat : Int) = 46 then x else (if (b.toNat : Int) < 48 then (if (b.toNat : Int) < 97 then y else (if (b.toNat : Int) > 122 then y else x)) else (if (b.toNat : Int) > 57 then (if (b.toNat : Int) < 97 then y else (if (b.toNat : Int) > 122 then y else x)) else x)))) = if nameByte b = true then x else y := by
  rw [nameByte_is]
  by_cases h : b.toNat = 45 ∨ b.toNat = 46 ∨ (48 ≤ b.toNat ∧ b.toNat ≤ 57) ∨ (97 ≤ b.toNat ∧ b.toNat ≤ 122)
  · rw [if_pos (decide_eq_true h)]
    repeat' split
    all_goals first | rfl | (exfalso; omega)
  · rw [decide_eq_false h, if_neg (show ¬ (false = true) by decide)]
    repeat' split
    all_goals first | rfl | (exfalso; omega)
theorem name_loop (s : ByteArray) (hs : s.size ≤ maxLen) : ∀ (m i : Nat), s.size - i = m → i ≤ s.size → ∃ k, unisonref04_Name.l0 k s i = some ((s.data.toList.drop i).all nameByte && decide (1 ≤ s.size) && decide (s.size ≤ 16)) := by
  intro m
  induction m with
  | zero =>
    intro i hm hi
    refine ⟨1, ?_⟩
    have h1 : s.data.toList.drop i = [] := List.drop_of_length_le (by rw [Array.length_toList]; show s.size ≤ i; omega)
    simp only [unisonref04_Name.l0]
    rw [if_neg (by omega), h1]
    by_cases h2 : 1 ≤ s.size
    · rw [if_pos (by omega), decide_eq_true h2]
      have : decide ((s.size : Int) ≤ 16) = decide (s.size ≤ 16) := by rw [Bool.eq_iff_iff]; simp only [decide_eq_true_iff]; omega
      rw [this]
      rfl
    · rw [if_neg (by omega), decide_eq_false h2]
      rfl
  | succ m ih =>
    intro i hm hi
    have hi2 : i < s.size := by omega
    have hil : i < s.data.toList.length := by rw [Array.length_toList]; exact hi2
    obtain ⟨k, hk⟩ := ih (i + 1) (by omega) (by omega)
    obtain ⟨b, hb⟩ : ∃ b, s.data.toList[i] = b := ⟨_, rfl⟩
    have hbt : bt s (i : Int) = (b.toNat : Int) := by
      unfold bt
      rw [dif_pos (show (i : Int).toNat < s.size by rw [Int.toNat_natCast]; exact hi2)]
      have : s[(i : Int).toNat]'(by rw [Int.toNat_natCast]; exact hi2) = b := by rw [← hb]; rfl
      rw [this]
    have hd : s.data.toList.drop i = b :: s.data.toList.drop (i + 1) := by rw [List.drop_eq_getElem_cons hil, hb]
    have e5 : wrap64 ((i : Int) + 1) = ((i + 1 : Nat) : Int) := by simp only [maxLen] at hs; unfold wrap64; omega
    refine ⟨k + 1, ?_⟩
    simp only [unisonref04_Name.l0]
    rw [if_pos (by omega), if_pos (by omega), hbt, e5, nb_if, hk, hd, List.all_cons]
    by_cases h : nameByte b = true
    · rw [if_pos h, h]; rfl
    · rw [if_neg h, Bool.eq_false_iff.2 h]; rfl
theorem name_some (s : ByteArray) (hs : s.size ≤ maxLen) : ∃ k, unisonref04_Name.f k s = some (named s.data.toList) := by
  obtain ⟨k, hk⟩ := name_loop s hs _ 0 rfl (Nat.zero_le _)
  refine ⟨k, ?_⟩
  show unisonref04_Name.l0 k s ((0 : Nat) : Int) = _
  rw [hk, List.drop_zero]
  unfold named
  have : s.data.toList.length = s.size := by rw [Array.length_toList]; rfl
  rw [this]
  congr 1
  cases s.data.toList.all nameByte <;> cases decide (1 ≤ s.size) <;> cases decide (s.size ≤ 16) <;> rfl
theorem rname_calls (s : ByteArray) (hs : s.size ≤ maxLen) (w : World) : Calls Tryd.prog 34 #[.string s] w fun e w' => e = .returned (.bool (named s.data.toList)) ∧ Below w.heap.size w w' := by
  obtain ⟨k, hk⟩ := name_some s hs
  exact (unisonref04_Name.calls k s _ w hk).mono (fun e w' ⟨h1, h2⟩ => ⟨h1, by obtain ⟨n, rfl⟩ := h2; exact pw_below_drewN (Below.refl _ _) n⟩)
theorem ins_is {y : AF} : ∀ {L : List AF}, (∀ f ∈ L, f.name ≠ y.name) → L.take (placeL y.name L) ++ y :: L.drop (placeL y.name L) = insL y L
  | [], _ => rfl
  | f :: r, h => by
    unfold placeL insL
    by_cases h1 : f.name < y.name
    · rw [if_pos h1, if_pos h1]
      simp only [List.take_succ_cons, List.drop_succ_cons, List.cons_append]
      rw [ins_is (fun g hg => h g (List.mem_cons_of_mem _ hg))]
    · rw [if_neg h1, if_neg h1]
      rfl
theorem putR_new {y : AF} {L : List AF} (h : ∀ f ∈ L, f.name ≠ y.name) : putR y L = insL y L := by
  rw [putR_ins (fun g hg => h g (List.mem_of_getElem? hg)), ins_is h]
/-- The law's own disk, the reference's. -/
def MineR (B : Nat) (w0 w : World) (r : Nat) (v : Value) (D : AD) : Prop := RefAt w r v D ∧ Below B w0 w ∧ B ≤ w.heap.size ∧ ∀ k ∈ r :: v.ownBlock.toList, B ≤ k
theorem MineR.on {B : Nat} {w0 w w' : World} {r : Nat} {v : Value} {D : AD} (h : MineR B w0 w r v D) (hb : Below w.heap.size w w') : MineR B w0 w' r v D :=
  ⟨h.1.below hb, h.2.1.trans (hb.mono h.2.2.1), Nat.le_trans h.2.2.1 hb.size, h.2.2.2⟩
theorem MineR.did {B : Nat} {w0 w w' : World} {r : Nat} {v : Value} {D D' : AD} (h : MineR B w0 w r v D) (hd : RDid w w' r v D') : ∃ v', MineR B w0 w' r v' D' ∧ Fr (r :: v.ownBlock.toList) w w' ∧ ∀ k ∈ v'.ownBlock.toList, k ∈ v.ownBlock.toList ∨ w.heap.size ≤ k := by
  obtain ⟨v', h1, h2, h3⟩ := hd
  refine ⟨v', ⟨h1, h.2.1.trans (h2.below_base h.2.2.2 h.2.2.1), Nat.le_trans h.2.2.1 h2.size, fun k hk => ?_⟩, h2, h3⟩
  simp only [List.mem_cons] at hk
  rcases hk with rfl | hk
  · exact h.2.2.2 _ (by simp)
  · rcases h3 k hk with h9 | h9
    · exact h.2.2.2 k (by simp only [List.mem_cons]; exact .inr h9)
    · exact Nat.le_trans h.2.2.1 h9
end Go.Proofs.YtakhnkkcllfbjaaDoorX
