/- Words of our own for printed walks that compare texts: the order of two texts, told all ways; no conditions beyond those in each theorem's head. -/
import Derived.Test.YteehcopkljiikaaDoorX0
import Derived.Laws.Cover1
namespace Go.Proofs.YteehcopkljiikaaDoorX
open Go.RowKit
set_option linter.unusedVariables false

/-! the order of two texts -/
theorem bl_self : ∀ x : List UInt8, Op.bytesLess x x = false
  | [] => by simp [Op.bytesLess]
  | a :: x => by simp [Op.bytesLess, bl_self x]
theorem bl_asymm' : ∀ {x y : List UInt8}, Op.bytesLess x y = true → Op.bytesLess y x = false
  | [], [], h => by simp [Op.bytesLess] at h
  | [], _ :: _, _ => by simp [Op.bytesLess]
  | _ :: _, [], h => by simp [Op.bytesLess] at h
  | a :: x, b :: y, h => by
    simp only [Op.bytesLess, Bool.or_eq_true, decide_eq_true_eq, Bool.and_eq_true, beq_iff_eq] at h
    simp only [Op.bytesLess, Bool.or_eq_false_iff, decide_eq_false_iff_not, Bool.and_eq_false_iff, beq_eq_false_iff_ne]
    rcases h with h | ⟨rfl, h⟩
    · exact ⟨fun g => by rw [UInt8.lt_iff_toNat_lt] at g h; omega, .inl fun e => by subst e; rw [UInt8.lt_iff_toNat_lt] at h; omega⟩
    · exact ⟨fun g => by rw [UInt8.lt_iff_toNat_lt] at g; omega, .inr (bl_asymm' h)⟩
theorem bl_total : ∀ {x y : List UInt8}, Op.bytesLess x y = false → Op.bytesLess y x = false → x = y
  | [], [], _, _ => rfl
  | [], _ :: _, h, _ => by simp [Op.bytesLess] at h
  | _ :: _, [], _, h => by simp [Op.bytesLess] at h
  | a :: x, b :: y, h, g => by
    simp only [Op.bytesLess, Bool.or_eq_false_iff, decide_eq_false_iff_not, Bool.and_eq_false_iff, beq_eq_false_iff_ne] at h g
    have e : a = b := UInt8.toNat_inj.1 (by
      have h1 := h.1
      have g1 := g.1
      rw [UInt8.lt_iff_toNat_lt] at h1 g1
      omega)
    subst e
    rw [bl_total (h.2.resolve_left (fun c => c rfl)) (g.2.resolve_left (fun c => c rfl))]
theorem bl_asymm {s t : ByteArray} (h : Op.bytesLess s.toList t.toList = true) : Op.bytesLess t.toList s.toList = false := bl_asymm' h
theorem bl_ne {s t : ByteArray} (h : Op.bytesLess s.toList t.toList = true) : (s.toList == t.toList) = false := beq_eq_false_iff_ne.2 fun e => by rw [e, bl_self] at h; cases h
theorem bl_ne' {s t : ByteArray} (h : Op.bytesLess s.toList t.toList = true) : (t.toList == s.toList) = false := beq_eq_false_iff_ne.2 fun e => by rw [e, bl_self] at h; cases h
theorem bl_eq {s t : ByteArray} (h : Op.bytesLess s.toList t.toList = false) (g : Op.bytesLess t.toList s.toList = false) : (s.toList == t.toList) = true := beq_iff_eq.2 (bl_total h g)

theorem bl_le {s t : ByteArray} (h : Op.bytesLess s.toList t.toList = false) : (Op.bytesLess t.toList s.toList || t.toList == s.toList) = true := by
  cases g : Op.bytesLess t.toList s.toList with
  | true => rfl
  | false => rw [Bool.false_or]; exact bl_eq g h
end Go.Proofs.YteehcopkljiikaaDoorX
