/- Plain lemmas on bytes, lists and numbers, used by the plain laws of this seat; no program in sight; no conditions beyond those in each theorem's head. -/
import Derived.Test.YteehcopkljiikaaDoorX0
import Derived.Lib.Strings
import Derived.Laws.BitsLemmas
namespace Go.Proofs.YteehcopkljiikaaDoorL
open Go.RowKit Go.Proofs.YteehcopkljiikaaDoorW.PrintWords Go.Proofs.YteehcopkljiikaaDoorW.PrintLast Go.Proofs.YteehcopkljiikaaDoorW.PrintMore Go.Proofs.YteehcopkljiikaaDoorX
set_option linter.unusedVariables false
set_option linter.unusedSimpArgs false

/-! ### bytes -/
def Bytes (l : List Int) : Prop := ∀ x ∈ l, 0 ≤ x ∧ x < 256
theorem Bytes.nil : Bytes [] := fun x h => by cases h
theorem Bytes.append {a b : List Int} (ha : Bytes a) (hb : Bytes b) : Bytes (a ++ b) := fun x h => by
  rcases List.mem_append.1 h with h | h
  · exact ha x h
  · exact hb x h
theorem Bytes.cons {x : Int} {l : List Int} (h0 : 0 ≤ x) (h1 : x < 256) (hl : Bytes l) : Bytes (x :: l) := fun y h => by
  rcases List.mem_cons.1 h with rfl | h
  · exact ⟨h0, h1⟩
  · exact hl y h
theorem Bytes.of_append {a b : List Int} (h : Bytes (a ++ b)) : Bytes a ∧ Bytes b := ⟨fun x hx => h x (List.mem_append_left _ hx), fun x hx => h x (List.mem_append_right _ hx)⟩
theorem Bytes.take {l : List Int} (h : Bytes l) (n : Nat) : Bytes (l.take n) := fun x hx => h x (List.mem_of_mem_take hx)
theorem Bytes.drop {l : List Int} (h : Bytes l) (n : Nat) : Bytes (l.drop n) := fun x hx => h x (List.mem_of_mem_drop hx)
theorem Bytes.set {l : List Int} (h : Bytes l) (n : Nat) {v : Int} (h0 : 0 ≤ v) (h1 : v < 256) : Bytes (l.set n v) := fun x hx => by
  rcases List.mem_or_eq_of_mem_set hx with hx | rfl
  · exact h x hx
  · exact ⟨h0, h1⟩
theorem Bytes.replicate (n : Nat) : Bytes (List.replicate n 0) := fun x hx => by
  have := List.eq_of_mem_replicate hx
  omega
theorem bytesOf_bytes (s : ByteArray) : Bytes (bytesOf s) := fun x hx => by
  simp only [bytesOf, List.mem_map] at hx
  obtain ⟨b, _, rfl⟩ := hx
  have := b.toNat_lt
  omega
theorem bytesOf_inj {s t : ByteArray} (h : bytesOf s = bytesOf t) : s = t := by
  apply ByteArray.ext
  apply Array.toList_inj.1
  unfold bytesOf at h
  refine List.map_inj_right (f := fun b : UInt8 => (b.toNat : Int)) (fun x y hxy => ?_) |>.1 h
  exact UInt8.toNat_inj.1 (by have h_ : (x.toNat : Int) = (y.toNat : Int) := hxy; omega)
theorem strOfNums_bytesOf (s : ByteArray) : strOfNums (bytesOf s) = s := by
  apply ByteArray.ext
  apply Array.toList_inj.1
  rw [strOfNums_data, bytesOf, List.map_map]
  conv => rhs; rw [← List.map_id s.data.toList]
  apply List.map_congr_left
  intro b _
  simp
theorem bytesOf_strOfNums {l : List Int} (h : Bytes l) : bytesOf (strOfNums l) = l := by
  rw [bytesOf, strOfNums_data, List.map_map]
  conv => rhs; rw [← List.map_id l]
  apply List.map_congr_left
  intro x hx
  have := h x hx
  simp only [Function.comp, id]
  rw [UInt8.toNat_ofNat']
  omega
theorem size_strOfNums (l : List Int) : (strOfNums l).size = l.length := strOfNums_size l
theorem strOfNums_inj {l m : List Int} (hl : Bytes l) (hm : Bytes m) (h : strOfNums l = strOfNums m) : l = m := by rw [← bytesOf_strOfNums hl, ← bytesOf_strOfNums hm, h]
theorem toList_inj {s t : ByteArray} : s.toList = t.toList ↔ s = t := by
  constructor
  · intro h
    rw [ByteArray.toList_eq, ByteArray.toList_eq] at h
    exact ByteArray.ext (Array.toList_inj.1 h)
  · rintro rfl; rfl
theorem toList_nil {s : ByteArray} : s.toList = [] ↔ s.size = 0 := by
  rw [ByteArray.toList_eq]
  constructor
  · intro h
    have := congrArg List.length h
    rw [Array.length_toList] at this
    exact this
  · intro h
    apply List.eq_nil_of_length_eq_zero
    rw [Array.length_toList]
    exact h
theorem bytesOf_toList (s : ByteArray) : bytesOf s = s.toList.map fun b => (b.toNat : Int) := by rw [ByteArray.toList_eq]; rfl
theorem bytesOf_eq_nil {s : ByteArray} : bytesOf s = [] ↔ s.size = 0 := by
  constructor
  · intro h
    have := congrArg List.length h
    rw [bytesOf_length] at this
    exact this
  · intro h
    apply List.eq_nil_of_length_eq_zero
    rw [bytesOf_length]
    exact h
theorem size_eq_length (s : ByteArray) : s.size = (bytesOf s).length := (bytesOf_length s).symm
theorem bt_eq (s : ByteArray) (i : Int) : bt s i = rd (bytesOf s) i := (rd_bytesOf s i).symm
theorem bytesOf_extract (s : ByteArray) (a b : Nat) : bytesOf (s.extract a b) = ((bytesOf s).drop a).take (b - a) := by
  unfold bytesOf
  rw [Lib.extract_data, List.map_take, List.map_drop]
theorem bytesOf_extract_to_end (s : ByteArray) (a : Nat) : bytesOf (s.extract a s.size) = (bytesOf s).drop a := by
  rw [bytesOf_extract, List.take_of_length_le]
  rw [List.length_drop, bytesOf_length]
  exact Nat.le_refl _
theorem bytesOf_extract_front (s : ByteArray) (b : Nat) : bytesOf (s.extract 0 b) = (bytesOf s).take b := by
  rw [bytesOf_extract]; simp
theorem bytesOf_empty : bytesOf (⟨#[]⟩ : ByteArray) = [] := rfl
theorem strOfNums_nil : strOfNums [] = (⟨#[]⟩ : ByteArray) := rfl
theorem bytesOf_append (s t : ByteArray) : bytesOf (s ++ t) = bytesOf s ++ bytesOf t := by
  unfold bytesOf
  rw [ByteArray.data_append, Array.toList_append, List.map_append]
theorem rd_get {l : List Int} {i : Int} (h : i.toNat < l.length) : rd l i = l[i.toNat] := by
  unfold rd
  rw [List.getD_eq_getElem?_getD, List.getElem?_eq_getElem h]
  rfl
theorem rd_mem {l : List Int} {i : Int} (h : i.toNat < l.length) : rd l i ∈ l := by rw [rd_get h]; exact List.getElem_mem h
theorem rd_range {l : List Int} (hl : Bytes l) (i : Int) : 0 ≤ rd l i ∧ rd l i < 256 := by
  by_cases h : i.toNat < l.length
  · exact hl _ (rd_mem h)
  · unfold rd
    rw [List.getD_eq_getElem?_getD, List.getElem?_eq_none (by omega)]
    simp
theorem rd_cons_zero (x : Int) (l : List Int) : rd (x :: l) 0 = x := rfl
theorem rd_append_left {a b : List Int} {i : Int} (h : i.toNat < a.length) : rd (a ++ b) i = rd a i := by
  unfold rd
  simp only [List.getD_eq_getElem?_getD]
  rw [List.getElem?_append_left h]
theorem rd_append_right {a b : List Int} {i : Int} (h : a.length ≤ i.toNat) : rd (a ++ b) i = rd b (i - a.length) := by
  unfold rd
  simp only [List.getD_eq_getElem?_getD]
  rw [List.getElem?_append_right h, show (i - (a.length : Int)).toNat = i.toNat - a.length from by omega]

/-! ### bits -/
theorem wraps_u64 (n : Int) (h₀ : 0 ≤ n) (h₁ : n < 2 ^ 64) : IntKind.u64.wrap n = n := by
  simp only [IntKind.wrap, IntKind.bits, IntKind.signed]
  simp
  omega
theorem wrap_u64 (n : Int) : IntKind.u64.wrap n = n % 18446744073709551616 := by
  simp [IntKind.wrap, IntKind.bits, IntKind.signed]
theorem wrap64_of {n : Int} (h0 : -9223372036854775808 ≤ n) (h1 : n ≤ 9223372036854775807) : wrap64 n = n := by unfold wrap64; omega
theorem or128 {x : Int} (h0 : 0 ≤ x) (h1 : x < 256) : Go.bits .or .u8 x 128 = x % 128 + 128 := by
  obtain ⟨a, rfl⟩ := Int.eq_ofNat_of_zero_le h0
  have ha : a < 256 := by omega
  rw [show (128 : Int) = ((128 : Nat) : Int) from rfl, (bits_nat .u8 8 (by decide) wraps_u8 a 128 (by omega) (by decide)).2]
  have h : ∀ q : Fin 256, ((q.val ||| 128 : Nat) : Int) = (q.val : Int) % ((128 : Nat) : Int) + ((128 : Nat) : Int) := by decide +kernel
  exact h ⟨a, ha⟩
theorem and127_u8 {x : Int} (h0 : 0 ≤ x) (h1 : x < 256) : Go.bits .and .u8 x 127 = x % 128 := bits_mask .u8 8 (by decide) wraps_u8 7 (by decide) x h0 h1
theorem wraps_i64n (n : Int) (h₀ : 0 ≤ n) (h₁ : n < 2 ^ 63) : IntKind.i64.wrap n = n := by rw [IntKind.wrap_i64]; omega
theorem and127_i64 {x : Int} (h0 : 0 ≤ x) (h1 : x < 256) : Go.bits .and .i64 x 127 = x % 128 := bits_mask .i64 63 (by decide) wraps_i64n 7 (by decide) x h0 (by omega)
theorem and1_u64 {x : Int} (h0 : 0 ≤ x) (h1 : x < 18446744073709551616) : Go.bits .and .u64 x 1 = x % 2 := bits_mask .u64 64 (by decide) wraps_u64 1 (by decide) x h0 h1
theorem or_join_u64 {x y : Int} (i : Nat) (hx0 : 0 ≤ x) (hx : x < 2 ^ i) (hy0 : 0 ≤ y) (hy : y % 2 ^ i = 0) (hy1 : y < 18446744073709551616) (hx1 : x < 18446744073709551616) : Go.bits .or .u64 x y = x + y := by
  obtain ⟨a, rfl⟩ := Int.eq_ofNat_of_zero_le hx0
  obtain ⟨b, rfl⟩ := Int.eq_ofNat_of_zero_le hy0
  have h := bits_join .u64 64 (by decide) wraps_u64 i b a hy0 hy hy1 hx0 hx hx1
  have ha : a < 2 ^ 64 := by show a < 18446744073709551616; omega
  have hb : b < 2 ^ 64 := by show b < 18446744073709551616; omega
  rw [(bits_nat .u64 64 (by decide) wraps_u64 b a hb ha).2] at h
  rw [(bits_nat .u64 64 (by decide) wraps_u64 a b ha hb).2, Nat.or_comm, h]
  omega
theorem or_join_u8 {x y : Int} (i : Nat) (hx0 : 0 ≤ x) (hx : x < 2 ^ i) (hy0 : 0 ≤ y) (hy : y % 2 ^ i = 0) (hy1 : y < 256) (hx1 : x < 256) : Go.bits .or .u8 x y = x + y := by
  obtain ⟨a, rfl⟩ := Int.eq_ofNat_of_zero_le hx0
  obtain ⟨b, rfl⟩ := Int.eq_ofNat_of_zero_le hy0
  have h := bits_join .u8 8 (by decide) wraps_u8 i b a hy0 hy hy1 hx0 hx hx1
  have ha : a < 2 ^ 8 := by show a < 256; omega
  have hb : b < 2 ^ 8 := by show b < 256; omega
  rw [(bits_nat .u8 8 (by decide) wraps_u8 b a hb ha).2] at h
  rw [(bits_nat .u8 8 (by decide) wraps_u8 a b ha hb).2, Nat.or_comm, h]
  omega
theorem bits_xor (k : IntKind) (x y : Int) : Go.bits .xor k x y = k.wrap (((BitVec.ofInt k.bits x) ^^^ (BitVec.ofInt k.bits y)).toNat : Int) := rfl
theorem xor_zero_u64 {x : Int} (h0 : 0 ≤ x) (h1 : x < 18446744073709551616) : Go.bits .xor .u64 x 0 = x := by
  rw [bits_xor]
  obtain ⟨a, rfl⟩ := Int.eq_ofNat_of_zero_le h0
  have ha : a < 2 ^ 64 := by show a < 18446744073709551616; omega
  have e : (BitVec.ofInt IntKind.u64.bits (a : Int) ^^^ BitVec.ofInt IntKind.u64.bits 0).toNat = a := by
    show (BitVec.ofInt 64 (a : Int) ^^^ BitVec.ofInt 64 0).toNat = a
    simp
    exact ha
  rw [e]
  exact wraps_u64 _ h0 h1
theorem xor_ones_u64 {x : Int} (h0 : 0 ≤ x) (h1 : x < 18446744073709551616) : Go.bits .xor .u64 x 18446744073709551615 = 18446744073709551615 - x := by
  rw [bits_xor]
  obtain ⟨a, rfl⟩ := Int.eq_ofNat_of_zero_le h0
  have ha : a < 2 ^ 64 := by show a < 18446744073709551616; omega
  have e : ((BitVec.ofInt IntKind.u64.bits (a : Int) ^^^ BitVec.ofInt IntKind.u64.bits 18446744073709551615).toNat : Int) = 18446744073709551615 - a := by
    show ((BitVec.ofInt 64 (a : Int) ^^^ BitVec.ofInt 64 18446744073709551615).toNat : Int) = _
    have e1 : BitVec.ofInt 64 18446744073709551615 = BitVec.allOnes 64 := by decide
    rw [e1, BitVec.xor_allOnes, BitVec.toNat_not]
    simp
    omega
  rw [e]
  exact wraps_u64 _ (by omega) (by omega)
theorem xor_ones_i64 {x : Int} (h0 : -9223372036854775808 ≤ x) (h1 : x ≤ 9223372036854775807) : Go.bits .xor .i64 x (-1) = -1 - x := by
  rw [bits_xor]
  have e1 : BitVec.ofInt 64 (-1) = BitVec.allOnes 64 := by decide
  show IntKind.i64.wrap (((BitVec.ofInt 64 x) ^^^ BitVec.ofInt 64 (-1)).toNat : Int) = _
  rw [e1, BitVec.xor_allOnes, BitVec.toNat_not, BitVec.toNat_ofInt, IntKind.wrap_i64]
  have : ((2 ^ 64 - 1 - (x % ((2 ^ 64 : Nat) : Int)).toNat : Nat) : Int) = 18446744073709551615 - x % 18446744073709551616 := by omega
  rw [this]
  omega
theorem xor_zero_i64 {x : Int} (h0 : -9223372036854775808 ≤ x) (h1 : x ≤ 9223372036854775807) : Go.bits .xor .i64 x 0 = x := by
  rw [bits_xor]
  show IntKind.i64.wrap (((BitVec.ofInt 64 x) ^^^ BitVec.ofInt 64 0).toNat : Int) = _
  have e : (BitVec.ofInt 64 x ^^^ BitVec.ofInt 64 0) = BitVec.ofInt 64 x := by simp
  rw [e, BitVec.toNat_ofInt, IntKind.wrap_i64]
  omega

/-! ### rounds -/
theorem some_bind {α β : Type} (a : α) (f : α → Option β) : (some a).bind f = f a := rfl
end Go.Proofs.YteehcopkljiikaaDoorL
