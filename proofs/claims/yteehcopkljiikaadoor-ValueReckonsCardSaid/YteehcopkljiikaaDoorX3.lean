/- value.Print of a text: what it comes to; no conditions beyond those in each theorem's head. -/
import Derived.Test.YteehcopkljiikaaDoorMA
import Derived.Deep.LoopGhost
import Derived.Lib.SlicesS
namespace Go.Proofs.YteehcopkljiikaaDoorX
open Go.RowKit Go.Lib Go.Proofs.YteehcopkljiikaaDoorSh Go.Proofs.YteehcopkljiikaaDoorW.PrintWords Go.Proofs.YteehcopkljiikaaDoorW.PrintLast Go.Proofs.YteehcopkljiikaaDoor.PA
set_option linter.unusedVariables false

theorem hid {p : Prop} (h : p) : Hid p := h
def hexB (n : Nat) : UInt8 := if n < 10 then UInt8.ofNat (48 + n) else UInt8.ofNat (87 + n)
/-- A byte within a literal. -/
def qb (c : UInt8) : List UInt8 := if c.toNat < 32 ∨ 126 < c.toNat ∨ c.toNat = 92 then [92, hexB (c.toNat / 16), hexB (c.toNat % 16)] else if c.toNat = 39 then [39, 39] else [c]
def quoted (l : List UInt8) : List UInt8 := 39 :: l.flatMap qb
theorem alloc_lt (w : World) (o : Obj) : w.heap.size < (w.alloc o).heap.size := by
  show w.heap.size < (w.heap.push o).size
  rw [Array.size_push]; omega
theorem box_kept {w w1 : World} {o : Obj} (h : Below (w.alloc o).heap.size (w.alloc o) w1) : w1.heap[w.heap.size]? = some o := by
  rw [h.block _ (alloc_lt w o)]
  show (w.heap.push o)[w.heap.size]? = some o
  simp
theorem two_below {w w1 : World} {o : Obj} (h : Below (w.alloc o).heap.size (w.alloc o) w1) : Below w.heap.size w w1 :=
  ((Below.refl w.heap.size w).alloc (Nat.le_refl _) o).trans (h.mono (Nat.le_of_lt (alloc_lt w o)))
theorem old_kept {w1 w2 : World} {g : Nat} {o o' : Obj} (hg : w1.heap[g]? = some o) (h : Below w1.heap.size (w1.alloc o') w2) : w2.heap[g]? = some o := by
  have hl : g < w1.heap.size := (Array.getElem?_eq_some_iff.1 hg).1
  rw [h.block g hl]
  show (w1.heap.push o')[g]? = some o
  rw [Array.getElem?_push_lt hl, ← hg, Array.getElem?_eq_getElem hl]
theorem hex_at (q : Nat) (h : q < (⟨#[48, 49, 50, 51, 52, 53, 54, 55, 56, 57, 97, 98, 99, 100, 101, 102]⟩ : ByteArray).size) : (⟨#[48, 49, 50, 51, 52, 53, 54, 55, 56, 57, 97, 98, 99, 100, 101, 102]⟩ : ByteArray)[q]'h = hexB q := by
  have all : ∀ q : Fin 16, (⟨#[48, 49, 50, 51, 52, 53, 54, 55, 56, 57, 97, 98, 99, 100, 101, 102]⟩ : ByteArray)[q.val]'(by have := q.isLt; exact this) = hexB q.val := by decide +kernel
  exact all ⟨q, h⟩
theorem quoted_succ {t : ByteArray} {i : Nat} (hi : i < t.size) : quoted (t.data.toList.take (i + 1)) = quoted (t.data.toList.take i) ++ qb (t[i]'hi) := by
  have hl : i < t.data.toList.length := by rw [Array.length_toList]; exact hi
  unfold quoted
  rw [List.take_add_one, List.getElem?_eq_getElem hl, List.flatMap_append]
  simp only [Option.toList_some, List.flatMap_cons, List.flatMap_nil, List.append_nil, List.cons_append]
  rfl
theorem qb_length (c : UInt8) : (qb c).length ≤ 3 := by
  unfold qb
  split
  · simp
  · split <;> simp
theorem quoted_length : ∀ l : List UInt8, (quoted l).length ≤ 1 + 3 * l.length := fun l => by
  unfold quoted
  rw [List.length_cons]
  have : ∀ l : List UInt8, (l.flatMap qb).length ≤ 3 * l.length := fun l => by
    induction l with
    | nil => simp
    | cons c l ih =>
      rw [List.flatMap_cons, List.length_append, List.length_cons]
      have := qb_length c
      omega
  have := this l
  omega
theorem put_byte {w wx : World} {o : Obj} {acc : List UInt8} {g B : Nat} (c : UInt8) (m : Int) (hm : m = (c.toNat : Int)) (HX : Hid (wx.heap[g]? = some o)) (hg : g < B) (HW : Hid (Below w.heap.size w wx)) (hwB : w.heap.size ≤ B) (HL : Hid (B ≤ wx.heap.size)) (HI : Hid (Lib.IsBuilderF 66 5 B B (Lib.byteCells acc) wx)) (hl : acc.length + 1 ≤ 140737488355328) :
    Calls Tryd.prog 55 #[.pointer (some ⟨B, 0, none⟩), .int .u8 m] wx fun e w' => e = .returned .nilIface ∧ Hid (w'.heap[g]? = some o) ∧ Hid (Below w.heap.size w w') ∧ Hid (B ≤ w'.heap.size) ∧ Hid (Lib.IsBuilderF 66 5 B B (Lib.byteCells (acc ++ [c])) w') := by
  subst hm
  refine (Builder_WriteByte B B (Lib.byteCells acc) c.toNat wx HI.out (by rw [Lib.byteCells_length]; exact hl) HL.out).mono ?_
  rintro e w' ⟨rfl, h, hb, _⟩
  refine ⟨rfl, hid ((hb.block g hg).trans HX.out), hid (HW.out.trans (hb.mono hwB)), hid (Nat.le_trans HL.out hb.size), hid ?_⟩
  rw [Lib.byteCells_append]
  exact Or.inr h
set_option maxHeartbeats 16000000 in
set_option maxRecDepth 1000000 in
theorem value_Print_text (t : ByteArray) (w : World) (hs : t.size ≤ 64) :
    Calls Tryd.prog 34 #[.agg #[.int .i64 3, .int .i64 0, .string t]] w fun e w' => e = .returned (.tuple #[.string ⟨(quoted t.data.toList ++ [39]).toArray⟩, .int .i64 0]) ∧ Below w.heap.size w w' := by
  have hR : value_Right.f 3 0 t = some true := by
    unfold value_Right.f
    rw [if_neg (by decide), if_neg (by decide), if_neg (by decide), if_pos rfl, if_pos rfl, decide_eq_true (by omega)]
  go_enter Tryd.func34, Tryd.ntmps34
  go_wp2_with (first | (go_at_call 13; refine (value_Right.calls 3 0 t true _ hR).mono ?_; rintro e w1 ⟨rfl, hb1⟩; have B1 := hid (box_kept hb1); have HB := hid (two_below hb1); have hlt := hid (World.block_lt_of_cell? _ _ ((blk_cell B1.out 0).trans rfl)); clear hb1; have c0 : w1.cell? ⟨w.heap.size, 0, none⟩ = some (.int .i64 3) := (blk_cell B1.out 0).trans rfl; have c1 : w1.cell? ⟨w.heap.size, 2, none⟩ = some (.string t) := (blk_cell B1.out 2).trans rfl; have f0 := blk_frozen B1.out 0; have f2 := blk_frozen B1.out 2))
  have hst := hid (Lib.IsBuilderF.of (Lib.fresh_isBuilder 66 5 w1) : Lib.IsBuilderF 66 5 w1.heap.size w1.heap.size (Lib.byteCells []) _)
  refine (Builder_WriteByte w1.heap.size w1.heap.size (Lib.byteCells []) 39 _ hst.out (by rw [Lib.byteCells_length]; decide) (Nat.le_of_lt (alloc_lt w1 _))).mono ?_
  rintro e w2 ⟨rfl, h2, hb2, _⟩
  have B2 := hid (old_kept B1.out hb2)
  have HB2 := hid (HB.out.trans (((Below.refl w1.heap.size w1).alloc (Nat.le_refl _) _).trans hb2 |>.mono (Nat.le_of_lt hlt.out)))
  have HL2 := hid (Nat.le_trans (Nat.le_of_lt (alloc_lt w1 _)) hb2.size)
  have HI2 := hid (Or.inr h2 : Lib.IsBuilderF 66 5 w1.heap.size w1.heap.size (Lib.byteCells (quoted [])) w2)
  clear h2 hb2 hst c0 c1 f0 f2 B1 HB
  have c1 : w2.cell? ⟨w.heap.size, 2, none⟩ = some (.string t) := (blk_cell B2.out 2).trans rfl
  have f2 := blk_frozen B2.out 2
  go_wp2_with fail
  clear c1 f2
  go_loopg [30] t.size (fun g s30 wx => ∃ i : Nat, s30 = .int .i64 (i : Int) ∧ i + g = t.size ∧ Hid (wx.heap[w.heap.size]? = some (.cells #[.int .i64 3, .int .i64 0, .string t] 23 (0, 0))) ∧ Hid (Below w.heap.size w wx) ∧ Hid (w1.heap.size ≤ wx.heap.size) ∧ Hid (Lib.IsBuilderF 66 5 w1.heap.size w1.heap.size (Lib.byteCells (quoted (t.data.toList.take i))) wx))
  case atStart => exact ⟨0, rfl, by omega, B2, HB2, HL2, HI2⟩
  case round =>
    clear B2 HB2 HL2 HI2
    obtain ⟨i, rfl, hgi, HX, HW, HL, HI⟩ := hrel
    by_cases hi : i < t.size
    · have c1 : wr.cell? ⟨w.heap.size, 2, none⟩ = some (.string t) := (blk_cell HX.out 2).trans rfl
      have f2 := blk_frozen HX.out 2
      have p0 : (0 : Int) ≤ (i : Int) := by omega
      have p1 : (i : Int) < (t.size : Int) := by omega
      have hq := quoted_succ hi
      have hql := quoted_length (t.data.toList.take i)
      rw [List.length_take] at hql
      obtain ⟨n, hn⟩ : ∃ n : Nat, (t[i]'hi).toNat = n := ⟨_, rfl⟩
      have hn256 : n < 256 := by have := (t[i]'hi).toNat_lt; omega
      by_cases hE : n < 32 ∨ 126 < n ∨ n = 92
      · have hqb : True → quoted (t.data.toList.take (i + 1)) = quoted (t.data.toList.take i) ++ [92, hexB (n / 16), hexB (n % 16)] := fun _ => by
          rw [hq]; unfold qb; rw [hn, if_pos hE]
        have hqb := fun (h : True) => hqb h
        clear hq
        rcases hE with hE | hE | hE
        · have q0 : (n : Int) < 32 := by omega
          go_wp2_with fail
          refine (put_byte 92 92 rfl HX hlt.out HW (Nat.le_of_lt hlt.out) HL HI (by omega)).mono ?_
          rintro e w3 ⟨rfl, HX3, HW3, HL3, HI3⟩
          clear HX HW HL HI c1 f2
          go_wp2_with fail
          refine (put_byte _ _ rfl HX3 hlt.out HW3 (Nat.le_of_lt hlt.out) HL3 HI3 (by rw [List.length_append, List.length_singleton]; omega)).mono ?_
          rintro e w4 ⟨rfl, HX4, HW4, HL4, HI4⟩
          clear HX3 HW3 HL3 HI3
          go_wp2_with fail
          refine (put_byte _ _ rfl HX4 hlt.out HW4 (Nat.le_of_lt hlt.out) HL4 HI4 (by simp only [List.length_append, List.length_singleton]; omega)).mono ?_
          rintro e w5 ⟨rfl, HX5, HW5, HL5, HI5⟩
          clear HX4 HW4 HL4 HI4
          have HI6 := hid (show Lib.IsBuilderF 66 5 w1.heap.size w1.heap.size (Lib.byteCells (quoted (t.data.toList.take (i + 1)))) w5 from by rw [hqb trivial]; have h_ := HI5.out; rw [hex_at, hex_at] at h_; simpa only [List.append_assoc, List.cons_append, List.nil_append] using h_)
          clear HI5
          go_wp2_with fail
          go_roundg (t.size - (i + 1))
          case measure => omega
          case rel => exact ⟨i + 1, congrArg (Value.int .i64) (by omega), by omega, HX5, HW5, HL5, HI6⟩
        · have q0 : ¬ (n : Int) < 32 := by omega
          have q1 : (126 : Int) < (n : Int) := by omega
          go_wp2_with fail
          refine (put_byte 92 92 rfl HX hlt.out HW (Nat.le_of_lt hlt.out) HL HI (by omega)).mono ?_
          rintro e w3 ⟨rfl, HX3, HW3, HL3, HI3⟩
          clear HX HW HL HI c1 f2
          go_wp2_with fail
          refine (put_byte _ _ rfl HX3 hlt.out HW3 (Nat.le_of_lt hlt.out) HL3 HI3 (by rw [List.length_append, List.length_singleton]; omega)).mono ?_
          rintro e w4 ⟨rfl, HX4, HW4, HL4, HI4⟩
          clear HX3 HW3 HL3 HI3
          go_wp2_with fail
          refine (put_byte _ _ rfl HX4 hlt.out HW4 (Nat.le_of_lt hlt.out) HL4 HI4 (by simp only [List.length_append, List.length_singleton]; omega)).mono ?_
          rintro e w5 ⟨rfl, HX5, HW5, HL5, HI5⟩
          clear HX4 HW4 HL4 HI4
          have HI6 := hid (show Lib.IsBuilderF 66 5 w1.heap.size w1.heap.size (Lib.byteCells (quoted (t.data.toList.take (i + 1)))) w5 from by rw [hqb trivial]; have h_ := HI5.out; rw [hex_at, hex_at] at h_; simpa only [List.append_assoc, List.cons_append, List.nil_append] using h_)
          clear HI5
          go_wp2_with fail
          go_roundg (t.size - (i + 1))
          case measure => omega
          case rel => exact ⟨i + 1, congrArg (Value.int .i64) (by omega), by omega, HX5, HW5, HL5, HI6⟩
        · have q0 : ¬ (n : Int) < 32 := by omega
          have q1 : ¬ (126 : Int) < (n : Int) := by omega
          have q2 : ((n : Int) == 92) = true := by rw [hE]; rfl
          go_wp2_with fail
          refine (put_byte 92 92 rfl HX hlt.out HW (Nat.le_of_lt hlt.out) HL HI (by omega)).mono ?_
          rintro e w3 ⟨rfl, HX3, HW3, HL3, HI3⟩
          clear HX HW HL HI c1 f2
          go_wp2_with fail
          refine (put_byte _ _ rfl HX3 hlt.out HW3 (Nat.le_of_lt hlt.out) HL3 HI3 (by rw [List.length_append, List.length_singleton]; omega)).mono ?_
          rintro e w4 ⟨rfl, HX4, HW4, HL4, HI4⟩
          clear HX3 HW3 HL3 HI3
          go_wp2_with fail
          refine (put_byte _ _ rfl HX4 hlt.out HW4 (Nat.le_of_lt hlt.out) HL4 HI4 (by simp only [List.length_append, List.length_singleton]; omega)).mono ?_
          rintro e w5 ⟨rfl, HX5, HW5, HL5, HI5⟩
          clear HX4 HW4 HL4 HI4
          have HI6 := hid (show Lib.IsBuilderF 66 5 w1.heap.size w1.heap.size (Lib.byteCells (quoted (t.data.toList.take (i + 1)))) w5 from by rw [hqb trivial, hE]; have h_ := HI5.out; rw [hex_at, hex_at] at h_; simpa only [List.append_assoc, List.cons_append, List.nil_append, Nat.reduceDiv, Nat.reduceMod] using h_)
          clear HI5
          go_wp2_with fail
          go_roundg (t.size - (i + 1))
          case measure => omega
          case rel => exact ⟨i + 1, congrArg (Value.int .i64) (by omega), by omega, HX5, HW5, HL5, HI6⟩
      · have q0 : ¬ (n : Int) < 32 := by omega
        have q1 : ¬ (126 : Int) < (n : Int) := by omega
        have q2 : ((n : Int) == 92) = false := beq_eq_false_iff_ne.2 (by omega)
        by_cases h39 : n = 39
        · have q3 : ((n : Int) == 39) = true := by rw [h39]; rfl
          have hqb : quoted (t.data.toList.take (i + 1)) = quoted (t.data.toList.take i) ++ [39, 39] := by
            rw [hq]; unfold qb; rw [hn, if_neg hE, if_pos h39]
          clear hq
          go_wp2_with fail
          refine (put_byte 39 _ rfl HX hlt.out HW (Nat.le_of_lt hlt.out) HL HI (by omega)).mono ?_
          rintro e w3 ⟨rfl, HX3, HW3, HL3, HI3⟩
          clear HX HW HL HI c1 f2
          go_wp2_with fail
          refine (put_byte 39 _ rfl HX3 hlt.out HW3 (Nat.le_of_lt hlt.out) HL3 HI3 (by rw [List.length_append, List.length_singleton]; omega)).mono ?_
          rintro e w5 ⟨rfl, HX5, HW5, HL5, HI5⟩
          clear HX3 HW3 HL3 HI3
          have HI6 := hid (show Lib.IsBuilderF 66 5 w1.heap.size w1.heap.size (Lib.byteCells (quoted (t.data.toList.take (i + 1)))) w5 from by rw [hqb]; have h_ := HI5.out; simpa only [List.append_assoc, List.cons_append, List.nil_append] using h_)
          clear HI5
          go_wp2_with fail
          go_roundg (t.size - (i + 1))
          case measure => omega
          case rel => exact ⟨i + 1, congrArg (Value.int .i64) (by omega), by omega, HX5, HW5, HL5, HI6⟩
        · have q3 : ((n : Int) == 39) = false := beq_eq_false_iff_ne.2 (by omega)
          have hqb : quoted (t.data.toList.take (i + 1)) = quoted (t.data.toList.take i) ++ [t[i]'hi] := by
            rw [hq]; unfold qb; rw [hn, if_neg hE, if_neg h39]
          clear hq
          go_wp2_with fail
          refine (put_byte (t[i]'hi) _ (by rw [hn]) HX hlt.out HW (Nat.le_of_lt hlt.out) HL HI (by omega)).mono ?_
          rintro e w5 ⟨rfl, HX5, HW5, HL5, HI5⟩
          clear HX HW HL HI c1 f2
          have HI6 := hid (show Lib.IsBuilderF 66 5 w1.heap.size w1.heap.size (Lib.byteCells (quoted (t.data.toList.take (i + 1)))) w5 from by rw [hqb]; exact HI5.out)
          clear HI5
          go_wp2_with fail
          go_roundg (t.size - (i + 1))
          case measure => omega
          case rel => exact ⟨i + 1, congrArg (Value.int .i64) (by omega), by omega, HX5, HW5, HL5, HI6⟩
    · have p1 : ¬ (i : Int) < (t.size : Int) := by omega
      go_wp2_with fail
      refine (Builder_String w1.heap.size w1.heap.size _ wr HI.out HL.out).mono ?_
      rintro e w5 ⟨rfl, _, hb5, _⟩
      have HW5 := hid (HW.out.trans (hb5.mono (Nat.le_of_lt hlt.out)))
      have ei : t.data.toList.take i = t.data.toList := List.take_of_length_le (by rw [Array.length_toList]; show t.size ≤ i; omega)
      rw [ei]
      clear hb5
      have hcap : ¬ 9223372036854775807 < (quoted t.data.toList).length + 1 := by
        have := quoted_length t.data.toList
        have hl : t.data.toList.length = t.size := (Lib.size_eq t).symm
        omega
      go_wp2
      go_ret2
      refine ⟨?_, HW5.out⟩
      have e : ((⟨(quoted t.data.toList).toArray⟩ : ByteArray) ++ (⟨#[39]⟩ : ByteArray)) = ⟨(quoted t.data.toList ++ [39]).toArray⟩ := by
        apply ByteArray.ext
        rw [ByteArray.data_append]
        simp
      rw [← e]
      rfl
/-- What Print tells: of a text that is right; of nothing else here. -/
def value_Print.f (a0_0 a0_1 : Int) (a0_2 : ByteArray) : Option (ByteArray × Int) := if a0_0 = 3 ∧ a0_1 = 0 ∧ a0_2.size ≤ 64 then some (⟨(quoted a0_2.data.toList ++ [39]).toArray⟩, 0) else none
theorem value_Print.calls (a0_0 a0_1 : Int) (a0_2 r1 : ByteArray) (r2 : Int) (w : World) (h : value_Print.f a0_0 a0_1 a0_2 = some (r1, r2)) :
    Calls Tryd.prog 34 #[.agg #[.int .i64 a0_0, .int .i64 a0_1, .string a0_2]] w fun e w' => e = .returned (.tuple #[.string r1, .int .i64 r2]) ∧ Below w.heap.size w w' := by
  unfold value_Print.f at h
  split at h
  · rename_i c
    obtain ⟨rfl, rfl, hs⟩ := c
    simp only [Option.some.injEq, Prod.mk.injEq] at h
    obtain ⟨rfl, rfl⟩ := h
    exact value_Print_text a0_2 w hs
  · cases h
end Go.Proofs.YteehcopkljiikaaDoorX
