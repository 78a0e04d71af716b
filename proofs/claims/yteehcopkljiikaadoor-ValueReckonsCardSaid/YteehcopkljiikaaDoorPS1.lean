/- What a value is, and its order, in plain words; what Right, Order and Compare tell; no program's steps in sight; no conditions beyond those in each theorem's head. -/
import Derived.Test.YteehcopkljiikaaDoorPFLAwake
import Derived.Test.YteehcopkljiikaaDoorPFValueCompare
import Derived.Test.YteehcopkljiikaaDoorMA
import Derived.Test.YteehcopkljiikaaDoorPL
namespace Go.Proofs.YteehcopkljiikaaDoor.PS
open Go.RowKit Go.Proofs.YteehcopkljiikaaDoorW.PrintWords Go.Proofs.YteehcopkljiikaaDoorW.PrintLast Go.Proofs.YteehcopkljiikaaDoorW.PrintMore Go.Proofs.YteehcopkljiikaaDoorX Go.Proofs.YteehcopkljiikaaDoorL Go.Proofs.YteehcopkljiikaaDoor.PA
set_option linter.unusedVariables false
set_option linter.unusedSimpArgs false

/-- A value that may be. -/
def right (v : S23) : Bool :=
  (v.f0 == 0 && v.f1 == 0 && v.f2.size == 0) || (v.f0 == 1 && decide (-4611686018427387904 ≤ v.f1) && decide (v.f1 ≤ 4611686018427387904) && v.f2.size == 0)
  || (v.f0 == 2 && (v.f1 == 0 || v.f1 == 1) && v.f2.size == 0) || (v.f0 == 3 && v.f1 == 0 && decide (v.f2.size ≤ 64))
theorem right_iff (v : S23) : right v = true ↔ (v.f0 = 0 ∧ v.f1 = 0 ∧ v.f2.size = 0) ∨ (v.f0 = 1 ∧ -4611686018427387904 ≤ v.f1 ∧ v.f1 ≤ 4611686018427387904 ∧ v.f2.size = 0)
    ∨ (v.f0 = 2 ∧ (v.f1 = 0 ∨ v.f1 = 1) ∧ v.f2.size = 0) ∨ (v.f0 = 3 ∧ v.f1 = 0 ∧ v.f2.size ≤ 64) := by
  simp [right, and_assoc, or_assoc]
theorem empty_of {s : ByteArray} (h : s.size = 0) : s = (⟨#[]⟩ : ByteArray) := by
  apply bytesOf_inj
  rw [bytesOf_eq_nil.2 h]; rfl
theorem right_kind {v : S23} (h : right v = true) : 0 ≤ v.f0 ∧ v.f0 ≤ 3 := by
  rcases (right_iff v).1 h with h | h | h | h <;> omega
theorem eta (v u : S23) (h0 : v.f0 = u.f0) (h1 : v.f1 = u.f1) (h2 : v.f2 = u.f2) : v = u := by
  cases v; cases u; simp only at h0 h1 h2; subst h0; subst h1; subst h2; rfl
deriving instance DecidableEq for S23

/-! ### texts' order -/
/-- a is less than b. -/
def ltI : List Int → List Int → Bool
  | _, [] => false
  | [], _ :: _ => true
  | c :: s, d :: t => decide (c < d) || (decide (c = d) && ltI s t)
theorem ltI_irrefl : ∀ x : List Int, ltI x x = false
  | [] => rfl
  | c :: x => by simp [ltI, ltI_irrefl x]
theorem ltI_asymm : ∀ {x y : List Int}, ltI x y = true → ltI y x = false
  | [], [], h => by simp [ltI] at h
  | [], d :: y, h => rfl
  | c :: x, [], h => by simp [ltI] at h
  | c :: x, d :: y, h => by
    simp only [ltI, Bool.or_eq_true, Bool.and_eq_true, decide_eq_true_eq] at h
    rw [ltI]
    rcases h with h | ⟨rfl, h⟩
    · simp; exact ⟨by omega, fun e => by omega⟩
    · simp [ltI_asymm h]
theorem ltI_total : ∀ x y : List Int, ltI x y = true ∨ x = y ∨ ltI y x = true
  | [], [] => .inr (.inl rfl)
  | [], d :: y => .inl rfl
  | c :: x, [] => .inr (.inr rfl)
  | c :: x, d :: y => by
    simp only [ltI, Bool.or_eq_true, Bool.and_eq_true, decide_eq_true_eq, List.cons.injEq]
    rcases Int.lt_trichotomy c d with h | h | h
    · exact .inl (.inl h)
    · rcases ltI_total x y with h1 | h1 | h1
      · exact .inl (.inr ⟨h, h1⟩)
      · exact .inr (.inl ⟨h, h1⟩)
      · exact .inr (.inr (.inr ⟨h.symm, h1⟩))
    · exact .inr (.inr (.inl h))
/-- The model's order of strings. -/
theorem bytesLess_map : ∀ x y : List UInt8, Op.bytesLess x y = ltI (x.map fun b => (b.toNat : Int)) (y.map fun b => (b.toNat : Int))
  | [], [] => by simp [Op.bytesLess, ltI]
  | [], d :: y => by simp [Op.bytesLess, ltI]
  | c :: x, [] => by simp [Op.bytesLess, ltI]
  | c :: x, d :: y => by
    rw [Op.bytesLess, List.map_cons, List.map_cons, ltI, bytesLess_map x y]
    congr 1
    · congr 1; rw [eq_iff_iff, UInt8.lt_iff_toNat_lt]; omega
    · congr 1
      rw [Bool.eq_iff_iff, beq_iff_eq, decide_eq_true_iff, ← UInt8.toNat_inj]; omega
theorem bytesLess_eq (s t : ByteArray) : Op.bytesLess s.toList t.toList = ltI (bytesOf s) (bytesOf t) := by
  rw [bytesLess_map, bytesOf_toList, bytesOf_toList]
theorem compare_map : ∀ x y : List UInt8, Lib.compareBytes x y = if ltI (x.map fun b => (b.toNat : Int)) (y.map fun b => (b.toNat : Int)) = true then -1 else if ltI (y.map fun b => (b.toNat : Int)) (x.map fun b => (b.toNat : Int)) = true then 1 else 0
  | [], [] => by simp [Lib.compareBytes, ltI]
  | [], d :: y => by simp [Lib.compareBytes, ltI]
  | c :: x, [] => by simp [Lib.compareBytes, ltI]
  | c :: x, d :: y => by
    rw [Lib.compareBytes, List.map_cons, List.map_cons, ltI, ltI, compare_map x y]
    by_cases h : c < d
    · have h' : ((c.toNat : Int)) < (d.toNat : Int) := by rw [UInt8.lt_iff_toNat_lt] at h; omega
      rw [if_pos h, decide_eq_true h']; simp
    · rw [if_neg h]
      have h' : ¬ ((c.toNat : Int)) < (d.toNat : Int) := by rw [UInt8.lt_iff_toNat_lt] at h; omega
      by_cases g : d < c
      · have g' : ((d.toNat : Int)) < (c.toNat : Int) := by rw [UInt8.lt_iff_toNat_lt] at g; omega
        have n' : ¬ ((c.toNat : Int)) = (d.toNat : Int) := by omega
        rw [if_pos g, decide_eq_true g', decide_eq_false h', decide_eq_false n']; simp
      · have g' : ¬ ((d.toNat : Int)) < (c.toNat : Int) := by rw [UInt8.lt_iff_toNat_lt] at g; omega
        have n' : ((c.toNat : Int)) = (d.toNat : Int) := by omega
        rw [if_neg g, decide_eq_false g', decide_eq_false h', decide_eq_true n', decide_eq_true n'.symm]; simp
theorem compare_eq (s t : ByteArray) : Lib.compareBytes s.data.toList t.data.toList = if ltI (bytesOf s) (bytesOf t) = true then -1 else if ltI (bytesOf t) (bytesOf s) = true then 1 else 0 := compare_map _ _

/-- One value stands ahead of another. -/
def vlt (v w : S23) : Bool := decide (v.f0 < w.f0) || (decide (v.f0 = w.f0) && (decide (v.f1 < w.f1) || (decide (v.f1 = w.f1) && ltI (bytesOf v.f2) (bytesOf w.f2))))
theorem vlt_total (v w : S23) : vlt v w = true ∨ v = w ∨ vlt w v = true := by
  simp only [vlt, Bool.or_eq_true, Bool.and_eq_true, decide_eq_true_eq]
  rcases Int.lt_trichotomy v.f0 w.f0 with h | h | h
  · exact .inl (.inl h)
  · rcases Int.lt_trichotomy v.f1 w.f1 with g | g | g
    · exact .inl (.inr ⟨h, .inl g⟩)
    · rcases ltI_total (bytesOf v.f2) (bytesOf w.f2) with e | e | e
      · exact .inl (.inr ⟨h, .inr ⟨g, e⟩⟩)
      · exact .inr (.inl (eta _ _ h g (bytesOf_inj e)))
      · exact .inr (.inr (.inr ⟨h.symm, .inr ⟨g.symm, e⟩⟩))
    · exact .inr (.inr (.inr ⟨h.symm, .inl g⟩))
  · exact .inr (.inr (.inl h))
theorem vlt_irrefl (v : S23) : vlt v v = false := by simp [vlt, ltI_irrefl]
theorem vlt_asymm {v w : S23} (h : vlt v w = true) : vlt w v = false := by
  simp only [vlt, Bool.or_eq_true, Bool.and_eq_true, decide_eq_true_eq] at h
  rw [Bool.eq_false_iff]
  intro h2
  simp only [vlt, Bool.or_eq_true, Bool.and_eq_true, decide_eq_true_eq] at h2
  rcases h with h | ⟨h, h3⟩
  · rcases h2 with h2 | ⟨h2, _⟩ <;> omega
  · rcases h2 with h2 | ⟨h2, h4⟩
    · omega
    · rcases h3 with h3 | ⟨h3, h5⟩
      · rcases h4 with h4 | ⟨h4, _⟩ <;> omega
      · rcases h4 with h4 | ⟨h4, h6⟩
        · omega
        · rw [ltI_asymm h5] at h6; cases h6
/-- The order of two values. -/
def cmpV (v w : S23) : Int := if v = w then 0 else if vlt v w = true then -1 else 1
theorem beq_nil (s : ByteArray) : (s.toList == ([] : List UInt8)) = (s.size == 0) := by
  rw [Bool.eq_iff_iff]
  simp [toList_nil]
theorem right_row (v : S23) : value_Right.f v.f0 v.f1 v.f2 = some (right v) := by
  unfold value_Right.f right
  simp only [beq_nil]
  by_cases h0 : v.f0 = 0
  · rw [if_pos h0]; simp [h0]
  · rw [if_neg h0]
    by_cases h1 : v.f0 = 1
    · rw [if_pos h1]
      by_cases a : v.f1 ≥ (-4611686018427387904) <;> by_cases b : v.f1 ≤ 4611686018427387904 <;> simp [h1, a, b] <;> omega
    · rw [if_neg h1]
      by_cases h2 : v.f0 = 2
      · rw [if_pos h2]
        by_cases a : v.f1 = 0
        · simp [h2, a]
        · by_cases b : v.f1 = 1
          · simp [h2, b]
          · rw [if_neg (by omega)]; simp [h2, a, b]
      · rw [if_neg h2]
        by_cases h3 : v.f0 = 3
        · rw [if_pos h3]
          by_cases a : v.f1 = 0
          · rw [if_pos a]; simp [h3, a]; omega
          · rw [if_neg a]; simp [h3, a]
        · rw [if_neg h3]; simp [h0, h1, h2, h3]
/-! ### the order -/
def cmpI (a b : Int) : Int := if a < b then -1 else if a > b then 1 else 0
theorem compare_int (a b : Int) : cmp_Compare_int.f a b = some (cmpI a b) := by
  unfold cmp_Compare_int.f cmp_isNaN_int.f cmpI
  rw [bne_self_eq_false, some_bind, bne_self_eq_false, some_bind, if_neg (by decide), if_neg (by decide)]
  split
  · rfl
  · split <;> rfl
theorem or_int (x y z : Int) {k : Nat} (hk : 4 ≤ k) : cmp_Or_int.f k [x, y, z] = some (if x = 0 then if y = 0 then z else y else x) := by
  obtain ⟨k, rfl⟩ : ∃ j, k = j + 1 + 1 + 1 + 1 := ⟨k - 4, by omega⟩
  unfold cmp_Or_int.f
  have r0 : rd [x, y, z] 0 = x := rfl
  have r1 : rd [x, y, z] 1 = y := rfl
  have r2 : rd [x, y, z] 2 = z := rfl
  have e1 : wrap64 (0 + 1) = 1 := by unfold wrap64; omega
  have e2 : wrap64 (1 + 1) = 2 := by unfold wrap64; omega
  have e3 : wrap64 (2 + 1) = 3 := by unfold wrap64; omega
  have l3 : (([x, y, z] : List Int).length : Int) = 3 := rfl
  rw [l3, cmp_Or_int.l0, if_pos (by decide), if_pos (by decide), l3, if_pos (by decide), r0, e1]
  by_cases h : x = 0
  · rw [if_pos h, if_pos h, cmp_Or_int.l0, if_pos (by decide), if_pos (by decide), l3, if_pos (by decide), r1, e2]
    by_cases g : y = 0
    · rw [if_pos g, if_pos g, cmp_Or_int.l0, if_pos (by decide), if_pos (by decide), l3, if_pos (by decide), r2, e3]
      by_cases f : z = 0
      · rw [if_pos f, cmp_Or_int.l0, if_neg (by decide), f]
      · rw [if_neg f]
    · rw [if_neg g, if_neg g]
  · rw [if_neg h, if_neg h]
theorem cmpI_lt {a b : Int} (h : a < b) : cmpI a b = -1 := if_pos h
theorem cmpI_gt {a b : Int} (h : b < a) : cmpI a b = 1 := by unfold cmpI; rw [if_neg (by omega), if_pos h]
theorem cmpI_eq {a b : Int} (h : a = b) : cmpI a b = 0 := by unfold cmpI; rw [if_neg (by omega), if_neg (by omega)]
theorem order_value (v w : S23) {k : Nat} (hk : 4 ≤ k) : value_Order.f k v.f0 v.f1 v.f2 w.f0 w.f1 w.f2 = some (cmpV v w) := by
  unfold value_Order.f
  rw [compare_int, some_bind, compare_int, some_bind, show strings_Compare.f v.f2 w.f2 = some (Lib.compareBytes v.f2.data.toList w.f2.data.toList) from rfl, some_bind, or_int _ _ _ hk, some_bind, compare_eq]
  congr 1
  by_cases e : v = w
  · subst e
    unfold cmpV
    rw [if_pos rfl, cmpI_eq rfl, cmpI_eq rfl, ltI_irrefl]; rfl
  · unfold cmpV
    rw [if_neg e]
    rcases vlt_total v w with g | g | g
    · rw [if_pos g]
      simp only [vlt, Bool.or_eq_true, Bool.and_eq_true, decide_eq_true_eq] at g
      rcases g with g | ⟨h0, g⟩
      · rw [cmpI_lt g]; rfl
      · rw [cmpI_eq h0, if_pos rfl]
        rcases g with g | ⟨h1, g⟩
        · rw [cmpI_lt g]; rfl
        · rw [cmpI_eq h1, if_pos rfl, if_pos g]
    · exact absurd g e
    · rw [if_neg (show ¬ vlt v w = true by rw [vlt_asymm g]; decide)]
      simp only [vlt, Bool.or_eq_true, Bool.and_eq_true, decide_eq_true_eq] at g
      rcases g with g | ⟨h0, g⟩
      · rw [cmpI_gt g]; rfl
      · rw [cmpI_eq h0.symm, if_pos rfl]
        rcases g with g | ⟨h1, g⟩
        · rw [cmpI_gt g]; rfl
        · rw [cmpI_eq h1.symm, if_pos rfl, if_neg (by rw [ltI_asymm g]; decide), if_pos g]
theorem cmpV_zero {v w : S23} : cmpV v w = 0 ↔ v = w := by
  unfold cmpV
  by_cases h : v = w
  · simp [h]
  · rw [if_neg h]
    split <;> simp [h]

/-! ### Compare -/
/-- What Compare tells. -/
def cmpSpec (op : Int) (v w : S23) : Int × Int × ByteArray × Int :=
  if op < 1 ∨ 6 < op then (0, 0, ⟨#[]⟩, 1) else if right v = false ∨ right w = false then (0, 0, ⟨#[]⟩, 10) else if v.f0 = 0 ∨ w.f0 = 0 then (0, 0, ⟨#[]⟩, 0) else if v.f0 = w.f0 then
    (2, (if (if op = 1 then cmpV v w = 0 else if op = 2 then cmpV v w ≠ 0 else if op = 3 then cmpV v w < 0 else if op = 4 then cmpV v w ≤ 0 else if op = 5 then cmpV v w > 0 else cmpV v w ≥ 0) then 1 else 0), ⟨#[]⟩, 0)
  else (0, 0, ⟨#[]⟩, 11)
theorem truth_eq (b : Bool) : value_truth.f b = some (2, (if b = true then 1 else 0), ⟨#[]⟩) := by cases b <;> rfl
theorem compare_row (op : Int) (v w : S23) {k : Nat} (hk : 10 ≤ k) : value_Compare.f k op v.f0 v.f1 v.f2 w.f0 w.f1 w.f2 = some (cmpSpec op v w) := by
  obtain ⟨k, rfl⟩ : ∃ j, k = j + 1 + 1 + 1 := ⟨k - 3, by omega⟩
  unfold value_Compare.f cmpSpec
  have bad : ∀ j, value_Compare.j0 (j + 1) op true v.f0 v.f1 v.f2 w.f0 w.f1 w.f2 = some (0, 0, ⟨#[]⟩, 1) := fun j => by rw [value_Compare.j0, if_pos rfl]
  by_cases h1 : op < 1
  · rw [if_pos h1, bad, if_pos (.inl h1)]
  · rw [if_neg h1]
    by_cases h6 : op > 6
    · rw [decide_eq_true h6, bad, if_pos (.inr h6)]
    · rw [decide_eq_false h6, if_neg (by omega), value_Compare.j0, if_neg (by decide), right_row, some_bind]
      have wrong : ∀ j, value_Compare.j1 (j + 1) op true v.f0 v.f1 v.f2 w.f0 w.f1 w.f2 = some (0, 0, ⟨#[]⟩, 10) := fun j => by rw [value_Compare.j1, if_pos rfl]
      by_cases hv : right v = true
      · rw [if_pos hv, right_row, some_bind]
        by_cases hw : right w = true
        · rw [hw, if_neg (by rw [hv]; decide), show (!true) = false from rfl, value_Compare.j1, if_neg (by decide)]
          have null : ∀ j, value_Compare.j2 (j + 1) op true v.f0 v.f1 v.f2 w.f0 w.f1 w.f2 = some (0, 0, ⟨#[]⟩, 0) := fun j => by rw [value_Compare.j2, if_pos rfl]
          by_cases n1 : v.f0 = 0
          · rw [if_pos n1, null, if_pos (.inl n1)]
          · rw [if_neg n1]
            by_cases n2 : w.f0 = 0
            · rw [show (w.f0 == 0) = true from beq_iff_eq.2 n2, null, if_pos (.inr n2)]
            · rw [show (w.f0 == 0) = false from beq_eq_false_iff_ne.2 n2, value_Compare.j2, if_neg (by decide), if_neg (show ¬ (v.f0 = 0 ∨ w.f0 = 0) by rintro (h | h) <;> contradiction)]
              by_cases hk2 : v.f0 = w.f0
              · rw [if_pos hk2, if_pos hk2, order_value v w (by omega), some_bind]
                simp only [truth_eq, some_bind]
                split
                · simp
                · split
                  · simp
                  · split
                    · simp
                    · split
                      · simp
                      · split
                        · simp
                        · simp
              · rw [if_neg hk2, if_neg hk2]
        · have hw' : right w = false := by simpa using hw
          rw [hw', show (!false) = true from rfl, wrong, if_pos (.inr rfl)]
      · have hv' : right v = false := by simpa using hv
        rw [if_neg hv, wrong, if_pos (.inl hv')]
theorem awake_300 : unisonlaw01_awake.f 300 = some true := by decide +kernel
theorem awake_all {k : Nat} (hk : 300 ≤ k) : unisonlaw01_awake.f k = some true := at_rounds unisonlaw01_awake.mono hk awake_300
end Go.Proofs.YteehcopkljiikaaDoor.PS
