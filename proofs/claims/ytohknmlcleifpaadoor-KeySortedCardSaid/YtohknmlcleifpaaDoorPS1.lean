/- What a key is, in plain lists: a value's bytes, their order; unlike values differ, and fall as the values do; no program in sight; no conditions beyond those in each theorem's head. -/
import Derived.Test.YtohknmlcleifpaaDoorPL
import Derived.Test.YtohknmlcleifpaaDoorPAx1
namespace Go.Proofs.YtohknmlcleifpaaDoor.PS
open Go.RowKit Go.Proofs.YtohknmlcleifpaaDoorW.PrintWords Go.Proofs.YtohknmlcleifpaaDoorW.PrintLast Go.Proofs.YtohknmlcleifpaaDoorW.PrintMore Go.Proofs.YtohknmlcleifpaaDoorX Go.Proofs.YtohknmlcleifpaaDoorL Go.Proofs.YtohknmlcleifpaaDoor.PA
set_option linter.unusedVariables false
set_option linter.unusedSimpArgs false

/-- A value that a key may hold. -/
def right (v : S25) : Bool :=
  (v.f0 == 0 && v.f1 == 0 && v.f2.size == 0) || (v.f0 == 1 && decide (-4611686018427387904 ≤ v.f1) && decide (v.f1 ≤ 4611686018427387904) && v.f2.size == 0)
  || (v.f0 == 2 && (v.f1 == 0 || v.f1 == 1) && v.f2.size == 0) || (v.f0 == 3 && v.f1 == 0 && decide (v.f2.size ≤ 64))
theorem right_iff (v : S25) : right v = true ↔ (v.f0 = 0 ∧ v.f1 = 0 ∧ v.f2.size = 0) ∨ (v.f0 = 1 ∧ -4611686018427387904 ≤ v.f1 ∧ v.f1 ≤ 4611686018427387904 ∧ v.f2.size = 0)
    ∨ (v.f0 = 2 ∧ (v.f1 = 0 ∨ v.f1 = 1) ∧ v.f2.size = 0) ∨ (v.f0 = 3 ∧ v.f1 = 0 ∧ v.f2.size ≤ 64) := by
  simp [right, and_assoc, or_assoc]
theorem empty_of {s : ByteArray} (h : s.size = 0) : s = (⟨#[]⟩ : ByteArray) := by
  apply bytesOf_inj
  rw [bytesOf_eq_nil.2 h]; rfl
theorem right_kind {v : S25} (h : right v = true) : 0 ≤ v.f0 ∧ v.f0 ≤ 3 := by
  rcases (right_iff v).1 h with h | h | h | h <;> omega
theorem eta (v u : S25) (h0 : v.f0 = u.f0) (h1 : v.f1 = u.f1) (h2 : v.f2 = u.f2) : v = u := by
  cases v; cases u; simp only at h0 h1 h2; subst h0; subst h1; subst h2; rfl
deriving instance DecidableEq for S25

/-! ### texts' order -/
/-- a is less than b. -/
def ltI : List Int → List Int → Bool
  | _, [] => false
  | [], _ :: _ => true
  | c :: s, d :: t => decide (c < d) || (decide (c = d) && ltI s t)
/-- The first byte in which two texts differ is less in the first. -/
inductive FB : List Int → List Int → Prop
  | head {c d : Int} {s t : List Int} (h : c < d) : FB (c :: s) (d :: t)
  | tail {c : Int} {s t : List Int} (h : FB s t) : FB (c :: s) (c :: t)
theorem FB.lt {x y : List Int} (h : FB x y) : ltI x y = true := by
  induction h with
  | head h => simp [ltI, h]
  | tail h ih => simp [ltI, ih]
theorem FB.app {x y : List Int} (h : FB x y) (s t : List Int) : FB (x ++ s) (y ++ t) := by
  induction h with
  | head h => exact .head h
  | tail h ih => exact .tail ih
theorem FB.pre {x y : List Int} (h : FB x y) : ∀ p : List Int, FB (p ++ x) (p ++ y)
  | [] => h
  | c :: p => .tail (h.pre p)
theorem FB.ne {x y : List Int} (h : FB x y) : x ≠ y := by
  induction h with
  | head h => intro e; simp only [List.cons.injEq] at e; omega
  | tail h ih => intro e; simp only [List.cons.injEq] at e; exact ih e.2
theorem ltI_irrefl : ∀ x : List Int, ltI x x = false
  | [] => rfl
  | c :: x => by simp [ltI, ltI_irrefl x]
theorem ltI_asymm : ∀ {x y : List Int}, ltI x y = true → ltI y x = false
  | [], [], h => by simp [ltI] at h
  | [], d :: y, h => rfl
  | c :: x, [], h => by simp [ltI] at h
  | c :: x, d :: y, h => by
    simp only [ltI, Bool.or_eq_true, Bool.and_eq_true, decide_eq_true_eq] at h
    rw [ltI]
    rcases h with h | ⟨rfl, h⟩
    · simp; exact ⟨by omega, fun e => by omega⟩
    · simp [ltI_asymm h]
theorem ltI_total : ∀ x y : List Int, ltI x y = true ∨ x = y ∨ ltI y x = true
  | [], [] => .inr (.inl rfl)
  | [], d :: y => .inl rfl
  | c :: x, [] => .inr (.inr rfl)
  | c :: x, d :: y => by
    simp only [ltI, Bool.or_eq_true, Bool.and_eq_true, decide_eq_true_eq, List.cons.injEq]
    rcases Int.lt_trichotomy c d with h | h | h
    · exact .inl (.inl h)
    · rcases ltI_total x y with h1 | h1 | h1
      · exact .inl (.inr ⟨h, h1⟩)
      · exact .inr (.inl ⟨h, h1⟩)
      · exact .inr (.inr (.inr ⟨h.symm, h1⟩))
    · exact .inr (.inr (.inl h))
/-- The model's order of strings. -/
theorem bytesLess_map : ∀ x y : List UInt8, Op.bytesLess x y = ltI (x.map fun b => (b.toNat : Int)) (y.map fun b => (b.toNat : Int))
  | [], [] => by simp [Op.bytesLess, ltI]
  | [], d :: y => by simp [Op.bytesLess, ltI]
  | c :: x, [] => by simp [Op.bytesLess, ltI]
  | c :: x, d :: y => by
    rw [Op.bytesLess, List.map_cons, List.map_cons, ltI, bytesLess_map x y]
    congr 1
    · congr 1; rw [eq_iff_iff, UInt8.lt_iff_toNat_lt]; omega
    · congr 1
      rw [Bool.eq_iff_iff, beq_iff_eq, decide_eq_true_iff, ← UInt8.toNat_inj]; omega
theorem bytesLess_eq (s t : ByteArray) : Op.bytesLess s.toList t.toList = ltI (bytesOf s) (bytesOf t) := by
  rw [bytesLess_map, bytesOf_toList, bytesOf_toList]
theorem compare_map : ∀ x y : List UInt8, Lib.compareBytes x y = if ltI (x.map fun b => (b.toNat : Int)) (y.map fun b => (b.toNat : Int)) = true then -1 else if ltI (y.map fun b => (b.toNat : Int)) (x.map fun b => (b.toNat : Int)) = true then 1 else 0
  | [], [] => by simp [Lib.compareBytes, ltI]
  | [], d :: y => by simp [Lib.compareBytes, ltI]
  | c :: x, [] => by simp [Lib.compareBytes, ltI]
  | c :: x, d :: y => by
    rw [Lib.compareBytes, List.map_cons, List.map_cons, ltI, ltI, compare_map x y]
    by_cases h : c < d
    · have h' : ((c.toNat : Int)) < (d.toNat : Int) := by rw [UInt8.lt_iff_toNat_lt] at h; omega
      rw [if_pos h, decide_eq_true h']; simp
    · rw [if_neg h]
      have h' : ¬ ((c.toNat : Int)) < (d.toNat : Int) := by rw [UInt8.lt_iff_toNat_lt] at h; omega
      by_cases g : d < c
      · have g' : ((d.toNat : Int)) < (c.toNat : Int) := by rw [UInt8.lt_iff_toNat_lt] at g; omega
        have n' : ¬ ((c.toNat : Int)) = (d.toNat : Int) := by omega
        rw [if_pos g, decide_eq_true g', decide_eq_false h', decide_eq_false n']; simp
      · have g' : ¬ ((d.toNat : Int)) < (c.toNat : Int) := by rw [UInt8.lt_iff_toNat_lt] at g; omega
        have n' : ((c.toNat : Int)) = (d.toNat : Int) := by omega
        rw [if_neg g, decide_eq_false g', decide_eq_false h', decide_eq_true n', decide_eq_true n'.symm]; simp
theorem compare_eq (s t : ByteArray) : Lib.compareBytes s.data.toList t.data.toList = if ltI (bytesOf s) (bytesOf t) = true then -1 else if ltI (bytesOf t) (bytesOf s) = true then 1 else 0 := compare_map _ _

/-! ### a value's bytes -/
/-- The lowest k bytes of a number, the highest of them first. -/
def be : Nat → Nat → List Int
  | 0, _ => []
  | k + 1, m => ((m / 256 ^ k % 256 : Nat) : Int) :: be k m
theorem be_length : ∀ k m, (be k m).length = k
  | 0, _ => rfl
  | k + 1, m => by rw [be, List.length_cons, be_length k m]
theorem be_bytes : ∀ k m, Bytes (be k m)
  | 0, _ => Bytes.nil
  | k + 1, m => Bytes.cons (by omega) (by omega) (be_bytes k m)
theorem be_fb : ∀ k (m n : Nat), m % 256 ^ k < n % 256 ^ k → FB (be k m) (be k n)
  | 0, m, n, h => by simp at h; omega
  | k + 1, m, n, h => by
    rw [Nat.pow_succ, Nat.mod_mul, Nat.mod_mul] at h
    rw [be, be]
    have hP : 0 < 256 ^ k := Nat.pow_pos (by decide)
    have ha := Nat.mod_lt m hP
    have hb := Nat.mod_lt n hP
    rcases Nat.lt_trichotomy (m / 256 ^ k % 256) (n / 256 ^ k % 256) with c | c | c
    · exact .head (by omega)
    · rw [c] at h ⊢
      exact .tail (be_fb k m n (by omega))
    · exfalso
      have : 256 ^ k * (n / 256 ^ k % 256 + 1) ≤ 256 ^ k * (m / 256 ^ k % 256) := Nat.mul_le_mul_left _ c
      rw [Nat.mul_succ] at this
      omega
/-- The bytes of a text, 255 behind each 0. -/
def dz : List Int → List Int
  | [] => []
  | c :: s => if c = 0 then 0 :: 255 :: dz s else c :: dz s
theorem dz_bytes : ∀ {s : List Int}, Bytes s → Bytes (dz s)
  | [], _ => Bytes.nil
  | c :: s, h => by
    have hs : Bytes s := fun x hx => h x (List.mem_cons_of_mem _ hx)
    have hc := h c (List.mem_cons_self ..)
    rw [dz]
    split
    · exact Bytes.cons (by omega) (by omega) (Bytes.cons (by omega) (by omega) (dz_bytes hs))
    · exact Bytes.cons hc.1 hc.2 (dz_bytes hs)
theorem dz_length : ∀ s : List Int, (dz s).length ≤ 2 * s.length
  | [] => by simp [dz]
  | c :: s => by
    have := dz_length s
    rw [dz]
    split <;> simp only [List.length_cons] <;> omega
theorem dz_app : ∀ a b : List Int, dz (a ++ b) = dz a ++ dz b
  | [], b => rfl
  | c :: a, b => by
    rw [List.cons_append, dz, dz, dz_app a b]
    split <;> rfl
theorem dz_fb : ∀ (a b : List Int), Bytes a → Bytes b → ltI a b = true → FB (dz a ++ [0, 0]) (dz b ++ [0, 0])
  | [], [], _, _, h => by simp [ltI] at h
  | c :: a, [], _, _, h => by simp [ltI] at h
  | [], d :: b, _, hb, _ => by
    have hd := hb d (List.mem_cons_self ..)
    rw [dz, dz]
    by_cases h : d = 0
    · rw [if_pos h]; exact .tail (.head (by omega))
    · rw [if_neg h]; exact .head (by omega)
  | c :: a, d :: b, ha, hb, h => by
    have hc := ha c (List.mem_cons_self ..)
    have hd := hb d (List.mem_cons_self ..)
    simp only [ltI, Bool.or_eq_true, Bool.and_eq_true, decide_eq_true_eq] at h
    rw [dz, dz]
    rcases h with h | ⟨rfl, h⟩
    · rw [if_neg (show ¬ d = 0 by omega)]
      split
      · exact .head (by omega)
      · exact .head h
    · have ih := dz_fb a b (fun x hx => ha x (List.mem_cons_of_mem _ hx)) (fun x hx => hb x (List.mem_cons_of_mem _ hx)) h
      split
      · exact .tail (.tail ih)
      · exact .tail ih
/-- The bytes of a value. -/
def body (v : S25) : List Int := if v.f0 = 1 then be 8 (v.f1 + 9223372036854775808).toNat else if v.f0 = 2 then [v.f1 % 256] else if v.f0 = 3 then dz (bytesOf v.f2) ++ [0, 0] else []
def one (v : S25) : List Int := (v.f0 + 1) % 256 :: body v
theorem body0 {v : S25} (h : v.f0 = 0) : body v = [] := by simp [body, h]
theorem body1 {v : S25} (h : v.f0 = 1) : body v = be 8 (v.f1 + 9223372036854775808).toNat := by simp [body, h]
theorem body2 {v : S25} (h : v.f0 = 2) : body v = [v.f1 % 256] := by simp [body, h]
theorem body3 {v : S25} (h : v.f0 = 3) : body v = dz (bytesOf v.f2) ++ [0, 0] := by simp [body, h]
theorem one_bytes (v : S25) : Bytes (one v) := by
  refine Bytes.cons (by omega) (by omega) ?_
  unfold body
  split
  · exact be_bytes _ _
  · split
    · exact Bytes.cons (by omega) (by omega) Bytes.nil
    · split
      · exact Bytes.append (dz_bytes (bytesOf_bytes _)) (Bytes.cons (by omega) (by omega) (Bytes.cons (by omega) (by omega) Bytes.nil))
      · exact Bytes.nil
theorem one_length {v : S25} (h : right v = true) : (one v).length ≤ 131 := by
  rw [one, List.length_cons]
  rcases (right_iff v).1 h with h | h | h | h
  · rw [body0 h.1]; simp
  · rw [body1 h.1, be_length]; omega
  · rw [body2 h.1]; simp
  · rw [body3 h.1, List.length_append]
    have := dz_length (bytesOf v.f2)
    rw [bytesOf_length] at this
    simp only [List.length_cons, List.length_nil]
    omega
theorem one_pos (v : S25) : 0 < (one v).length := by rw [one, List.length_cons]; omega
/-- One value stands ahead of another. -/
def vlt (v w : S25) : Bool := decide (v.f0 < w.f0) || (decide (v.f0 = w.f0) && (decide (v.f1 < w.f1) || (decide (v.f1 = w.f1) && ltI (bytesOf v.f2) (bytesOf w.f2))))
theorem vlt_total (v w : S25) : vlt v w = true ∨ v = w ∨ vlt w v = true := by
  simp only [vlt, Bool.or_eq_true, Bool.and_eq_true, decide_eq_true_eq]
  rcases Int.lt_trichotomy v.f0 w.f0 with h | h | h
  · exact .inl (.inl h)
  · rcases Int.lt_trichotomy v.f1 w.f1 with g | g | g
    · exact .inl (.inr ⟨h, .inl g⟩)
    · rcases ltI_total (bytesOf v.f2) (bytesOf w.f2) with e | e | e
      · exact .inl (.inr ⟨h, .inr ⟨g, e⟩⟩)
      · exact .inr (.inl (eta _ _ h g (bytesOf_inj e)))
      · exact .inr (.inr (.inr ⟨h.symm, .inr ⟨g.symm, e⟩⟩))
    · exact .inr (.inr (.inr ⟨h.symm, .inl g⟩))
  · exact .inr (.inr (.inl h))
theorem vlt_irrefl (v : S25) : vlt v v = false := by simp [vlt, ltI_irrefl]
theorem vlt_asymm {v w : S25} (h : vlt v w = true) : vlt w v = false := by
  simp only [vlt, Bool.or_eq_true, Bool.and_eq_true, decide_eq_true_eq] at h
  rw [Bool.eq_false_iff]
  intro h2
  simp only [vlt, Bool.or_eq_true, Bool.and_eq_true, decide_eq_true_eq] at h2
  rcases h with h | ⟨h, h3⟩
  · rcases h2 with h2 | ⟨h2, _⟩ <;> omega
  · rcases h2 with h2 | ⟨h2, h4⟩
    · omega
    · rcases h3 with h3 | ⟨h3, h5⟩
      · rcases h4 with h4 | ⟨h4, _⟩ <;> omega
      · rcases h4 with h4 | ⟨h4, h6⟩
        · omega
        · rw [ltI_asymm h5] at h6; cases h6
/-- THE BYTES STAND AS THE VALUES DO. -/
theorem one_fb {v w : S25} (hv : right v = true) (hw : right w = true) (h : vlt v w = true) : FB (one v) (one w) := by
  have kv := right_kind hv
  have kw := right_kind hw
  simp only [vlt, Bool.or_eq_true, Bool.and_eq_true, decide_eq_true_eq] at h
  unfold one
  rcases h with h | ⟨hk, h⟩
  · exact .head (by omega)
  · rw [hk]
    refine .tail ?_
    rcases (right_iff v).1 hv with p | p | p | p <;> rcases (right_iff w).1 hw with q | q | q | q <;> (try (exfalso; omega))
    · exfalso
      rw [empty_of p.2.2, empty_of q.2.2, ltI_irrefl] at h
      rcases h with h | ⟨_, h⟩
      · omega
      · cases h
    · rw [body1 p.1, body1 q.1]
      rw [empty_of p.2.2.2, empty_of q.2.2.2, ltI_irrefl] at h
      have h : v.f1 < w.f1 := by
        rcases h with h | ⟨_, h⟩
        · exact h
        · cases h
      apply be_fb
      rw [Nat.mod_eq_of_lt (by show _ < 18446744073709551616; omega), Nat.mod_eq_of_lt (by show _ < 18446744073709551616; omega)]
      omega
    · rw [body2 p.1, body2 q.1]
      rw [empty_of p.2.2, empty_of q.2.2, ltI_irrefl] at h
      have h : v.f1 < w.f1 := by
        rcases h with h | ⟨_, h⟩
        · exact h
        · cases h
      exact .head (by omega)
    · rw [body3 p.1, body3 q.1]
      rcases h with h | ⟨_, h⟩
      · omega
      · exact dz_fb _ _ (bytesOf_bytes _) (bytesOf_bytes _) h
theorem one_inj {v w : S25} (hv : right v = true) (hw : right w = true) {a b : List Int} (h : one v ++ a = one w ++ b) : v = w ∧ a = b := by
  rcases vlt_total v w with g | rfl | g
  · exact absurd h ((one_fb hv hw g).app a b).ne
  · exact ⟨rfl, List.append_cancel_left h⟩
  · exact absurd h.symm ((one_fb hw hv g).app b a).ne

/-! ### keys -/
def enc (l : List S25) : List Int := l.flatMap one
def Rts (l : List S25) : Prop := ∀ v ∈ l, right v = true
theorem Rts.tail {v : S25} {l : List S25} (h : Rts (v :: l)) : Rts l := fun u hu => h u (List.mem_cons_of_mem _ hu)
theorem Rts.head {v : S25} {l : List S25} (h : Rts (v :: l)) : right v = true := h v (List.mem_cons_self ..)
theorem Rts.take {l : List S25} (h : Rts l) (n : Nat) : Rts (l.take n) := fun u hu => h u (List.mem_of_mem_take hu)
theorem enc_cons (v : S25) (l : List S25) : enc (v :: l) = one v ++ enc l := List.flatMap_cons
theorem enc_app (a b : List S25) : enc (a ++ b) = enc a ++ enc b := List.flatMap_append
theorem enc_bytes (l : List S25) : Bytes (enc l) := fun x hx => by
  obtain ⟨v, _, h⟩ := List.mem_flatMap.1 hx
  exact one_bytes v x h
theorem enc_length : ∀ {l : List S25}, Rts l → (enc l).length ≤ 131 * l.length
  | [], _ => by simp [enc]
  | v :: l, h => by
    rw [enc_cons, List.length_append, List.length_cons]
    have := one_length h.head
    have := enc_length h.tail
    omega
theorem enc_eq_nil {l : List S25} (h : enc l = []) : l = [] := by
  cases l with
  | nil => rfl
  | cons v l =>
    have := congrArg List.length h
    rw [enc_cons, List.length_append] at this
    have := one_pos v
    simp only [List.length_nil] at *
    omega
/-- A key that begins another one is the key of its first values, if there are no more of them. -/
theorem enc_front : ∀ {b a : List S25} {r : List Int}, Rts b → Rts a → b.length ≤ a.length → enc b ++ r = enc a → b = a.take b.length
  | [], a, r, _, _, _, _ => by simp
  | w :: b, [], r, _, _, hl, _ => by simp at hl
  | w :: b, v :: a, r, hb, ha, hl, h => by
    rw [enc_cons, enc_cons, List.append_assoc] at h
    obtain ⟨rfl, h2⟩ := one_inj hb.head ha.head h
    rw [List.length_cons, List.take_succ_cons, ← enc_front hb.tail ha.tail (by simpa using hl) h2]
theorem enc_inj : ∀ {a b : List S25}, Rts a → Rts b → enc a = enc b → a = b
  | [], b, _, _, h => (enc_eq_nil h.symm).symm
  | v :: a, [], _, _, h => enc_eq_nil h
  | v :: a, w :: b, ha, hb, h => by
    rw [enc_cons, enc_cons] at h
    obtain ⟨rfl, h2⟩ := one_inj ha.head hb.head h
    rw [enc_inj ha.tail hb.tail h2]
/-- The order of lists. -/
def cmpV (v w : S25) : Int := if v = w then 0 else if vlt v w = true then -1 else 1
def cmpL : List S25 → List S25 → Int
  | [], [] => 0
  | [], _ :: _ => -1
  | _ :: _, [] => 1
  | v :: a, w :: b => if v = w then cmpL a b else if vlt v w = true then -1 else 1
theorem cmpL_is : ∀ a b, cmpL a b = -1 ∨ cmpL a b = 0 ∨ cmpL a b = 1
  | [], [] => .inr (.inl rfl)
  | [], _ :: _ => .inl rfl
  | _ :: _, [] => .inr (.inr rfl)
  | v :: a, w :: b => by
    rw [cmpL]
    by_cases h : v = w
    · rw [if_pos h]; exact cmpL_is a b
    · rw [if_neg h]
      split
      · exact .inl rfl
      · exact .inr (.inr rfl)
theorem cmpL_self : ∀ a, cmpL a a = 0
  | [] => rfl
  | v :: a => by rw [cmpL, if_pos rfl, cmpL_self a]
theorem cmpL_eq : ∀ {a b}, cmpL a b = 0 → a = b
  | [], [], _ => rfl
  | [], _ :: _, h => by simp [cmpL] at h
  | _ :: _, [], h => by simp [cmpL] at h
  | v :: a, w :: b, h => by
    rw [cmpL] at h
    by_cases e : v = w
    · rw [if_pos e] at h; rw [e, cmpL_eq h]
    · rw [if_neg e] at h; split at h <;> omega
theorem cmpL_swap : ∀ {a b}, cmpL a b = 1 → cmpL b a = -1
  | [], [], h => by simp [cmpL] at h
  | [], _ :: _, h => by simp [cmpL] at h
  | _ :: _, [], h => rfl
  | v :: a, w :: b, h => by
    rw [cmpL] at h ⊢
    by_cases e : v = w
    · rw [if_pos e] at h; rw [if_pos e.symm]; exact cmpL_swap h
    · rw [if_neg e] at h
      rw [if_neg (fun h => e h.symm)]
      by_cases g : vlt v w = true
      · rw [if_pos g] at h; omega
      · rcases vlt_total v w with c | c | c
        · exact absurd c g
        · exact absurd c e
        · rw [if_pos c]
theorem ltI_pre : ∀ (p : List Int) {x y : List Int}, ltI x y = true → ltI (p ++ x) (p ++ y) = true
  | [], _, _, h => h
  | c :: p, _, _, h => by simp [ltI, ltI_pre p h]
/-- THE KEYS STAND AS THE VALUES DO. -/
theorem enc_lt : ∀ {a b : List S25}, Rts a → Rts b → cmpL a b = -1 → ltI (enc a) (enc b) = true
  | [], [], _, _, h => by simp [cmpL] at h
  | [], w :: b, _, _, _ => by rw [enc_cons, one]; rfl
  | _ :: _, [], _, _, h => by simp [cmpL] at h
  | v :: a, w :: b, ha, hb, h => by
    rw [cmpL] at h
    rw [enc_cons, enc_cons]
    by_cases e : v = w
    · rw [if_pos e] at h
      subst e
      exact ltI_pre _ (enc_lt ha.tail hb.tail h)
    · rw [if_neg e] at h
      by_cases g : vlt v w = true
      · exact ((one_fb ha.head hb.head g).app _ _).lt
      · rw [if_neg g] at h; omega
theorem enc_order {a b : List S25} (ha : Rts a) (hb : Rts b) : (ltI (enc a) (enc b) = decide (cmpL a b = -1)) ∧ (ltI (enc b) (enc a) = decide (cmpL a b = 1)) := by
  rcases cmpL_is a b with h | h | h
  · have := enc_lt ha hb h
    rw [this, ltI_asymm this, h]; exact ⟨rfl, rfl⟩
  · have := cmpL_eq h
    subst this
    rw [ltI_irrefl, h]; exact ⟨rfl, rfl⟩
  · have := enc_lt hb ha (cmpL_swap h)
    rw [this, ltI_asymm this, h]; exact ⟨rfl, rfl⟩
end Go.Proofs.YtohknmlcleifpaaDoor.PS
