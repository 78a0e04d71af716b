/- Frames, a map of pointers, and what a disk's memory holds; no conditions beyond those in each theorem's head. -/
import Derived.Test.YtakhnkkcllfbjaaDoorX0
import Derived.Maps.OwnSet
import Derived.Maps.OwnOps
import Derived.Maps.RangeWalk
import Derived.Sort.KeysCollected
import Derived.Sort.OwnSorted
namespace Go.Proofs.YtakhnkkcllfbjaaDoorX
open Go.RowKit Go.Proofs.YtakhnkkcllfbjaaDoorW.PrintWords Go.Proofs.YtakhnkkcllfbjaaDoorW.PrintLast Go.Proofs.YtakhnkkcllfbjaaDoorW.PrintMore
open Go.Maps (Keyed)
set_option linter.unusedVariables false
set_option linter.unusedSimpArgs false

/-- All but the blocks of S, and what is new, is as it was. -/
structure Fr (S : List Nat) (w w' : World) : Prop where
  os : w'.os = w.os
  tape : w'.tape = w.tape
  output : w'.output = w.output
  size : w.heap.size ≤ w'.heap.size
  block : ∀ k, k < w.heap.size → k ∉ S → w'.heap[k]? = w.heap[k]?

namespace Fr
variable {S T : List Nat} {a b c w w' : World}
theorem refl (S : List Nat) (w : World) : Fr S w w := ⟨rfl, rfl, rfl, Nat.le_refl _, fun _ _ _ => rfl⟩
theorem trans (h : Fr S a b) (k : Fr T b c) (hs : ∀ x ∈ T, x ∈ S ∨ a.heap.size ≤ x) : Fr S a c :=
  ⟨k.os.trans h.os, k.tape.trans h.tape, k.output.trans h.output, Nat.le_trans h.size k.size, fun i hi hn =>
    (k.block i (Nat.lt_of_lt_of_le hi h.size) (fun hx => (hs i hx).elim hn (fun h3 => by omega))).trans (h.block i hi hn)⟩
theorem of_below (h : Below w.heap.size w w') (S : List Nat) : Fr S w w' := ⟨h.os, h.tape, h.output, h.size, fun k hk _ => h.block k hk⟩
theorem below (h : Fr S w w') (hS : ∀ x ∈ S, w.heap.size ≤ x) : Below w.heap.size w w' :=
  ⟨h.os, h.tape, h.output, h.size, fun k hk => h.block k hk (fun hx => by have := hS k hx; omega)⟩
/-- From a base on: what is written lies from the base on. -/
theorem below_base {B : Nat} (h : Fr S w w') (hS : ∀ x ∈ S, B ≤ x) (hB : B ≤ w.heap.size) : Below B w w' :=
  ⟨h.os, h.tape, h.output, h.size, fun k hk => h.block k (by omega) (fun hx => by have := hS k hx; omega)⟩
theorem alloc (h : Fr S a w) (o : Obj) : Fr S a (w.alloc o) := h.trans (of_below (below_alloc (Below.refl _ _) o) []) (fun _ hx => by cases hx)
theorem drew (h : Fr S a w) : Fr S a w.drew := ⟨h.os, h.tape, h.output, h.size, h.block⟩
theorem drewN (h : Fr S a w) (n : Nat) : Fr S a (w.drewN n) := ⟨h.os, h.tape, h.output, h.size, h.block⟩
theorem setCell (h : Fr S a w) {p : Addr} (hp : p.block ∈ S ∨ a.heap.size ≤ p.block) (u : Value) : Fr S a (w.setCell p u) :=
  h.trans (T := [p.block]) ⟨rfl, rfl, rfl, by simp [World.setCell], fun k _ hk => Below.heap_setCell _ _ _ _ (fun e => hk (by simp [e]))⟩ (fun x hx => by simp at hx; subst hx; exact hp)
theorem grown {row : Option Nat} (h : Fr S a w) (hg : w.grownBy w' row) (hr : ∀ k, row = some k → k ∈ S ∨ a.heap.size ≤ k) : Fr S a w' :=
  h.trans (T := row.toList) ⟨hg.os, hg.tape, hg.output, hg.size, fun k hk hn => hg.block k hk (fun e => hn (by rw [← e]; simp))⟩ (fun x hx => hr x (by simpa using hx))
theorem mono (h : Fr S a w) (hs : ∀ x ∈ S, x ∈ T) : Fr T a w := ⟨h.os, h.tape, h.output, h.size, fun k hk hn => h.block k hk (fun hx => hn (hs k hx))⟩
theorem blk {g : Nat} {o : Obj} (h : Fr S w w') (hb : w.heap[g]? = some o) (hn : g ∉ S) : w'.heap[g]? = some o := (h.block g (blk_lt hb) hn).trans hb
end Fr

/-- How a pointer to a block's head reads, as a map's element. -/
def ptrDat : Option Nat → DataW Unit
  | some f => .lit (.int .u64 f)
  | none => .nil
def ptrVal : Option Nat → Value
  | some f => .pointer (some ⟨f, 0, none⟩)
  | none => .pointer none
def ptrElem : Value → Option (DataW Unit × List MemPlace)
  | .pointer (some ⟨f, 0, none⟩) => some (.lit (.int .u64 f), [])
  | .pointer none => some (.nil, [])
  | _ => none
theorem ptrElem_val (o : Option Nat) : ptrElem (ptrVal o) = some (ptrDat o, []) := by cases o <;> rfl
theorem ptrElem_inv {v : Value} {y : DataW Unit × List MemPlace} (h : ptrElem v = some y) : ∃ o, v = ptrVal o ∧ y = (ptrDat o, []) := by
  unfold ptrElem at h
  split at h
  · exact ⟨some _, rfl, (Option.some.inj h).symm⟩
  · exact ⟨none, rfl, (Option.some.inj h).symm⟩
  · cases h
theorem ptrDat_inj {o o' : Option Nat} (h : ptrDat o = ptrDat o') : o = o' := by
  cases o <;> cases o' <;> simp_all [ptrDat] <;> omega

/-- Block m is a map of strings to blocks that reads as M, of n entries. -/
def MapP (P : Program) (K : TypeId) (w : World) (m n : Nat) (M : List UInt8 → Option (Option Nat)) : Prop :=
  ∃ D : DataW Unit, w.ownsMap P K ptrElem m n D ∧ Maps.size D = n ∧ ∀ x, Maps.has D (.string x) = (M x).isSome ∧ ∀ o, M x = some o → ∀ z, D.atKey (.string x) z = ptrDat o

section
variable {P : Program} {K t e : TypeId} {w w' : World} {m n : Nat} {M : List UInt8 → Option (Option Nat)}
theorem ownsMap_tight {R : Value → Option (DataW Unit × List MemPlace)} {D : DataW Unit} (h : w.ownsMap P K R m n D) : w.ownsMap P K R m (Maps.size D) D := by
  obtain ⟨es, clock, hb, F, hs, hD⟩ := h
  refine ⟨es, clock, hb, F, ?_, hD⟩
  rw [hD]
  show es.size ≤ List.length _
  rw [length_sorted]
  simp
theorem MapP.lt (h : MapP P K w m n M) : m < w.heap.size := by
  obtain ⟨D, h1, _⟩ := h
  exact h1.lt
theorem MapP.step (h : MapP P K w m n M) (hb : w'.heap[m]? = w.heap[m]?) : MapP P K w' m n M := by
  obtain ⟨D, ⟨es, clock, hb', r⟩, h2⟩ := h
  exact ⟨D, ⟨es, clock, hb.trans hb', r⟩, h2⟩
theorem MapP.fr {S : List Nat} (h : MapP P K w m n M) (k : Fr S w w') (hn : m ∉ S) : MapP P K w' m n M := h.step (k.block m h.lt hn)
theorem MapP.made (P : Program) (K : TypeId) (w : World) : MapP P K (w.alloc (.map #[] 0)) w.heap.size 0 (fun _ => none) :=
  ⟨_, World.ownsMap_made w P K _, rfl, fun x => ⟨rfl, fun o h => by cases h⟩⟩
theorem strKey_is (x : List UInt8) : WideAt.IsKeyLit (.string x) := by simp [WideAt.IsKeyLit]
theorem MapP.look_ok (h : MapP P K w m n M) (hK : P.underlying K = some .string) (ht : P.underlying t = some (.map K e)) (hz : (zeroValue e).run P w = .ok (.pointer none) w) {s : ByteArray} (hs : s.size ≤ maxLen) :
    (Instr.lookup t (.map (some m)) (.string s) true).run P w = .ok (.tuple #[ptrVal ((M s.data.toList).getD none), .bool (M s.data.toList).isSome]) w := by
  obtain ⟨D, h1, _, h3⟩ := h
  obtain ⟨v, ps, hrun, hv⟩ := h1.look_ok (Maps.string_keyed hK) ht hz (zd := .nil) (zp := []) rfl (WideMaps.keyOf_string_mk hK hs)
  rw [hrun, (h3 _).1]
  obtain ⟨o, rfl, e1⟩ := ptrElem_inv hv
  rcases hM : M s.data.toList with _ | o'
  · have h4 := (h3 s.data.toList).1
    rw [hM] at h4
    have h5 := Maps.atKey_of_not_has h4 (.nil : DataW Unit)
    rw [h5] at e1
    have := ptrDat_inj (o := none) (o' := o) (congrArg Prod.fst e1)
    subst this
    rfl
  · have h5 := (h3 _).2 o' hM .nil
    rw [h5] at e1
    have := ptrDat_inj (congrArg Prod.fst e1)
    subst this
    rfl
theorem MapP.look (h : MapP P K w m n M) (hK : P.underlying K = some .string) (ht : P.underlying t = some (.map K e)) (hz : (zeroValue e).run P w = .ok (.pointer none) w) {s : ByteArray} (hs : s.size ≤ maxLen) :
    (Instr.lookup t (.map (some m)) (.string s) false).run P w = .ok (ptrVal ((M s.data.toList).getD none)) w := by
  obtain ⟨D, h1, _, h3⟩ := h
  obtain ⟨v, ps, hrun, hv⟩ := h1.lookup (Maps.string_keyed hK) ht hz (zd := .nil) (zp := []) rfl (WideMaps.keyOf_string_mk hK hs)
  rw [hrun]
  obtain ⟨o, rfl, e1⟩ := ptrElem_inv hv
  rcases hM : M s.data.toList with _ | o'
  · have h4 := (h3 s.data.toList).1
    rw [hM] at h4
    have h5 := Maps.atKey_of_not_has h4 (.nil : DataW Unit)
    rw [h5] at e1
    have := ptrDat_inj (o := none) (o' := o) (congrArg Prod.fst e1)
    subst this
    rfl
  · have h5 := (h3 _).2 o' hM .nil
    rw [h5] at e1
    have := ptrDat_inj (congrArg Prod.fst e1)
    subst this
    rfl
theorem MapP.len (h : MapP P K w m n M) (ht : P.underlying t = some (.map K e)) (ty : TypeId) : (Builtin.len_ #[t] ty #[.map (some m)]).run P w = .ok (.int .i64 n) w := by
  obtain ⟨D, h1, h2, _⟩ := h
  rw [h1.len ht ty, h2]
theorem MapP.store (h : MapP P K w m n M) (hK : P.underlying K = some .string) (ht : P.underlying t = some (.map K e)) (hn : n < maxLen) {s : ByteArray} (hs : s.size ≤ maxLen) (o : Option Nat) :
    ∃ w', (Instr.mapUpdate t (.map (some m)) (.string s) (ptrVal o)).run P w = .ok () w' ∧ MapP P K w' m (if (M s.data.toList).isSome then n else n + 1) (fun x => if x = s.data.toList then some o else M x) ∧ w.grownBy w' (some m) := by
  obtain ⟨D, h1, h2, h3⟩ := h
  have hk : WideAt.IsKeyLit (.string s.data.toList) := strKey_is _
  obtain ⟨w', hrun, h4, h5⟩ := h1.update (Maps.string_keyed hK) ht hn (WideMaps.keyOf_string_mk hK hs) (ptrElem_val o)
  have hT := h1.tidy (Maps.string_keyed hK)
  have hsz : Maps.size (D.put (.string s.data.toList) (ptrDat o)) = (if (M s.data.toList).isSome then n else n + 1) := by
    rw [Maps.size_put hT, (h3 _).1, h2]
  refine ⟨w', hrun, ⟨_, ?_, hsz, fun x => ?_⟩, h5⟩
  · rw [← hsz]; exact ownsMap_tight h4
  · by_cases hx : x = s.data.toList
    · subst hx
      refine ⟨by rw [Maps.has_put_same hT.isMap hk]; simp, fun o' ho z => ?_⟩
      simp only [if_true, Option.some.injEq] at ho
      subst ho
      exact Maps.atKey_put_same hT.isMap hk _ _
    · have hne : (Lit.string x) ≠ .string s.data.toList := fun e => hx (by injection e)
      refine ⟨by rw [Maps.has_put_other hne, (h3 x).1]; simp only [if_neg hx], fun o' ho z => ?_⟩
      simp only [if_neg hx] at ho
      rw [Maps.atKey_put_other hne]
      exact (h3 x).2 o' ho z
theorem MapP.drop (h : MapP P K w m n M) (hK : P.underlying K = some .string) (ht : P.underlying t = some (.map K e)) {s : ByteArray} (hs : s.size ≤ maxLen) (ty : TypeId) :
    ∃ w', (Builtin.delete_ #[t, K] ty #[.map (some m), .string s]).run P w = .ok (.tuple #[]) w' ∧ MapP P K w' m (if (M s.data.toList).isSome then n - 1 else n) (fun x => if x = s.data.toList then none else M x) ∧ w.grownBy w' (some m) := by
  obtain ⟨D, h1, h2, h3⟩ := h
  obtain ⟨w', hrun, h4, h5⟩ := h1.drop (Maps.string_keyed hK) ht (WideMaps.keyOf_string_mk hK hs) ty
  have hT := h1.tidy (Maps.string_keyed hK)
  have hsz : Maps.size (D.del (.string s.data.toList)) = (if (M s.data.toList).isSome then n - 1 else n) := by
    have := Maps.size_del (k := .string s.data.toList) hT
    rw [(h3 _).1] at this
    split at this <;> rename_i h6 <;> simp only [h6] <;> simp <;> omega
  refine ⟨w', hrun, ⟨_, ?_, hsz, fun x => ?_⟩, h5.grown⟩
  · rw [← hsz]; exact ownsMap_tight h4
  · by_cases hx : x = s.data.toList
    · subst hx
      refine ⟨by rw [Maps.has_del_same]; simp, fun o' ho z => ?_⟩
      simp at ho
    · have hne : (Lit.string x) ≠ .string s.data.toList := fun e => hx (by injection e)
      refine ⟨by rw [Maps.has_del_other hne, (h3 x).1]; simp only [if_neg hx], fun o' ho z => ?_⟩
      simp only [if_neg hx] at ho
      rw [Maps.atKey_del_other hne]
      exact (h3 x).2 o' ho z
end
section
variable {P : Program} {K t e : TypeId} {w : World} {m n : Nat} {M : List UInt8 → Option (Option Nat)} {ops : Array Oper} {rest : List Oper} {o : Oper} {a : Act} {Q : Exit → Act → World → Prop}
theorem wp_look_ok (hg : o.guard = none) (h : MapP P K w m n M) (mo x : Operand) (hop : o.op = Op.lookup t mo x true) (hK : P.underlying K = some .string) (ht : P.underlying t = some (.map K e)) (hz : (zeroValue e).run P w = .ok (.pointer none) w)
    (hm : a.eval mo = .map (some m)) (s : ByteArray) (hx : a.eval x = .string s) (hs : s.size ≤ maxLen)
    (hK' : wpList P ops Q rest (a.put o.dst (.tuple #[ptrVal ((M s.data.toList).getD none), .bool (M s.data.toList).isSome])) w) : wpList P ops Q (o :: rest) a w := by
  refine wpList_plain hg fun K' hK2 => ?_
  unfold Oper.wp
  simp [execOp, hop, hm, hx, h.look_ok hK ht hz hs, Result.andThen]
  exact hK2 _ _ hK'
theorem wp_look (hg : o.guard = none) (h : MapP P K w m n M) (mo x : Operand) (hop : o.op = Op.lookup t mo x false) (hK : P.underlying K = some .string) (ht : P.underlying t = some (.map K e)) (hz : (zeroValue e).run P w = .ok (.pointer none) w)
    (hm : a.eval mo = .map (some m)) (s : ByteArray) (hx : a.eval x = .string s) (hs : s.size ≤ maxLen)
    (hK' : wpList P ops Q rest (a.put o.dst (ptrVal ((M s.data.toList).getD none))) w) : wpList P ops Q (o :: rest) a w := by
  refine wpList_plain hg fun K' hK2 => ?_
  unfold Oper.wp
  simp [execOp, hop, hm, hx, h.look hK ht hz hs, Result.andThen]
  exact hK2 _ _ hK'
theorem wp_put (hg : o.guard = none) (h : MapP P K w m n M) (mo x v : Operand) (hop : o.op = Op.mapUpdate t mo x v) (hK : P.underlying K = some .string) (ht : P.underlying t = some (.map K e)) (hn : n < maxLen)
    (hm : a.eval mo = .map (some m)) (s : ByteArray) (hx : a.eval x = .string s) (hs : s.size ≤ maxLen) (q : Option Nat) (hv : a.eval v = ptrVal q)
    (hK' : ∀ w', MapP P K w' m (if (M s.data.toList).isSome then n else n + 1) (fun x => if x = s.data.toList then some q else M x) → w.grownBy w' (some m) → wpList P ops Q rest (a.put o.dst undef) w') : wpList P ops Q (o :: rest) a w := by
  refine wpList_plain hg fun K' hK2 => ?_
  obtain ⟨w', hrun, r1, r2⟩ := h.store hK ht hn hs q
  unfold Oper.wp
  simp [execOp, hop, hm, hx, hv, hrun, Result.andThen]
  exact hK2 _ _ (hK' w' r1 r2)
theorem wp_del (hg : o.guard = none) (h : MapP P K w m n M) (mo x : Operand) (hop : o.op = Op.call { callee := Callee.builtin Builtin.delete, args := #[mo, x], argTypes := #[t, K] }) (hK : P.underlying K = some .string) (ht : P.underlying t = some (.map K e))
    (hm : a.eval mo = .map (some m)) (s : ByteArray) (hx : a.eval x = .string s) (hs : s.size ≤ maxLen)
    (hK' : ∀ w', MapP P K w' m (if (M s.data.toList).isSome then n - 1 else n) (fun x => if x = s.data.toList then none else M x) → w.grownBy w' (some m) → wpList P ops Q rest (a.put o.dst (.tuple #[])) w') : wpList P ops Q (o :: rest) a w := by
  refine wpList_plain hg fun K' hK2 => ?_
  obtain ⟨w', hrun, r1, r2⟩ := h.drop hK ht hs o.type
  unfold Oper.wp
  simp [execOp, hop, resolve, invoke, builtin, hm, hx, hrun, Result.andThen]
  exact hK2 _ _ (hK' w' r1 r2)
theorem wp_mlen_g (hw : Region.wanted o (yielded ops a.tmps) = true) (h : MapP P K w m n M) (mo : Operand) (hop : o.op = Op.call { callee := Callee.builtin Builtin.len, args := #[mo], argTypes := #[t] }) (ht : P.underlying t = some (.map K e)) (hm : a.eval mo = .map (some m))
    (hK' : wpList P ops Q rest (a.put o.dst (.int .i64 n)) w) : wpList P ops Q (o :: rest) a w := by
  unfold wpList
  rw [if_pos hw]
  left
  unfold Oper.wp
  simp [execOp, hop, resolve, invoke, builtin, hm, h.len ht o.type, Result.andThen]
  exact hK'
theorem wp_mlen (hg : o.guard = none) (h : MapP P K w m n M) (mo : Operand) (hop : o.op = Op.call { callee := Callee.builtin Builtin.len, args := #[mo], argTypes := #[t] }) (ht : P.underlying t = some (.map K e)) (hm : a.eval mo = .map (some m))
    (hK' : wpList P ops Q rest (a.put o.dst (.int .i64 n)) w) : wpList P ops Q (o :: rest) a w := by
  refine wpList_plain hg fun K' hK2 => ?_
  unfold Oper.wp
  simp [execOp, hop, resolve, invoke, builtin, hm, h.len ht o.type, Result.andThen]
  exact hK2 _ _ hK'
end
end Go.Proofs.YtakhnkkcllfbjaaDoorX
