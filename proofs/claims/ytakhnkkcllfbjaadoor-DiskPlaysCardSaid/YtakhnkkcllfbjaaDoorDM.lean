/- Several texts in one (merge.py): DX, DA, DB, DR, DC; no conditions beyond those in each theorem's head. -/
import Derived.Test.YtakhnkkcllfbjaaDoorX0
import Derived.Maps.OwnSet
import Derived.Maps.OwnOps
import Derived.Maps.RangeWalk
import Derived.Sort.KeysCollected
import Derived.Sort.OwnSorted
import Derived.Lib.ConvBytes
import Derived.Lib.AppendStr
import Derived.Laws.IdiomStrings
import Derived.Laws.CopyRow
import Derived.OwnWalk
import Derived.Test.YtakhnkkcllfbjaaDoorProg
import Derived.Below
import Derived.Deep.Draws
import Derived.Deep.AppendLies
import Derived.Maps.AppendAt
import Derived.Laws.BytesArg
import Derived.Laws.MakeOwn
import Derived.Laws.OwnMore
import Derived.Deep.OwnRows
import Derived.Tactics
import Derived.Laws.Slices
import Derived.WalkKit
import Derived.KernelRfl
import Derived.RowKit3
import Derived.Deep.LoopGhost
import Derived.Deep.QuietTactic
import Derived.BigQuiet
import Derived.WideLaws
import Derived.Deep.DeepCutAuto
import Derived.Deep.CutBlock
import Derived.Deep.RegionHeld3
import Derived.Laws.Rows
import Derived.ArgAppend
import Derived.Laws.IdiomCopy
import Derived.OrdersHeld
import Derived.Laws.BitsLemmas
import Derived.RowKit
section
namespace Go.Proofs.YtakhnkkcllfbjaaDoorX
open Go.RowKit Go.Proofs.YtakhnkkcllfbjaaDoorW.PrintWords Go.Proofs.YtakhnkkcllfbjaaDoorW.PrintLast Go.Proofs.YtakhnkkcllfbjaaDoorW.PrintMore
open Go.Maps (Keyed)
set_option linter.unusedVariables false
set_option linter.unusedSimpArgs false

/-- All but the blocks of S, and what is new, is as it was. -/
structure Fr (S : List Nat) (w w' : World) : Prop where
  os : w'.os = w.os
  tape : w'.tape = w.tape
  output : w'.output = w.output
  size : w.heap.size ≤ w'.heap.size
  block : ∀ k, k < w.heap.size → k ∉ S → w'.heap[k]? = w.heap[k]?

namespace Fr
variable {S T : List Nat} {a b c w w' : World}
theorem refl (S : List Nat) (w : World) : Fr S w w := ⟨rfl, rfl, rfl, Nat.le_refl _, fun _ _ _ => rfl⟩
theorem trans (h : Fr S a b) (k : Fr T b c) (hs : ∀ x ∈ T, x ∈ S ∨ a.heap.size ≤ x) : Fr S a c :=
  ⟨k.os.trans h.os, k.tape.trans h.tape, k.output.trans h.output, Nat.le_trans h.size k.size, fun i hi hn =>
    (k.block i (Nat.lt_of_lt_of_le hi h.size) (fun hx => (hs i hx).elim hn (fun h3 => by omega))).trans (h.block i hi hn)⟩
theorem of_below (h : Below w.heap.size w w') (S : List Nat) : Fr S w w' := ⟨h.os, h.tape, h.output, h.size, fun k hk _ => h.block k hk⟩
theorem below (h : Fr S w w') (hS : ∀ x ∈ S, w.heap.size ≤ x) : Below w.heap.size w w' :=
  ⟨h.os, h.tape, h.output, h.size, fun k hk => h.block k hk (fun hx => by have := hS k hx; omega)⟩
/-- From a base on: what is written lies from the base on. -/
theorem below_base {B : Nat} (h : Fr S w w') (hS : ∀ x ∈ S, B ≤ x) (hB : B ≤ w.heap.size) : Below B w w' :=
  ⟨h.os, h.tape, h.output, h.size, fun k hk => h.block k (by omega) (fun hx => by have := hS k hx; omega)⟩
theorem alloc (h : Fr S a w) (o : Obj) : Fr S a (w.alloc o) := h.trans (of_below (below_alloc (Below.refl _ _) o) []) (fun _ hx => by cases hx)
theorem drew (h : Fr S a w) : Fr S a w.drew := ⟨h.os, h.tape, h.output, h.size, h.block⟩
theorem drewN (h : Fr S a w) (n : Nat) : Fr S a (w.drewN n) := ⟨h.os, h.tape, h.output, h.size, h.block⟩
theorem setCell (h : Fr S a w) {p : Addr} (hp : p.block ∈ S ∨ a.heap.size ≤ p.block) (u : Value) : Fr S a (w.setCell p u) :=
  h.trans (T := [p.block]) ⟨rfl, rfl, rfl, by simp [World.setCell], fun k _ hk => Below.heap_setCell _ _ _ _ (fun e => hk (by simp [e]))⟩ (fun x hx => by simp at hx; subst hx; exact hp)
theorem grown {row : Option Nat} (h : Fr S a w) (hg : w.grownBy w' row) (hr : ∀ k, row = some k → k ∈ S ∨ a.heap.size ≤ k) : Fr S a w' :=
  h.trans (T := row.toList) ⟨hg.os, hg.tape, hg.output, hg.size, fun k hk hn => hg.block k hk (fun e => hn (by rw [← e]; simp))⟩ (fun x hx => hr x (by simpa using hx))
theorem mono (h : Fr S a w) (hs : ∀ x ∈ S, x ∈ T) : Fr T a w := ⟨h.os, h.tape, h.output, h.size, fun k hk hn => h.block k hk (fun hx => hn (hs k hx))⟩
theorem blk {g : Nat} {o : Obj} (h : Fr S w w') (hb : w.heap[g]? = some o) (hn : g ∉ S) : w'.heap[g]? = some o := (h.block g (blk_lt hb) hn).trans hb
end Fr

/-- How a pointer to a block's head reads, as a map's element. -/
def ptrDat : Option Nat → DataW Unit
  | some f => .lit (.int .u64 f)
  | none => .nil
def ptrVal : Option Nat → Value
  | some f => .pointer (some ⟨f, 0, none⟩)
  | none => .pointer none
def ptrElem : Value → Option (DataW Unit × List MemPlace)
  | .pointer (some ⟨f, 0, none⟩) => some (.lit (.int .u64 f), [])
  | .pointer none => some (.nil, [])
  | _ => none
theorem ptrElem_val (o : Option Nat) : ptrElem (ptrVal o) = some (ptrDat o, []) := by cases o <;> rfl
theorem ptrElem_inv {v : Value} {y : DataW Unit × List MemPlace} (h : ptrElem v = some y) : ∃ o, v = ptrVal o ∧ y = (ptrDat o, []) := by
  unfold ptrElem at h
  split at h
  · exact ⟨some _, rfl, (Option.some.inj h).symm⟩
  · exact ⟨none, rfl, (Option.some.inj h).symm⟩
  · cases h
theorem ptrDat_inj {o o' : Option Nat} (h : ptrDat o = ptrDat o') : o = o' := by
  cases o <;> cases o' <;> simp_all [ptrDat] <;> omega

/-- Block m is a map of strings to blocks that reads as M, of n entries. -/
def MapP (P : Program) (K : TypeId) (w : World) (m n : Nat) (M : List UInt8 → Option (Option Nat)) : Prop :=
  ∃ D : DataW Unit, w.ownsMap P K ptrElem m n D ∧ Maps.size D = n ∧ ∀ x, Maps.has D (.string x) = (M x).isSome ∧ ∀ o, M x = some o → ∀ z, D.atKey (.string x) z = ptrDat o

section
variable {P : Program} {K t e : TypeId} {w w' : World} {m n : Nat} {M : List UInt8 → Option (Option Nat)}
theorem ownsMap_tight {R : Value → Option (DataW Unit × List MemPlace)} {D : DataW Unit} (h : w.ownsMap P K R m n D) : w.ownsMap P K R m (Maps.size D) D := by
  obtain ⟨es, clock, hb, F, hs, hD⟩ := h
  refine ⟨es, clock, hb, F, ?_, hD⟩
  rw [hD]
  show es.size ≤ List.length _
  rw [length_sorted]
  simp
theorem MapP.lt (h : MapP P K w m n M) : m < w.heap.size := by
  obtain ⟨D, h1, _⟩ := h
  exact h1.lt
theorem MapP.step (h : MapP P K w m n M) (hb : w'.heap[m]? = w.heap[m]?) : MapP P K w' m n M := by
  obtain ⟨D, ⟨es, clock, hb', r⟩, h2⟩ := h
  exact ⟨D, ⟨es, clock, hb.trans hb', r⟩, h2⟩
theorem MapP.fr {S : List Nat} (h : MapP P K w m n M) (k : Fr S w w') (hn : m ∉ S) : MapP P K w' m n M := h.step (k.block m h.lt hn)
theorem MapP.made (P : Program) (K : TypeId) (w : World) : MapP P K (w.alloc (.map #[] 0)) w.heap.size 0 (fun _ => none) :=
  ⟨_, World.ownsMap_made w P K _, rfl, fun x => ⟨rfl, fun o h => by cases h⟩⟩
theorem strKey_is (x : List UInt8) : WideAt.IsKeyLit (.string x) := by simp [WideAt.IsKeyLit]
theorem MapP.look_ok (h : MapP P K w m n M) (hK : P.underlying K = some .string) (ht : P.underlying t = some (.map K e)) (hz : (zeroValue e).run P w = .ok (.pointer none) w) {s : ByteArray} (hs : s.size ≤ maxLen) :
    (Instr.lookup t (.map (some m)) (.string s) true).run P w = .ok (.tuple #[ptrVal ((M s.data.toList).getD none), .bool (M s.data.toList).isSome]) w := by
  obtain ⟨D, h1, _, h3⟩ := h
  obtain ⟨v, ps, hrun, hv⟩ := h1.look_ok (Maps.string_keyed hK) ht hz (zd := .nil) (zp := []) rfl (WideMaps.keyOf_string_mk hK hs)
  rw [hrun, (h3 _).1]
  obtain ⟨o, rfl, e1⟩ := ptrElem_inv hv
  rcases hM : M s.data.toList with _ | o'
  · have h4 := (h3 s.data.toList).1
    rw [hM] at h4
    have h5 := Maps.atKey_of_not_has h4 (.nil : DataW Unit)
    rw [h5] at e1
    have := ptrDat_inj (o := none) (o' := o) (congrArg Prod.fst e1)
    subst this
    rfl
  · have h5 := (h3 _).2 o' hM .nil
    rw [h5] at e1
    have := ptrDat_inj (congrArg Prod.fst e1)
    subst this
    rfl
theorem MapP.look (h : MapP P K w m n M) (hK : P.underlying K = some .string) (ht : P.underlying t = some (.map K e)) (hz : (zeroValue e).run P w = .ok (.pointer none) w) {s : ByteArray} (hs : s.size ≤ maxLen) :
    (Instr.lookup t (.map (some m)) (.string s) false).run P w = .ok (ptrVal ((M s.data.toList).getD none)) w := by
  obtain ⟨D, h1, _, h3⟩ := h
  obtain ⟨v, ps, hrun, hv⟩ := h1.lookup (Maps.string_keyed hK) ht hz (zd := .nil) (zp := []) rfl (WideMaps.keyOf_string_mk hK hs)
  rw [hrun]
  obtain ⟨o, rfl, e1⟩ := ptrElem_inv hv
  rcases hM : M s.data.toList with _ | o'
  · have h4 := (h3 s.data.toList).1
    rw [hM] at h4
    have h5 := Maps.atKey_of_not_has h4 (.nil : DataW Unit)
    rw [h5] at e1
    have := ptrDat_inj (o := none) (o' := o) (congrArg Prod.fst e1)
    subst this
    rfl
  · have h5 := (h3 _).2 o' hM .nil
    rw [h5] at e1
    have := ptrDat_inj (congrArg Prod.fst e1)
    subst this
    rfl
theorem MapP.len (h : MapP P K w m n M) (ht : P.underlying t = some (.map K e)) (ty : TypeId) : (Builtin.len_ #[t] ty #[.map (some m)]).run P w = .ok (.int .i64 n) w := by
  obtain ⟨D, h1, h2, _⟩ := h
  rw [h1.len ht ty, h2]
theorem MapP.store (h : MapP P K w m n M) (hK : P.underlying K = some .string) (ht : P.underlying t = some (.map K e)) (hn : n < maxLen) {s : ByteArray} (hs : s.size ≤ maxLen) (o : Option Nat) :
    ∃ w', (Instr.mapUpdate t (.map (some m)) (.string s) (ptrVal o)).run P w = .ok () w' ∧ MapP P K w' m (if (M s.data.toList).isSome then n else n + 1) (fun x => if x = s.data.toList then some o else M x) ∧ w.grownBy w' (some m) := by
  obtain ⟨D, h1, h2, h3⟩ := h
  have hk : WideAt.IsKeyLit (.string s.data.toList) := strKey_is _
  obtain ⟨w', hrun, h4, h5⟩ := h1.update (Maps.string_keyed hK) ht hn (WideMaps.keyOf_string_mk hK hs) (ptrElem_val o)
  have hT := h1.tidy (Maps.string_keyed hK)
  have hsz : Maps.size (D.put (.string s.data.toList) (ptrDat o)) = (if (M s.data.toList).isSome then n else n + 1) := by
    rw [Maps.size_put hT, (h3 _).1, h2]
  refine ⟨w', hrun, ⟨_, ?_, hsz, fun x => ?_⟩, h5⟩
  · rw [← hsz]; exact ownsMap_tight h4
  · by_cases hx : x = s.data.toList
    · subst hx
      refine ⟨by rw [Maps.has_put_same hT.isMap hk]; simp, fun o' ho z => ?_⟩
      simp only [if_true, Option.some.injEq] at ho
      subst ho
      exact Maps.atKey_put_same hT.isMap hk _ _
    · have hne : (Lit.string x) ≠ .string s.data.toList := fun e => hx (by injection e)
      refine ⟨by rw [Maps.has_put_other hne, (h3 x).1]; simp only [if_neg hx], fun o' ho z => ?_⟩
      simp only [if_neg hx] at ho
      rw [Maps.atKey_put_other hne]
      exact (h3 x).2 o' ho z
theorem MapP.drop (h : MapP P K w m n M) (hK : P.underlying K = some .string) (ht : P.underlying t = some (.map K e)) {s : ByteArray} (hs : s.size ≤ maxLen) (ty : TypeId) :
    ∃ w', (Builtin.delete_ #[t, K] ty #[.map (some m), .string s]).run P w = .ok (.tuple #[]) w' ∧ MapP P K w' m (if (M s.data.toList).isSome then n - 1 else n) (fun x => if x = s.data.toList then none else M x) ∧ w.grownBy w' (some m) := by
  obtain ⟨D, h1, h2, h3⟩ := h
  obtain ⟨w', hrun, h4, h5⟩ := h1.drop (Maps.string_keyed hK) ht (WideMaps.keyOf_string_mk hK hs) ty
  have hT := h1.tidy (Maps.string_keyed hK)
  have hsz : Maps.size (D.del (.string s.data.toList)) = (if (M s.data.toList).isSome then n - 1 else n) := by
    have := Maps.size_del (k := .string s.data.toList) hT
    rw [(h3 _).1] at this
    split at this <;> rename_i h6 <;> simp only [h6] <;> simp <;> omega
  refine ⟨w', hrun, ⟨_, ?_, hsz, fun x => ?_⟩, h5.grown⟩
  · rw [← hsz]; exact ownsMap_tight h4
  · by_cases hx : x = s.data.toList
    · subst hx
      refine ⟨by rw [Maps.has_del_same]; simp, fun o' ho z => ?_⟩
      simp at ho
    · have hne : (Lit.string x) ≠ .string s.data.toList := fun e => hx (by injection e)
      refine ⟨by rw [Maps.has_del_other hne, (h3 x).1]; simp only [if_neg hx], fun o' ho z => ?_⟩
      simp only [if_neg hx] at ho
      rw [Maps.atKey_del_other hne]
      exact (h3 x).2 o' ho z
end
section
variable {P : Program} {K t e : TypeId} {w : World} {m n : Nat} {M : List UInt8 → Option (Option Nat)} {ops : Array Oper} {rest : List Oper} {o : Oper} {a : Act} {Q : Exit → Act → World → Prop}
theorem wp_look_ok (hg : o.guard = none) (h : MapP P K w m n M) (mo x : Operand) (hop : o.op = Op.lookup t mo x true) (hK : P.underlying K = some .string) (ht : P.underlying t = some (.map K e)) (hz : (zeroValue e).run P w = .ok (.pointer none) w)
    (hm : a.eval mo = .map (some m)) (s : ByteArray) (hx : a.eval x = .string s) (hs : s.size ≤ maxLen)
    (hK' : wpList P ops Q rest (a.put o.dst (.tuple #[ptrVal ((M s.data.toList).getD none), .bool (M s.data.toList).isSome])) w) : wpList P ops Q (o :: rest) a w := by
  refine wpList_plain hg fun K' hK2 => ?_
  unfold Oper.wp
  simp [execOp, hop, hm, hx, h.look_ok hK ht hz hs, Result.andThen]
  exact hK2 _ _ hK'
theorem wp_look (hg : o.guard = none) (h : MapP P K w m n M) (mo x : Operand) (hop : o.op = Op.lookup t mo x false) (hK : P.underlying K = some .string) (ht : P.underlying t = some (.map K e)) (hz : (zeroValue e).run P w = .ok (.pointer none) w)
    (hm : a.eval mo = .map (some m)) (s : ByteArray) (hx : a.eval x = .string s) (hs : s.size ≤ maxLen)
    (hK' : wpList P ops Q rest (a.put o.dst (ptrVal ((M s.data.toList).getD none))) w) : wpList P ops Q (o :: rest) a w := by
  refine wpList_plain hg fun K' hK2 => ?_
  unfold Oper.wp
  simp [execOp, hop, hm, hx, h.look hK ht hz hs, Result.andThen]
  exact hK2 _ _ hK'
theorem wp_put (hg : o.guard = none) (h : MapP P K w m n M) (mo x v : Operand) (hop : o.op = Op.mapUpdate t mo x v) (hK : P.underlying K = some .string) (ht : P.underlying t = some (.map K e)) (hn : n < maxLen)
    (hm : a.eval mo = .map (some m)) (s : ByteArray) (hx : a.eval x = .string s) (hs : s.size ≤ maxLen) (q : Option Nat) (hv : a.eval v = ptrVal q)
    (hK' : ∀ w', MapP P K w' m (if (M s.data.toList).isSome then n else n + 1) (fun x => if x = s.data.toList then some q else M x) → w.grownBy w' (some m) → wpList P ops Q rest (a.put o.dst undef) w') : wpList P ops Q (o :: rest) a w := by
  refine wpList_plain hg fun K' hK2 => ?_
  obtain ⟨w', hrun, r1, r2⟩ := h.store hK ht hn hs q
  unfold Oper.wp
  simp [execOp, hop, hm, hx, hv, hrun, Result.andThen]
  exact hK2 _ _ (hK' w' r1 r2)
theorem wp_del (hg : o.guard = none) (h : MapP P K w m n M) (mo x : Operand) (hop : o.op = Op.call { callee := Callee.builtin Builtin.delete, args := #[mo, x], argTypes := #[t, K] }) (hK : P.underlying K = some .string) (ht : P.underlying t = some (.map K e))
    (hm : a.eval mo = .map (some m)) (s : ByteArray) (hx : a.eval x = .string s) (hs : s.size ≤ maxLen)
    (hK' : ∀ w', MapP P K w' m (if (M s.data.toList).isSome then n - 1 else n) (fun x => if x = s.data.toList then none else M x) → w.grownBy w' (some m) → wpList P ops Q rest (a.put o.dst (.tuple #[])) w') : wpList P ops Q (o :: rest) a w := by
  refine wpList_plain hg fun K' hK2 => ?_
  obtain ⟨w', hrun, r1, r2⟩ := h.drop hK ht hs o.type
  unfold Oper.wp
  simp [execOp, hop, resolve, invoke, builtin, hm, hx, hrun, Result.andThen]
  exact hK2 _ _ (hK' w' r1 r2)
theorem wp_mlen_g (hw : Region.wanted o (yielded ops a.tmps) = true) (h : MapP P K w m n M) (mo : Operand) (hop : o.op = Op.call { callee := Callee.builtin Builtin.len, args := #[mo], argTypes := #[t] }) (ht : P.underlying t = some (.map K e)) (hm : a.eval mo = .map (some m))
    (hK' : wpList P ops Q rest (a.put o.dst (.int .i64 n)) w) : wpList P ops Q (o :: rest) a w := by
  unfold wpList
  rw [if_pos hw]
  left
  unfold Oper.wp
  simp [execOp, hop, resolve, invoke, builtin, hm, h.len ht o.type, Result.andThen]
  exact hK'
theorem wp_mlen (hg : o.guard = none) (h : MapP P K w m n M) (mo : Operand) (hop : o.op = Op.call { callee := Callee.builtin Builtin.len, args := #[mo], argTypes := #[t] }) (ht : P.underlying t = some (.map K e)) (hm : a.eval mo = .map (some m))
    (hK' : wpList P ops Q rest (a.put o.dst (.int .i64 n)) w) : wpList P ops Q (o :: rest) a w := by
  refine wpList_plain hg fun K' hK2 => ?_
  unfold Oper.wp
  simp [execOp, hop, resolve, invoke, builtin, hm, h.len ht o.type, Result.andThen]
  exact hK2 _ _ hK'
end
end Go.Proofs.YtakhnkkcllfbjaaDoorX
end
section
namespace Go.Proofs.YtakhnkkcllfbjaaDoorX
open Go.RowKit
set_option linter.unusedVariables false
set_option linter.unusedSimpArgs false

abbrev Nm := List UInt8
structure AF where
  name : Nm
  data : ByteArray
  safe : Int
structure AD where
  size : Int
  armed : Int
  down : Bool
  steps : Int
  L : List AF

/-- A byte of a name. -/
def nameByte (c : UInt8) : Bool := c == 45 || c == 46 || (48 ≤ c && c ≤ 57) || (97 ≤ c && c ≤ 122)
def named (s : Nm) : Bool := decide (1 ≤ s.length) && decide (s.length ≤ 16) && s.all nameByte
def totL : List AF → Nat
  | [] => 0
  | f :: r => f.data.size + totL r
def findL (x : Nm) : List AF → Option AF
  | [] => none
  | f :: r => if f.name = x then some f else findL x r
def hasL (x : Nm) (L : List AF) : Bool := (findL x L).isSome
def updL (x : Nm) (g : AF → AF) : List AF → List AF
  | [] => []
  | f :: r => (if f.name = x then g f else f) :: updL x g r
def insL (y : AF) : List AF → List AF
  | [] => [y]
  | f :: r => if f.name < y.name then f :: insL y r else y :: f :: r
def delL (x : Nm) : List AF → List AF
  | [] => []
  | f :: r => if f.name = x then delL x r else f :: delL x r
def namesL (L : List AF) : List Nm := L.map AF.name
/-- names rise -/
def Rising (L : List AF) : Prop := (namesL L).Pairwise (· < ·)

theorem findL_name {x : Nm} {f : AF} : ∀ {L : List AF}, findL x L = some f → f.name = x ∧ f ∈ L
  | [], h => by cases h
  | g :: r, h => by
    unfold findL at h
    split at h
    · rename_i hx; cases h; exact ⟨hx, by simp⟩
    · have := findL_name h; exact ⟨this.1, by simp [this.2]⟩
theorem findL_none {x : Nm} : ∀ {L : List AF}, findL x L = none ↔ ∀ f ∈ L, f.name ≠ x
  | [] => by simp [findL]
  | g :: r => by
    unfold findL
    split
    · rename_i hx; simp [hx]
    · rename_i hx; rw [findL_none]; simp [hx]
theorem nm_irrefl (x : Nm) : ¬ x < x := List.lt_irrefl x
theorem nm_trans {x y z : Nm} (h : x < y) (k : y < z) : x < z := List.lt_trans h k
theorem nm_ne {x y : Nm} (h : x < y) : x ≠ y := fun e => by subst e; exact nm_irrefl _ h
theorem nm_tri {x y : Nm} (h : ¬ x < y) (k : x ≠ y) : y < x := by
  apply Decidable.byContradiction
  intro h2
  exact k (List.le_antisymm (List.not_lt.1 h2) (List.not_lt.1 h))
theorem rising_tail {f : AF} {L : List AF} (h : Rising (f :: L)) : Rising L := (List.pairwise_cons.1 h).2
theorem rising_head {f : AF} {L : List AF} (h : Rising (f :: L)) : ∀ g ∈ L, f.name < g.name := fun g hg => (List.pairwise_cons.1 h).1 _ (List.mem_map_of_mem hg)
theorem rising_cons {f : AF} {L : List AF} (h : Rising L) (k : ∀ g ∈ L, f.name < g.name) : Rising (f :: L) := List.pairwise_cons.2 ⟨fun y hy => by obtain ⟨g, hg, rfl⟩ := List.mem_map.1 hy; exact k g hg, h⟩
theorem findL_mem {L : List AF} (h : Rising L) {f : AF} (hf : f ∈ L) : findL f.name L = some f := by
  induction L with
  | nil => cases hf
  | cons g r ih =>
    unfold findL
    rcases List.mem_cons.1 hf with rfl | h2
    · simp
    · rw [if_neg (nm_ne (rising_head h f h2)), ih (rising_tail h) h2]
theorem mem_insL {y f : AF} : ∀ {L : List AF}, f ∈ insL y L ↔ f = y ∨ f ∈ L
  | [] => by simp [insL]
  | g :: r => by
    unfold insL
    split
    · simp only [List.mem_cons, mem_insL (L := r)]; constructor <;> rintro (h | h | h) <;> simp [h]
    · simp
theorem insL_perm (y : AF) : ∀ L : List AF, (insL y L).Perm (y :: L)
  | [] => List.Perm.refl _
  | g :: r => by
    unfold insL
    split
    · exact ((insL_perm y r).cons g).trans (List.Perm.swap _ _ _)
    · exact List.Perm.refl _
theorem insL_length (y : AF) (L : List AF) : (insL y L).length = L.length + 1 := (insL_perm y L).length_eq
theorem insL_tot (y : AF) : ∀ L : List AF, totL (insL y L) = totL L + y.data.size
  | [] => by simp [insL, totL]
  | g :: r => by
    unfold insL
    split
    · simp only [totL, insL_tot y r]; omega
    · simp only [totL]; omega
theorem insL_rising {y : AF} : ∀ {L : List AF}, Rising L → (∀ f ∈ L, f.name ≠ y.name) → Rising (insL y L)
  | [], _, _ => by simp [insL, Rising, namesL]
  | g :: r, h, k => by
    unfold insL
    split
    · rename_i hlt
      refine rising_cons (insL_rising (rising_tail h) (fun f hf => k f (by simp [hf]))) (fun f hf => ?_)
      rcases mem_insL.1 hf with rfl | h2
      · exact hlt
      · exact rising_head h f h2
    · rename_i hlt
      have h3 := nm_tri hlt (k g (by simp))
      refine rising_cons h (fun f hf => ?_)
      rcases List.mem_cons.1 hf with rfl | h2
      · exact h3
      · exact nm_trans h3 (rising_head h f h2)
theorem findL_insL {y : AF} {x : Nm} : ∀ {L : List AF}, (∀ f ∈ L, f.name ≠ y.name) → findL x (insL y L) = if y.name = x then some y else findL x L
  | [], _ => rfl
  | g :: r, k => by
    unfold insL
    split
    · unfold findL
      rw [findL_insL (fun f hf => k f (by simp [hf]))]
      by_cases h1 : g.name = x
      · have : y.name ≠ x := fun e => k g (by simp) (h1.trans e.symm)
        simp [h1, this]
      · simp [h1]
    · rw [findL]
theorem mem_delL {x : Nm} {f : AF} : ∀ {L : List AF}, f ∈ delL x L ↔ f ∈ L ∧ f.name ≠ x
  | [] => by simp [delL]
  | g :: r => by
    unfold delL
    split
    · rename_i h
      rw [mem_delL]
      constructor
      · rintro ⟨h1, h2⟩; exact ⟨by simp [h1], h2⟩
      · rintro ⟨h1, h2⟩
        rcases List.mem_cons.1 h1 with rfl | h3
        · exact absurd h h2
        · exact ⟨h3, h2⟩
    · rename_i h
      rw [List.mem_cons, mem_delL, List.mem_cons]
      constructor
      · rintro (rfl | ⟨h1, h2⟩)
        · exact ⟨.inl rfl, h⟩
        · exact ⟨.inr h1, h2⟩
      · rintro ⟨h1 | h1, h2⟩
        · exact .inl h1
        · exact .inr ⟨h1, h2⟩
theorem delL_of_not {x : Nm} : ∀ {L : List AF}, (∀ f ∈ L, f.name ≠ x) → delL x L = L
  | [], _ => rfl
  | g :: r, h => by
    unfold delL
    rw [if_neg (h g (by simp)), delL_of_not (fun f hf => h f (by simp [hf]))]
theorem delL_sub (x : Nm) : ∀ L : List AF, (delL x L).Sublist L
  | [] => List.Sublist.refl _
  | g :: r => by
    unfold delL
    split
    · exact (delL_sub x r).cons _
    · exact (delL_sub x r).cons_cons _
theorem delL_rising {x : Nm} {L : List AF} (h : Rising L) : Rising (delL x L) := List.Pairwise.sublist ((delL_sub x L).map _) h
theorem findL_delL {x y : Nm} : ∀ {L : List AF}, findL y (delL x L) = if y = x then none else findL y L
  | [] => by simp [findL, delL]
  | g :: r => by
    unfold delL
    split
    · rename_i h
      rw [findL_delL]
      by_cases h1 : y = x
      · simp [h1]
      · rw [if_neg h1, if_neg h1, findL, if_neg (fun e => h1 (e.symm.trans h))]
    · rename_i h
      rw [findL, findL_delL, findL]
      by_cases h1 : y = x
      · subst h1; simp [h]
      · simp [h1]
theorem delL_tot {x : Nm} {f : AF} : ∀ {L : List AF}, Rising L → findL x L = some f → totL (delL x L) + f.data.size = totL L
  | [], _, h => by cases h
  | g :: r, hr, h => by
    unfold findL at h
    unfold delL
    split at h
    · rename_i hx
      cases h
      rw [if_pos hx, delL_of_not (fun k hk e => (nm_ne (rising_head hr k hk)) (hx.trans e.symm))]
      simp only [totL]; omega
    · rename_i hx
      rw [if_neg hx]
      simp only [totL]
      have := delL_tot (rising_tail hr) h
      omega
theorem delL_length {x : Nm} {f : AF} : ∀ {L : List AF}, Rising L → findL x L = some f → (delL x L).length + 1 = L.length
  | [], _, h => by cases h
  | g :: r, hr, h => by
    unfold findL at h
    unfold delL
    split at h
    · rename_i hx
      cases h
      rw [if_pos hx, delL_of_not (fun k hk e => (nm_ne (rising_head hr k hk)) (hx.trans e.symm))]
      simp
    · rename_i hx
      rw [if_neg hx]
      have := delL_length (rising_tail hr) h
      simp only [List.length_cons]; omega
theorem updL_names (x : Nm) (g : AF → AF) (hg : ∀ f, (g f).name = f.name) : ∀ L : List AF, namesL (updL x g L) = namesL L
  | [] => rfl
  | f :: r => by
    have ih := updL_names x g hg r
    unfold namesL at ih ⊢
    unfold updL
    simp only [List.map_cons, ih]
    split <;> simp [hg]
theorem updL_rising {x : Nm} {g : AF → AF} (hg : ∀ f, (g f).name = f.name) {L : List AF} (h : Rising L) : Rising (updL x g L) := by
  unfold Rising at *
  rw [updL_names x g hg]
  exact h
theorem updL_length (x : Nm) (g : AF → AF) : ∀ L : List AF, (updL x g L).length = L.length
  | [] => rfl
  | f :: r => by simp [updL, updL_length x g r]
theorem findL_updL {x y : Nm} {g : AF → AF} (hg : ∀ f, (g f).name = f.name) : ∀ {L : List AF}, findL y (updL x g L) = if y = x then (findL y L).map g else findL y L
  | [] => by simp [findL, updL]
  | f :: r => by
    have ih := findL_updL (x := x) (y := y) hg (L := r)
    unfold updL findL
    by_cases h1 : f.name = x
    · rw [if_pos h1, hg]
      by_cases h2 : f.name = y
      · have : y = x := h2.symm.trans h1
        simp [h2, this]
      · simp only [if_neg h2, ih]
    · rw [if_neg h1]
      by_cases h2 : f.name = y
      · have : y ≠ x := fun e => h1 (h2.trans e)
        simp [h2, this]
      · simp only [if_neg h2, ih]
theorem updL_tot {x : Nm} {g : AF → AF} {f : AF} : ∀ {L : List AF}, Rising L → findL x L = some f → totL (updL x g L) + f.data.size = totL L + (g f).data.size
  | [], _, h => by cases h
  | k :: r, hr, h => by
    unfold findL at h
    unfold updL
    split at h
    · rename_i hx
      cases h
      have h2 : ∀ {M : List AF}, (∀ q ∈ M, q.name ≠ x) → updL x g M = M := by
        intro M
        induction M with
        | nil => intro _; rfl
        | cons q M ih => intro hq; unfold updL; rw [if_neg (hq q (by simp)), ih (fun z hz => hq z (by simp [hz]))]
      rw [if_pos hx, h2 (fun q hq e => (nm_ne (rising_head hr q hq)) (hx.trans e.symm))]
      simp only [totL]; omega
    · rename_i hx
      rw [if_neg hx]
      simp only [totL]
      have := updL_tot (g := g) (rising_tail hr) h
      omega
theorem mem_updL {x : Nm} {g : AF → AF} {q : AF} : ∀ {L : List AF}, q ∈ updL x g L → (∃ f ∈ L, f.name = x ∧ q = g f) ∨ (q ∈ L ∧ q.name ≠ x)
  | [], h => by cases h
  | f :: r, h => by
    unfold updL at h
    rcases List.mem_cons.1 h with h2 | h2
    · split at h2
      · rename_i hx; exact .inl ⟨f, by simp, hx, h2⟩
      · rename_i hx; subst h2; exact .inr ⟨by simp, hx⟩
    · rcases mem_updL h2 with ⟨f', h3, h4⟩ | ⟨h3, h4⟩
      · exact .inl ⟨f', by simp [h3], h4⟩
      · exact .inr ⟨by simp [h3], h4⟩
theorem mem_tot {f : AF} : ∀ {L : List AF}, f ∈ L → f.data.size ≤ totL L
  | g :: r, h => by
    rcases List.mem_cons.1 h with rfl | h2
    · simp only [totL]; omega
    · have := mem_tot h2; simp only [totL]; omega

/-! ### the calls -/
def AD.used (d : AD) : Int := totL d.L
def AD.free (d : AD) : Int := d.size - d.used
structure AD.Ok (d : AD) : Prop where
  size0 : 0 ≤ d.size
  size1 : d.size ≤ 1048576
  used : d.used ≤ d.size
  many : d.L.length ≤ 64
  rising : Rising d.L
  safe : ∀ f ∈ d.L, 0 ≤ f.safe ∧ f.safe ≤ f.data.size
  named : ∀ f ∈ d.L, named f.name = true
  armed0 : -1 ≤ d.armed
  armed1 : d.armed ≤ 9223372036854775807
  steps0 : -9223372036854775808 ≤ d.steps
  steps1 : d.steps ≤ 9223372036854775807
end Go.Proofs.YtakhnkkcllfbjaaDoorX
end
section
namespace Go.Proofs.YtakhnkkcllfbjaaDoorX
open Go.RowKit
set_option linter.unusedVariables false
set_option linter.unusedSimpArgs false

def AD.findE (d : AD) (x : Nm) : Int := if d.down = true then 3 else if named x = false then 40 else if (findL x d.L).isNone = true then 41 else 0
def AD.fall (d : AD) : AD := { d with down := true }
def AD.tick (d : AD) : AD := { d with armed := if 0 < d.armed then d.armed - 1 else d.armed, steps := wrap64 (d.steps + 1) }
def AD.putL (d : AD) (x : Nm) (s : ByteArray) : List AF := match findL x d.L with
  | none => insL ⟨x, s, 0⟩ d.L
  | some _ => updL x (fun f => { f with data := f.data ++ s }) d.L
def AD.append (d : AD) (x : Nm) (s : ByteArray) : AD × Int :=
  if d.findE x = 3 ∨ d.findE x = 40 then (d, d.findE x)
  else if d.free < (s.size : Int) ∨ (findL x d.L = none ∧ d.L.length = 64) then (d, 42)
  else if d.armed = 0 then (d.fall, 3)
  else ({ d.tick with L := d.putL x s }, 0)
def safeF (f : AF) : AF := { f with safe := f.data.size }
def AD.sync (d : AD) (x : Nm) : AD × Int :=
  if d.findE x ≠ 0 then (d, d.findE x)
  else if d.armed = 0 then (d.fall, 3)
  else ({ d.tick with L := updL x safeF d.L }, 0)
def AD.renE (d : AD) (x y : Nm) : Int := if d.findE x ≠ 3 ∧ named y = false then 40 else d.findE x
def AD.renL (d : AD) (x y : Nm) : List AF := if x = y then d.L else match findL x d.L with
  | none => d.L
  | some f => insL { f with name := y } (delL x (delL y d.L))
def AD.rename (d : AD) (x y : Nm) : AD × Int :=
  if d.renE x y ≠ 0 then (d, d.renE x y)
  else if d.armed = 0 then (d.fall, 3)
  else ({ d.tick with L := d.renL x y }, 0)
def AD.remove (d : AD) (x : Nm) : AD × Int :=
  if d.findE x ≠ 0 then (d, d.findE x)
  else if d.armed = 0 then (d.fall, 3)
  else ({ d.tick with L := delL x d.L }, 0)
def AD.arm (d : AD) (n : Int) : AD × Int :=
  if n < -1 then (d, 1) else if d.down = true then (d, 3) else ({ d with armed := n }, 0)
def keepN (ks : List Int) (tail : Int) : Int := match ks with
  | [] => 0
  | k :: _ => min (max k 0) tail
def cutF (f : AF) (n : Int) : AF := { f with data := f.data.extract 0 (f.safe + n).toNat, safe := f.safe + n }
def crashL : List AF → List Int → List AF
  | [], _ => []
  | f :: r, ks => if f.safe < (f.data.size : Int) then cutF f (keepN ks (f.data.size - f.safe)) :: crashL r ks.tail else safeF f :: crashL r ks
def AD.crash (d : AD) (ks : List Int) : AD := { d with L := crashL d.L ks, down := false, armed := -1 }
def AD.read (d : AD) (x : Nm) : ByteArray × Int := if d.findE x ≠ 0 then (⟨#[]⟩, d.findE x) else match findL x d.L with
  | none => (⟨#[]⟩, 0)
  | some f => (f.data, 0)
/-- a new disk: the files one by one -/
def AD.fresh (size : Int) (L : List AF) : AD := { size := size, armed := -1, down := false, steps := 0, L := L }

theorem findE_ok {d : AD} {x : Nm} (h : d.findE x = 0) : d.down = false ∧ named x = true ∧ ∃ f, findL x d.L = some f := by
  unfold AD.findE at h
  split at h
  · cases h
  · split at h
    · cases h
    · split at h
      · cases h
      · rename_i h1 h2 h3
        refine ⟨by simpa using h1, by simpa using h2, ?_⟩
        cases hf : findL x d.L with
        | none => simp [hf] at h3
        | some f => exact ⟨f, rfl⟩
theorem findE_cases {d : AD} {x : Nm} (h3 : d.findE x ≠ 3) (h40 : d.findE x ≠ 40) : d.down = false ∧ named x = true := by
  unfold AD.findE at h3 h40
  split at h3
  · exact absurd rfl h3
  · rename_i h1
    rw [if_neg h1] at h40
    split at h40
    · exact absurd rfl h40
    · rename_i h2
      exact ⟨by simpa using h1, by simpa using h2⟩

theorem wrap_b (x : Int) : -9223372036854775808 ≤ wrap64 x ∧ wrap64 x ≤ 9223372036854775807 := by unfold wrap64; omega
theorem AD.Ok.fall {d : AD} (h : d.Ok) : d.fall.Ok := ⟨h.size0, h.size1, h.used, h.many, h.rising, h.safe, h.named, h.armed0, h.armed1, h.steps0, h.steps1⟩
theorem AD.Ok.tick {d : AD} (h : d.Ok) {L : List AF} (hu : (totL L : Int) ≤ d.size) (hm : L.length ≤ 64) (hr : Rising L) (hs : ∀ f ∈ L, 0 ≤ f.safe ∧ f.safe ≤ f.data.size) (hn : ∀ f ∈ L, Go.Proofs.YtakhnkkcllfbjaaDoorX.named f.name = true) :
    ({ d.tick with L := L } : AD).Ok := by
  have a0 := h.armed0
  have a1 := h.armed1
  refine ⟨h.size0, h.size1, hu, hm, hr, hs, hn, ?_, ?_, (wrap_b _).1, (wrap_b _).2⟩
  · show -1 ≤ (if 0 < d.armed then d.armed - 1 else d.armed); split <;> omega
  · show (if 0 < d.armed then d.armed - 1 else d.armed) ≤ _; split <;> omega
theorem tick_self (d : AD) : ({ d.tick with L := d.L } : AD) = d.tick := rfl
theorem appendOk {d : AD} (h : d.Ok) {x : Nm} (hx : named x = true) {s : ByteArray} (h1 : ¬ (d.free < (s.size : Int) ∨ (findL x d.L = none ∧ d.L.length = 64))) : ({ d.tick with L := d.putL x s } : AD).Ok := by
  have hu := h.used
  have hf : (s.size : Int) ≤ d.size - d.used := by
    have : ¬ d.free < (s.size : Int) := fun k => h1 (.inl k)
    unfold AD.free at this
    omega
  unfold AD.used at hu hf
  unfold AD.putL
  split
  · rename_i hn
    have hn' := findL_none.1 hn
    have hm : d.L.length ≠ 64 := fun k => h1 (.inr ⟨hn, k⟩)
    have := h.many
    refine h.tick ?_ (by rw [insL_length]; omega) (insL_rising h.rising hn') (fun f hf2 => ?_) (fun f hf2 => ?_)
    · rw [insL_tot]
      show ((totL d.L + s.size : Nat) : Int) ≤ _
      omega
    · rcases mem_insL.1 hf2 with rfl | h2
      · exact ⟨Int.le_refl _, by simp⟩
      · exact h.safe f h2
    · rcases mem_insL.1 hf2 with rfl | h2
      · exact hx
      · exact h.named f h2
  · rename_i f hf0
    have ht := updL_tot (g := fun f => { f with data := f.data ++ s }) h.rising hf0
    have hsz : (f.data ++ s).size = f.data.size + s.size := ByteArray.size_append
    simp only [hsz] at ht
    refine h.tick (by omega) (by rw [updL_length]; exact h.many) (updL_rising (g := fun f => { f with data := f.data ++ s }) (fun _ => rfl) h.rising) (fun q hq => ?_) (fun q hq => ?_)
    · rcases mem_updL hq with ⟨g, hg, _, rfl⟩ | ⟨hg, _⟩
      · have := h.safe g hg
        refine ⟨this.1, ?_⟩
        show g.safe ≤ ((g.data ++ s).size : Int)
        rw [ByteArray.size_append]
        omega
      · exact h.safe q hg
    · rcases mem_updL hq with ⟨g, hg, _, rfl⟩ | ⟨hg, _⟩
      · exact h.named g hg
      · exact h.named q hg
theorem AD.Ok.append {d : AD} (h : d.Ok) (x : Nm) (s : ByteArray) : (d.append x s).1.Ok := by
  unfold AD.append
  split
  · exact h
  · rename_i h0
    split
    · exact h
    · rename_i h1
      split
      · exact h.fall
      · exact appendOk h (findE_cases (fun k => h0 (.inl k)) (fun k => h0 (.inr k))).2 h1
theorem AD.Ok.sync {d : AD} (h : d.Ok) (x : Nm) : (d.sync x).1.Ok := by
  unfold AD.sync
  split
  · exact h
  · split
    · exact h.fall
    · rename_i h0 _
      obtain ⟨_, _, f, hf⟩ := findE_ok (Decidable.not_not.1 h0)
      have ht := updL_tot (g := safeF) h.rising hf
      have hu := h.used
      unfold AD.used at hu
      refine h.tick (by simp only [safeF] at ht; omega) (by rw [updL_length]; exact h.many) (updL_rising (g := safeF) (fun _ => rfl) h.rising) (fun q hq => ?_) (fun q hq => ?_)
      · rcases mem_updL hq with ⟨g, hg, _, rfl⟩ | ⟨hg, _⟩
        · exact ⟨by simp [safeF], by simp [safeF]⟩
        · exact h.safe q hg
      · rcases mem_updL hq with ⟨g, hg, _, rfl⟩ | ⟨hg, _⟩
        · exact h.named g hg
        · exact h.named q hg
theorem delL_tot_le (x : Nm) : ∀ L : List AF, totL (delL x L) ≤ totL L
  | [] => Nat.le_refl _
  | f :: r => by
    unfold delL
    have := delL_tot_le x r
    split <;> simp only [totL] <;> omega
theorem removeOk {d : AD} (h : d.Ok) (x : Nm) : ({ d.tick with L := delL x d.L } : AD).Ok := by
  have hu := h.used
  unfold AD.used at hu
  have := delL_tot_le x d.L
  exact h.tick (by omega) (Nat.le_trans (delL_sub x d.L).length_le h.many) (delL_rising h.rising) (fun q hq => h.safe q (mem_delL.1 hq).1) (fun q hq => h.named q (mem_delL.1 hq).1)
theorem AD.Ok.remove {d : AD} (h : d.Ok) (x : Nm) : (d.remove x).1.Ok := by
  unfold AD.remove
  split
  · exact h
  · split
    · exact h.fall
    · exact removeOk h x
theorem renL_Ok {d : AD} (h : d.Ok) {x y : Nm} (hy : named y = true) : ({ d.tick with L := d.renL x y } : AD).Ok := by
  have hu := h.used
  unfold AD.used at hu
  unfold AD.renL
  split
  · exact h.tick hu h.many h.rising h.safe h.named
  · rename_i hne
    split
    · exact h.tick hu h.many h.rising h.safe h.named
    · rename_i f hf
      have hmem := (findL_name hf).2
      have hf2 : findL x (delL y d.L) = some f := by rw [findL_delL, if_neg hne, hf]
      have ht := delL_tot (delL_rising h.rising) hf2
      have hl := delL_length (delL_rising h.rising) hf2
      have h3 := delL_tot_le y d.L
      have h4 := (delL_sub y d.L).length_le
      have h5 := h.many
      refine h.tick ?_ (by rw [insL_length]; omega) (insL_rising (delL_rising (delL_rising h.rising)) (fun q hq => (mem_delL.1 (mem_delL.1 hq).1).2)) (fun q hq => ?_) (fun q hq => ?_)
      · rw [insL_tot]
        show ((totL (delL x (delL y d.L)) + f.data.size : Nat) : Int) ≤ _
        omega
      · rcases mem_insL.1 hq with rfl | h2
        · exact h.safe f hmem
        · exact h.safe q (mem_delL.1 (mem_delL.1 h2).1).1
      · rcases mem_insL.1 hq with rfl | h2
        · exact hy
        · exact h.named q (mem_delL.1 (mem_delL.1 h2).1).1
theorem renE_ok {d : AD} {x y : Nm} (h : d.renE x y = 0) : d.findE x = 0 ∧ named y = true := by
  unfold AD.renE at h
  split at h
  · cases h
  · rename_i hh
    refine ⟨h, ?_⟩
    rw [h] at hh
    cases hy : named y with
    | true => rfl
    | false => exact absurd ⟨by decide, hy⟩ hh
theorem AD.Ok.rename {d : AD} (h : d.Ok) (x y : Nm) : (d.rename x y).1.Ok := by
  unfold AD.rename
  split
  · exact h
  · rename_i h0
    split
    · exact h.fall
    · exact renL_Ok h (renE_ok (Decidable.not_not.1 h0)).2
theorem AD.Ok.arm {d : AD} (h : d.Ok) {n : Int} (hn : n ≤ 9223372036854775807) : (d.arm n).1.Ok := by
  unfold AD.arm
  split
  · exact h
  · split
    · exact h
    · exact ⟨h.size0, h.size1, h.used, h.many, h.rising, h.safe, h.named, by show -1 ≤ n; omega, hn, h.steps0, h.steps1⟩
theorem crashL_names : ∀ (L : List AF) (ks : List Int), namesL (crashL L ks) = namesL L
  | [], _ => rfl
  | f :: r, ks => by
    unfold crashL namesL
    split
    · have := crashL_names r ks.tail
      unfold namesL at this
      simp [this, cutF]
    · have := crashL_names r ks
      unfold namesL at this
      simp [this, safeF]
theorem keepN_b (ks : List Int) {t : Int} (ht : 0 ≤ t) : 0 ≤ keepN ks t ∧ keepN ks t ≤ t := by
  unfold keepN
  split <;> omega
theorem crashL_tot {L : List AF} (h : ∀ f ∈ L, 0 ≤ f.safe ∧ f.safe ≤ f.data.size) : ∀ ks, totL (crashL L ks) ≤ totL L := by
  induction L with
  | nil => intro _; exact Nat.le_refl _
  | cons f r ih =>
    intro ks
    have ih' := ih (fun q hq => h q (by simp [hq]))
    have hf := h f (by simp)
    unfold crashL
    split
    · rename_i hlt
      simp only [totL, cutF, ByteArray.size_extract]
      have := ih' ks.tail
      omega
    · simp only [totL, safeF]
      have := ih' ks
      omega
theorem crashL_safe {L : List AF} (h : ∀ f ∈ L, 0 ≤ f.safe ∧ f.safe ≤ f.data.size) : ∀ ks, ∀ q ∈ crashL L ks, 0 ≤ q.safe ∧ q.safe = q.data.size := by
  induction L with
  | nil => intro _ q hq; cases hq
  | cons f r ih =>
    intro ks q hq
    have hf := h f (by simp)
    unfold crashL at hq
    split at hq
    · rename_i hlt
      rcases List.mem_cons.1 hq with rfl | h2
      · have hk := keepN_b ks (t := (f.data.size : Int) - f.safe) (by omega)
        simp only [cutF, ByteArray.size_extract]
        omega
      · exact ih (fun q hq => h q (by simp [hq])) _ q h2
    · rcases List.mem_cons.1 hq with rfl | h2
      · simp [safeF]
      · exact ih (fun q hq => h q (by simp [hq])) _ q h2
theorem crashL_length (L : List AF) (ks : List Int) : (crashL L ks).length = L.length := by
  have := congrArg List.length (crashL_names L ks)
  simpa [namesL] using this
theorem AD.Ok.crash {d : AD} (h : d.Ok) (ks : List Int) : (d.crash ks).Ok := by
  have hu := h.used
  unfold AD.used at hu
  have ht := crashL_tot h.safe ks
  refine ⟨h.size0, h.size1, ?_, ?_, ?_, fun f hf => ?_, fun f hf => ?_, by show (-1 : Int) ≤ -1; omega, by show (-1 : Int) ≤ _; omega, h.steps0, h.steps1⟩
  · show ((totL (crashL d.L ks) : Nat) : Int) ≤ d.size; omega
  · show (crashL d.L ks).length ≤ 64; rw [crashL_length]; exact h.many
  · show (namesL (crashL d.L ks)).Pairwise _; rw [crashL_names]; exact h.rising
  · have := crashL_safe h.safe ks f hf; omega
  · have h1 : f.name ∈ namesL (crashL d.L ks) := List.mem_map_of_mem hf
    rw [crashL_names] at h1
    obtain ⟨g, hg, e⟩ := List.mem_map.1 h1
    rw [← e]; exact h.named g hg
end Go.Proofs.YtakhnkkcllfbjaaDoorX
end
section
namespace Go.Proofs.YtakhnkkcllfbjaaDoorX
open Go.RowKit Go.Proofs.YtakhnkkcllfbjaaDoorW.PrintWords Go.Proofs.YtakhnkkcllfbjaaDoorW.PrintLast Go.Proofs.YtakhnkkcllfbjaaDoorW.PrintMore
open Go.Lib (strCells)
set_option linter.unusedVariables false
set_option linter.unusedSimpArgs false

/-- No cell of a row of n is frozen. -/
def Soft (n : Nat) (fr : Nat × Nat) : Prop := fr.2 = 0 ∨ n ≤ fr.1
theorem soft_frozen {w : World} {g : Nat} {cur : Array Value} {t : TypeId} {fr : Nat × Nat} (hg : w.heap[g]? = some (.cells cur t fr)) (h : Soft cur.size fr) {i : Nat} (hi : i < cur.size) : w.frozen? ⟨g, i, none⟩ = false := by
  rcases h with h | h
  · simp [World.frozen?, hg, h]
  · simp [World.frozen?, hg]; omega
theorem setCell_eq_setRow' (w : World) (g i : Nat) (cur : Array Value) (t : TypeId) (fr : Nat × Nat) (v : Value) (hg : w.heap[g]? = some (.cells cur t fr)) : w.setCell ⟨g, i, none⟩ v = w.setRow g (cur.setIfInBounds i v) := setCell_eq_setRow w g i cur t fr v hg
/-- A row of bytes of one's own (type e). -/
def RowB (e : TypeId) (w : World) (v : Value) (s : ByteArray) : Prop :=
  (v = .slice none 0 0 ∧ s.size = 0) ∨ ∃ g cap cur fr, v = .slice (some ⟨g, 0, none⟩) s.size cap ∧ w.heap[g]? = some (.cells cur e fr) ∧ Soft cur.size fr ∧ s.size ≤ cap ∧ cap ≤ maxLen ∧ cur.size = cap ∧ cur.toList.take s.size = strCells s
section
variable {e : TypeId} {w w' : World} {v : Value} {s y : ByteArray}
theorem RowB.lt (h : RowB e w v s) : ∀ k ∈ v.ownBlock.toList, k < w.heap.size := fun k hk => by
  rcases h with ⟨rfl, _⟩ | ⟨g, cap, cur, fr, rfl, hg, _⟩
  · simp [Value.ownBlock] at hk
  · simp [Value.ownBlock] at hk
    subst hk
    exact blk_lt hg
theorem RowB.step (h : RowB e w v s) (hb : ∀ k ∈ v.ownBlock.toList, w'.heap[k]? = w.heap[k]?) : RowB e w' v s := by
  rcases h with h | ⟨g, cap, cur, fr, rfl, hg, r⟩
  · exact .inl h
  · exact .inr ⟨g, cap, cur, fr, rfl, (hb g (by simp [Value.ownBlock])).trans hg, r⟩
theorem RowB.nil (e : TypeId) (w : World) : RowB e w (.slice none 0 0) ⟨#[]⟩ := .inl ⟨rfl, rfl⟩
theorem RowB.shape (h : RowB e w v s) : ∃ p c, v = .slice p s.size c := by
  rcases h with ⟨rfl, h2⟩ | ⟨g, cap, cur, fr, rfl, _⟩
  · rw [h2]; exact ⟨_, _, rfl⟩
  · exact ⟨_, _, rfl⟩
theorem RowB.cap (h : RowB e w v s) {p : Option Addr} {n c : Nat} (hv : v = .slice p n c) : n = s.size ∧ s.size ≤ c ∧ c ≤ maxLen := by
  rcases h with ⟨h1, h2⟩ | ⟨g, cap, cur, fr, h1, _, _, h3, h4, _⟩
  · rw [hv] at h1; cases h1; exact ⟨h2.symm, by omega, by simp [maxLen]⟩
  · rw [hv] at h1; cases h1; exact ⟨rfl, h3, h4⟩
theorem strCells_get {j : Nat} (hj : j < s.data.toList.length) : (strCells s)[j]? = some (.int .u8 ((s.data.toList[j]).toNat : Int)) := by
  unfold strCells
  rw [List.getElem?_map, List.getElem?_eq_getElem hj]
  rfl
/-- string(v) -/
theorem RowB.back {P : Program} (h : RowB e w v s) (src dst : TypeId) (hs : P.underlying src = some (.slice e)) (he : P.underlying e = some (.int .u8)) (hd : P.underlying dst = some .string) : (convert src dst v).run P w = .ok (.string s) w := by
  rcases h with ⟨rfl, h2⟩ | ⟨g, cap, cur, fr, rfl, hg, hso, h3, h4, h5, h6⟩
  · have e0 : s = ⟨#[]⟩ := ByteArray.ext (Array.eq_empty_of_size_eq_zero h2)
    subst e0
    rw [run_convert_bytes_string w src dst e none 0 0 hs he hd]
    rfl
  · have hl : s.data.toList.length = s.size := by simp
    have := run_convert_bytes_back w src dst e ⟨g, 0, none⟩ cap s.data.toList hs he hd (fun j hj => by
      have hadd : (⟨g, 0, none⟩ : Addr).add j = ⟨g, j, none⟩ := by unfold Addr.add; split <;> simp_all
      rw [hadd, cell_of_row w g j cur e fr hg]
      have h7 := strCells_get hj
      rw [← h6, List.getElem?_take, if_pos (by omega), Array.getElem?_toList] at h7
      exact h7)
    rw [hl] at this
    simpa using this
/-- []byte(s) -/
theorem RowB.made (w : World) (e : TypeId) (s : ByteArray) (hs : s.size ≤ maxLen) : RowB e (Lib.bytesWorld w e s) (.slice (some ⟨w.heap.size, 0, none⟩) s.size (grownCap w s.size 0 e)) s := by
  have hge := grownCap_ge w s.size 0 e
  have hsz : (Lib.bytesCells w e s).size = grownCap w s.size 0 e := by
    simp only [Lib.bytesCells, Array.size_append, Array.size_map, Array.size_replicate]
    have : s.data.size = s.size := rfl
    omega
  refine .inr ⟨_, _, _, _, rfl, Lib.bytesWorld_at_new w e s, .inr (Nat.le_refl _), hge, grownCap_le_maxLen w s.size 0 e hs, hsz, ?_⟩
  simp only [Lib.bytesCells, Array.toList_append]
  rw [List.take_append_of_le_length (by simp)]
  rw [List.take_of_length_le (by simp)]
  simp [strCells]
theorem fr_bytes (w : World) (e : TypeId) (s : ByteArray) : Below w.heap.size w (Lib.bytesWorld w e s) := by
  refine ⟨rfl, rfl, rfl, by rw [Lib.bytesWorld_size]; omega, fun k hk => Lib.bytesWorld_at_old w e s k hk⟩
/-- v[:k] -/
theorem RowB.cut (h : RowB e w v s) {p : Option Addr} {n c : Nat} (hv : v = .slice p n c) (k : Nat) (hk : k ≤ s.size) : RowB e w (.slice p k c) (s.extract 0 k) ∧ (Value.slice p k c).ownBlock = v.ownBlock := by
  have e1 : (s.extract 0 k).size = k := by rw [ByteArray.size_extract]; omega
  rcases h with ⟨h1, h2⟩ | ⟨g, cap, cur, fr, h1, hg, hso, h3, h4, h5, h6⟩
  · rw [hv] at h1
    cases h1
    obtain rfl : k = 0 := by omega
    exact ⟨.inl ⟨rfl, e1⟩, by rw [hv]⟩
  · rw [hv] at h1
    cases h1
    refine ⟨.inr ⟨g, _, cur, fr, by rw [e1], hg, hso, by omega, h4, h5, ?_⟩, by rw [hv]; rfl⟩
    rw [e1]
    have e2 : strCells (s.extract 0 k) = (strCells s).take k := by
      simp only [strCells, ByteArray.data_extract, Array.toList_extract, List.extract_eq_take_drop, List.drop_zero, Nat.sub_zero, List.map_take]
    rw [e2, ← h6, List.take_take, Nat.min_eq_left hk]
theorem run_storeCells_soft {P : Program} (g o : Nat) (t : TypeId) (fr : Nat × Nat) : ∀ (vs : List Value) (i : Nat) (cur : Array Value) (w : World), w.heap[g]? = some (.cells cur t fr) → Soft cur.size fr → o + i + vs.length ≤ cur.size → (∀ v ∈ vs, v.oneCell' = true) →
    (storeCells ⟨g, o, none⟩ vs i).run P w = .ok () (w.setRow g (cur.toList.take (o + i) ++ vs ++ cur.toList.drop (o + i + vs.length)).toArray)
  | [], i, cur, w, hg, _, _, _ => by
    simp only [storeCells, List.append_nil, List.length_nil, Nat.add_zero, List.take_append_drop, Array.toArray_toList]
    rw [setRow_self w g cur t fr hg]
    rfl
  | v :: rest, i, cur, w, hg, hs, hl, h1 => by
    have hi : o + i < cur.size := by simp at hl; omega
    have hadd : (⟨g, o, none⟩ : Addr).add i = ⟨g, o + i, none⟩ := by unfold Addr.add; split <;> simp_all
    have hcell : w.cell? ⟨g, o + i, none⟩ = some cur[o + i] := by simp [World.cell?, hg, hi]
    have hfro : w.frozen? ⟨g, o + i, none⟩ = false := soft_frozen hg hs hi
    have hst : (store ((⟨g, o, none⟩ : Addr).add i) v).run P w = .ok () (w.setRow g (cur.setIfInBounds (o + i) v)) := by
      rw [hadd, run_store P w _ v _ (h1 v (by simp)), hcell]
      simp [hfro, setCell_eq_setRow w g (o + i) cur t fr v hg]
    have ih := run_storeCells_soft (P := P) g o t fr rest (i + 1) (cur.setIfInBounds (o + i) v) (w.setRow g (cur.setIfInBounds (o + i) v)) (setRow_heap w g cur _ t _ hg) (by simpa using hs) (by simp at hl ⊢; omega) (fun x hx => h1 x (by simp [hx]))
    simp only [storeCells, Sem.run_bind, hst, Result.andThen_ok, ih, setRow_setRow]
    congr 3
    have e := list_seg_step cur.toList (o + i) v rest (by simp at hl ⊢; omega)
    simpa [Array.toList_setIfInBounds, Nat.add_assoc] using e
theorem strCells_append (s y : ByteArray) : strCells (s ++ y) = strCells s ++ strCells y := by simp [strCells]
/-- append(v, y...) -/
theorem RowB.append {P : Program} (h : RowB e w v s) (t u ty : TypeId) (ht : P.underlying t = some (.slice e)) (hu : P.underlying u = some .string) (hinfo : (P.info? e).map (fun i => (i.zero, i.size, i.bytes)) = some (some (.int .u8 0), 1, 1)) (hl : s.size + y.size ≤ 140737488355328) :
    ∃ v' w', (Builtin.append_ #[t, u] ty #[v, .string y]).run P w = .ok v' w' ∧ RowB e w' v' (s ++ y) ∧ w.grownBy w' v.ownBlock ∧ (v'.ownBlock = v.ownBlock ∨ ∃ b, v'.ownBlock = some b ∧ w.heap.size ≤ b) := by
  obtain ⟨i, hi, hzz⟩ := Option.map_eq_some_iff.1 hinfo
  simp only [Prod.mk.injEq] at hzz
  obtain ⟨hz, hsize, hby⟩ := hzz
  have hsz : (s ++ y).size = s.size + y.size := ByteArray.size_append
  have hm : s.size + y.size ≤ maxLen := by simp only [maxLen]; omega
  have grown : ∀ (old : Nat) (xs : List Value), xs = strCells s → ∀ (row : Option Nat),
      RowB e (w.drew.alloc (.cells (xs.toArray ++ (strCells y).toArray ++ Builtin.zeroCells (Value.int .u8 0).cells (grownCap w (s.size + y.size) old e - (s.size + y.size))) e)) (.slice (some ⟨w.heap.size, 0, none⟩) (s.size + y.size) (grownCap w (s.size + y.size) old e)) (s ++ y) ∧
      w.grownBy (w.drew.alloc (.cells (xs.toArray ++ (strCells y).toArray ++ Builtin.zeroCells (Value.int .u8 0).cells (grownCap w (s.size + y.size) old e - (s.size + y.size))) e)) row := by
    intro old xs hxs row
    subst hxs
    have hge := grownCap_ge w (s.size + y.size) old e
    refine ⟨.inr ⟨w.heap.size, _, _, _, by rw [hsz], heap_alloc_new w.drew _, .inl rfl, by omega, grownCap_le_maxLen w _ old e hm, ?_, ?_⟩, ⟨rfl, rfl, rfl, by simp, fun k hk _ => Below.heap_alloc w.drew _ k hk⟩⟩
    · have hz1 : (Value.int IntKind.u8 0).cells.size = 1 := rfl
      simp only [Array.size_append, List.size_toArray, size_zeroCells, hz1, Lib.strCells_length]
      omega
    · rw [hsz]
      simp only [Array.toList_append, List.append_assoc]
      rw [← List.append_assoc, ← strCells_append, List.take_append_of_le_length (by rw [Lib.strCells_length, hsz]; exact Nat.le_refl _), List.take_of_length_le (by rw [Lib.strCells_length, hsz]; exact Nat.le_refl _)]
  rcases h with ⟨rfl, h2⟩ | ⟨g, cap, cur, fr, rfl, hg, hso, h3, h4, h5, h6⟩
  · have e0 : strCells s = [] := List.eq_nil_of_length_eq_zero (by rw [Lib.strCells_length]; exact h2)
    by_cases hy : y.size = 0
    · refine ⟨.slice none 0 0, w, ?_, .inl ⟨rfl, by omega⟩, World.grownBy.refl w _, .inl rfl⟩
      have hf := Lib.run_firstCells_string (P := P) w 1 y
      have hn : strCells y = [] := List.eq_nil_of_length_eq_zero (by rw [Lib.strCells_length]; exact hy)
      rw [hy, hn] at hf
      simp [Builtin.append_, run_underlying ht, run_underlying hu, sizeOf, typeInfo, hi, hsize, Builtin.lenOf, hy, hf]
    · have hr := run_append_nil_string (P := P) w t u ty e i (.int .u8 0) ht hu hi hz y (by omega) (by omega) (by rw [hby]; omega)
      have hgr := grown 0 [] e0.symm (Value.ownBlock (.slice none 0 0))
      rw [h2] at hgr
      simp only [Nat.zero_add, List.nil_append, Array.empty_append] at hgr ⊢
      have e1 : (y.data.map fun b => Value.int .u8 b.toNat) = (strCells y).toArray := by
        apply Array.ext'
        simp [strCells]
      rw [e1] at hr
      exact ⟨_, _, hr, hgr.1, hgr.2, .inr ⟨_, rfl, Nat.le_refl _⟩⟩
  · by_cases hroom : s.size + y.size ≤ cap
    · have hf := Lib.run_firstCells_string (P := P) w 1 y
      have hst := run_storeCells_soft (P := P) g s.size e fr (strCells y) 0 cur w hg hso (by rw [Lib.strCells_length]; omega) (Lib.strCells_oneCell y)
      simp only [Nat.add_zero, Lib.strCells_length] at hst
      refine ⟨.slice (some ⟨g, 0, none⟩) (s.size + y.size) cap, w.setRow g (cur.toList.take s.size ++ strCells y ++ cur.toList.drop (s.size + y.size)).toArray, ?_, .inr ⟨g, cap, _, fr, by rw [hsz], setRow_heap w g cur _ e _ hg, ?_, by omega, h4, ?_, ?_⟩, ⟨rfl, rfl, rfl, by simp, fun k _ hk => setRow_other w g k _ (fun e => hk (by simp [Value.ownBlock, e]))⟩, .inl rfl⟩
      · simp [Builtin.append_, run_underlying ht, run_underlying hu, sizeOf, typeInfo, hi, hsize, Builtin.lenOf, hroom, hf, Addr.add_lit, hst]
      · rcases hso with h7 | h7
        · exact .inl h7
        · refine .inr ?_
          simp only [List.size_toArray, List.length_append, List.length_take, List.length_drop, Array.length_toList, Lib.strCells_length]
          omega
      · simp only [List.size_toArray, List.length_append, List.length_take, List.length_drop, Array.length_toList, Lib.strCells_length]
        omega
      · simp only
        rw [h6, ← strCells_append, List.take_append_of_le_length (by rw [Lib.strCells_length]; exact Nat.le_refl _), List.take_of_length_le (by rw [Lib.strCells_length]; exact Nat.le_refl _)]
    · have holds : ∀ j u, (strCells s)[j]? = some u → w.cell? ((⟨g, 0, none⟩ : Addr).add j) = some u := fun j u hj => by
        have hadd : (⟨g, 0, none⟩ : Addr).add j = ⟨g, j, none⟩ := by unfold Addr.add; split <;> simp_all
        have hjl := (List.getElem?_eq_some_iff.1 hj).1
        rw [Lib.strCells_length] at hjl
        rw [← h6, List.getElem?_take, if_pos hjl, Array.getElem?_toList] at hj
        rw [hadd, cell_of_row w g j cur e fr hg, hj]
      have hr := Lib.run_append_grow_string (P := P) w t u ty e i (.int .u8 0) ht hu hi hz ⟨g, 0, none⟩ s.size cap (strCells s) (by rw [hsize, Lib.strCells_length, Nat.mul_one]) holds y (by omega) (by omega) (by rw [hby]; exact growslice_fits (by omega) (by omega))
      have hgr := grown cap (strCells s) rfl (Value.ownBlock (.slice (some ⟨g, 0, none⟩) s.size cap))
      exact ⟨_, _, hr, hgr.1, hgr.2, .inr ⟨_, rfl, Nat.le_refl _⟩⟩
end
section
variable {P : Program} {ops : Array Oper} {rest : List Oper} {o : Oper} {a : Act} {Q : Exit → Act → World → Prop} {e : TypeId} {w : World} {v : Value} {s y : ByteArray}
theorem wp_rowb_append (hgd : o.guard = none) (sl x : Operand) (t u : TypeId) (ho : o.op = .call { callee := .builtin .append, args := #[sl, x], argTypes := #[t, u] }) (h : RowB e w v s)
    (ht : P.underlying t = some (.slice e)) (hu : P.underlying u = some .string) (hinfo : (P.info? e).map (fun i => (i.zero, i.size, i.bytes)) = some (some (.int .u8 0), 1, 1)) (hs : a.eval sl = v) (hx : a.eval x = .string y) (hl : s.size + y.size ≤ 140737488355328)
    (hK : ∀ v' w', RowB e w' v' (s ++ y) → w.grownBy w' v.ownBlock → (v'.ownBlock = v.ownBlock ∨ ∃ b, v'.ownBlock = some b ∧ w.heap.size ≤ b) → wpList P ops Q rest (a.put o.dst v') w') : wpList P ops Q (o :: rest) a w := by
  refine wpList_plain hgd fun K' hK2 => ?_
  obtain ⟨v', w', hr, h1, h2, h3⟩ := h.append t u o.type ht hu hinfo hl
  unfold Oper.wp execOp
  simp only [ho, resolve, invoke, builtin, Sem.run_bind, Sem.run_pure, Result.andThen_ok, List.map_toArray, List.map_cons, List.map_nil, hs, hx, hr]
  exact hK2 _ _ (hK v' w' h1 h2 h3)
end
end Go.Proofs.YtakhnkkcllfbjaaDoorX
end
section
namespace Go.Proofs.YtakhnkkcllfbjaaDoorX
open Go.RowKit Go.Proofs.YtakhnkkcllfbjaaDoorW.PrintWords Go.Proofs.YtakhnkkcllfbjaaDoorW.PrintLast Go.Proofs.YtakhnkkcllfbjaaDoorW.PrintMore
set_option linter.unusedVariables false
set_option linter.unusedSimpArgs false

abbrev Lay := Nm → Nat × Value
def ownF (p : Nat × Value) : List Nat := p.1 :: p.2.ownBlock.toList
def ownL (lay : Lay) (L : List AF) : List Nat := L.flatMap (fun f => ownF (lay f.name))
def mapL (lay : Lay) (L : List AF) (x : Nm) : Option (Option Nat) := if hasL x L = true then some (some (lay x).1) else none
def headD (m : Nat) (D : AD) : Array Value := #[.int .i64 D.size, .map (some m), .int .i64 D.used, .int .i64 D.armed, .bool D.down, .int .i64 D.steps]
def fileD (p : Nat × Value) (safe : Int) : Array Value := #[p.2, .int .i64 safe]
def FileAt (w : World) (p : Nat × Value) (f : AF) : Prop := w.heap[p.1]? = some (.cells (fileD p f.safe) 70 (0, 0)) ∧ RowB 5 w p.2 f.data
/-- No two of the disk's blocks are one. -/
structure Sep (a m : Nat) (lay : Lay) (L : List AF) : Prop where
  am : a ≠ m
  afar : ∀ f ∈ L, a ∉ ownF (lay f.name)
  mfar : ∀ f ∈ L, m ∉ ownF (lay f.name)
  self : ∀ f ∈ L, (lay f.name).1 ∉ (lay f.name).2.ownBlock.toList
  two : ∀ f ∈ L, ∀ g ∈ L, f.name ≠ g.name → ∀ k ∈ ownF (lay f.name), k ∉ ownF (lay g.name)
structure DK (w : World) (a m : Nat) (lay : Lay) (D : AD) : Prop where
  head : w.heap[a]? = some (.cells (headD m D) 64 (0, 0))
  map : MapP Tryd.prog 9 w m D.L.length (mapL lay D.L)
  file : ∀ f ∈ D.L, FileAt w (lay f.name) f
  sep : Sep a m lay D.L
  ok : D.Ok
/-- A disk at a, of the blocks S. -/
def Disk (w : World) (a : Nat) (S : List Nat) (D : AD) : Prop := ∃ m lay, DK w a m lay D ∧ S = a :: m :: ownL lay D.L

theorem FileAt.step {w w' : World} {p : Nat × Value} {f : AF} (h : FileAt w p f) (hb : ∀ k ∈ ownF p, w'.heap[k]? = w.heap[k]?) : FileAt w' p f :=
  ⟨(hb _ (by simp [ownF])).trans h.1, h.2.step (fun k hk => hb k (by simp only [ownF, List.mem_cons]; exact .inr hk))⟩
theorem FileAt.lt {w : World} {p : Nat × Value} {f : AF} (h : FileAt w p f) : ∀ k ∈ ownF p, k < w.heap.size := fun k hk => by
  simp only [ownF, List.mem_cons] at hk
  rcases hk with rfl | hk
  · exact blk_lt h.1
  · exact h.2.lt k hk
theorem mem_ownL {lay : Lay} {L : List AF} {k : Nat} : k ∈ ownL lay L ↔ ∃ f ∈ L, k ∈ ownF (lay f.name) := by simp [ownL, List.mem_flatMap]
theorem DK.lt {w : World} {a m : Nat} {lay : Lay} {D : AD} (h : DK w a m lay D) : ∀ k ∈ a :: m :: ownL lay D.L, k < w.heap.size := fun k hk => by
  simp only [List.mem_cons] at hk
  rcases hk with rfl | rfl | hk
  · exact blk_lt h.head
  · exact h.map.lt
  · obtain ⟨f, hf, hk⟩ := mem_ownL.1 hk
    exact (h.file f hf).lt k hk
theorem Disk.lt {w : World} {a : Nat} {S : List Nat} {D : AD} (h : Disk w a S D) : ∀ k ∈ S, k < w.heap.size := by
  obtain ⟨m, lay, hk, rfl⟩ := h
  exact hk.lt
theorem DK.step {w w' : World} {a m : Nat} {lay : Lay} {D : AD} (h : DK w a m lay D) (hb : ∀ k ∈ a :: m :: ownL lay D.L, w'.heap[k]? = w.heap[k]?) : DK w' a m lay D :=
  ⟨(hb _ (by simp)).trans h.head, h.map.step (hb _ (by simp)), fun f hf => (h.file f hf).step (fun k hk => hb k (by simp only [List.mem_cons]; exact .inr (.inr (mem_ownL.2 ⟨f, hf, hk⟩)))), h.sep, h.ok⟩
theorem DK.fr {w w' : World} {a m : Nat} {lay : Lay} {D : AD} {S : List Nat} (h : DK w a m lay D) (hf : Fr S w w') (hn : ∀ k ∈ a :: m :: ownL lay D.L, k ∉ S) : DK w' a m lay D :=
  h.step (fun k hk => hf.block k (h.lt k hk) (hn k hk))
theorem Disk.fr {w w' : World} {a : Nat} {S T : List Nat} {D : AD} (h : Disk w a T D) (hf : Fr S w w') (hn : ∀ k ∈ T, k ∉ S) : Disk w' a T D := by
  obtain ⟨m, lay, hk, rfl⟩ := h
  exact ⟨m, lay, hk.fr hf hn, rfl⟩
/-- The head alone has turned. -/
theorem DK.turn {w w' : World} {a m : Nat} {lay : Lay} {D D' : AD} (h : DK w a m lay D) (hf : Fr [a] w w') (hh : w'.heap[a]? = some (.cells (headD m D') 64 (0, 0))) (hL : D'.L = D.L) (hok : D'.Ok) : DK w' a m lay D' := by
  have hm : m ∉ [a] := by simp; exact fun e => h.sep.am e.symm
  refine ⟨hh, by rw [hL]; exact h.map.fr hf hm, fun f hf' => ?_, by rw [hL]; exact h.sep, hok⟩
  rw [hL] at hf'
  refine (h.file f hf').step (fun k hk => hf.block k ((h.file f hf').lt k hk) ?_)
  simp only [List.mem_singleton]
  rintro rfl
  exact h.sep.afar f hf' hk
/-- Files are taken away, or their cells stay. -/
theorem DK.less {w w' : World} {a m : Nat} {lay : Lay} {D D' : AD} (h : DK w a m lay D) (hh : w'.heap[a]? = some (.cells (headD m D') 64 (0, 0))) (hm : MapP Tryd.prog 9 w' m D'.L.length (mapL lay D'.L)) (hL : ∀ q ∈ D'.L, q ∈ D.L) (hok : D'.Ok)
    (hb : ∀ q ∈ D'.L, ∀ k ∈ ownF (lay q.name), w'.heap[k]? = w.heap[k]?) : DK w' a m lay D' ∧ ∀ k ∈ ownL lay D'.L, k ∈ ownL lay D.L :=
  ⟨⟨hh, hm, fun f hf => (h.file f (hL f hf)).step (hb f hf), ⟨h.sep.am, fun f hf => h.sep.afar f (hL f hf), fun f hf => h.sep.mfar f (hL f hf), fun f hf => h.sep.self f (hL f hf), fun f hf g hg => h.sep.two f (hL f hf) g (hL g hg)⟩, hok⟩,
   fun k hk => by obtain ⟨f, hf, hk⟩ := mem_ownL.1 hk; exact mem_ownL.2 ⟨f, hL f hf, hk⟩⟩
def setLay (lay : Lay) (x : Nm) (p : Nat × Value) : Lay := fun y => if y = x then p else lay y
/-- One file is put under a name x, of new blocks and of those that the file z had. -/
theorem DK.one {w w' : World} {a m : Nat} {lay : Lay} {D D' : AD} (h : DK w a m lay D) (f' : AF) (z : Nm) (p : Nat × Value)
    (hh : w'.heap[a]? = some (.cells (headD m D') 64 (0, 0))) (hm : MapP Tryd.prog 9 w' m D'.L.length (mapL (setLay lay f'.name p) D'.L)) (hok : D'.Ok)
    (hL : ∀ q ∈ D'.L, q = f' ∨ (q ∈ D.L ∧ q.name ≠ f'.name ∧ q.name ≠ z)) (hat : FileAt w' p f')
    (hb : ∀ q ∈ D.L, q.name ≠ f'.name → q.name ≠ z → ∀ k ∈ ownF (lay q.name), w'.heap[k]? = w.heap[k]?)
    (hp : ∀ k ∈ ownF p, w.heap.size ≤ k ∨ ((∃ g ∈ D.L, g.name = z) ∧ k ∈ ownF (lay z))) (hself : p.1 ∉ p.2.ownBlock.toList) :
    DK w' a m (setLay lay f'.name p) D' ∧ ∀ k ∈ ownL (setLay lay f'.name p) D'.L, k ∈ ownL lay D.L ∨ w.heap.size ≤ k := by
  have e1 : setLay lay f'.name p f'.name = p := if_pos rfl
  have e2 : ∀ {q : AF}, q.name ≠ f'.name → setLay lay f'.name p q.name = lay q.name := fun hq => if_neg hq
  have hnew : ∀ k ∈ ownF p, ∀ q ∈ D.L, q.name ≠ z → k ∉ ownF (lay q.name) := fun k hk q hq hz hk2 => by
    rcases hp k hk with h1 | ⟨⟨g, hg, rfl⟩, h1⟩
    · have := (h.file q hq).lt k hk2; omega
    · exact h.sep.two g hg q hq (fun e => hz e.symm) k h1 hk2
  refine ⟨⟨hh, hm, fun q hq => ?_, ⟨h.sep.am, fun q hq => ?_, fun q hq => ?_, fun q hq => ?_, fun q hq g hg hne k hk => ?_⟩, hok⟩, fun k hk => ?_⟩
  · rcases hL q hq with rfl | ⟨h1, h2, h3⟩
    · rw [e1]; exact hat
    · rw [e2 h2]; exact (h.file q h1).step (hb q h1 h2 h3)
  · rcases hL q hq with rfl | ⟨h1, h2, h3⟩
    · rw [e1]
      intro hk
      rcases hp a hk with h1 | ⟨⟨g, hg, rfl⟩, h1⟩
      · have := blk_lt h.head; omega
      · exact h.sep.afar g hg h1
    · rw [e2 h2]; exact h.sep.afar q h1
  · rcases hL q hq with rfl | ⟨h1, h2, h3⟩
    · rw [e1]
      intro hk
      rcases hp m hk with h1 | ⟨⟨g, hg, rfl⟩, h1⟩
      · have := h.map.lt; omega
      · exact h.sep.mfar g hg h1
    · rw [e2 h2]; exact h.sep.mfar q h1
  · rcases hL q hq with rfl | ⟨h1, h2, h3⟩
    · rw [e1]; exact hself
    · rw [e2 h2]; exact h.sep.self q h1
  · rcases hL q hq with rfl | ⟨h1, h2, h3⟩
    · rw [e1] at hk
      rcases hL g hg with rfl | ⟨k1, k2, k3⟩
      · exact absurd rfl hne
      · rw [e2 k2]; exact hnew k hk g k1 k3
    · rw [e2 h2] at hk
      rcases hL g hg with rfl | ⟨k1, k2, k3⟩
      · rw [e1]; exact fun hk2 => hnew k hk2 q h1 h3 hk
      · rw [e2 k2]; exact h.sep.two q h1 g k1 hne k hk
  · obtain ⟨q, hq, hk⟩ := mem_ownL.1 hk
    rcases hL q hq with rfl | ⟨h1, h2, h3⟩
    · rw [e1] at hk
      rcases hp k hk with h1 | ⟨⟨g, hg, rfl⟩, h1⟩
      · exact .inr h1
      · exact .inl (mem_ownL.2 ⟨g, hg, h1⟩)
    · rw [e2 h2] at hk
      exact .inl (mem_ownL.2 ⟨q, h1, hk⟩)
theorem head_cells {w : World} {a m : Nat} {D : AD} (h : w.heap[a]? = some (.cells (headD m D) 64 (0, 0))) :
    w.cell? ⟨a, 0, none⟩ = some (.int .i64 D.size) ∧ w.cell? ⟨a, 1, none⟩ = some (.map (some m)) ∧ w.cell? ⟨a, 2, none⟩ = some (.int .i64 D.used) ∧ w.cell? ⟨a, 3, none⟩ = some (.int .i64 D.armed) ∧ w.cell? ⟨a, 4, none⟩ = some (.bool D.down) ∧ w.cell? ⟨a, 5, none⟩ = some (.int .i64 D.steps) :=
  ⟨by rw [blk_cell h]; rfl, by rw [blk_cell h]; rfl, by rw [blk_cell h]; rfl, by rw [blk_cell h]; rfl, by rw [blk_cell h]; rfl, by rw [blk_cell h]; rfl⟩
theorem file_cells {w : World} {p : Nat × Value} {f : AF} (h : FileAt w p f) : w.cell? ⟨p.1, 0, none⟩ = some p.2 ∧ w.cell? ⟨p.1, 1, none⟩ = some (.int .i64 f.safe) :=
  ⟨by rw [blk_cell h.1]; rfl, by rw [blk_cell h.1]; rfl⟩
theorem used_pos (D : AD) : 0 ≤ D.used := by unfold AD.used; omega
end Go.Proofs.YtakhnkkcllfbjaaDoorX
end
