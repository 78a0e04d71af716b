/- Several texts in one: TX, TI, TJS, TJN, TKS, TKN, TY, TN; no conditions beyond those in each theorem's head. -/
import Derived.Test.YtmomohljnmopfaaX0
import Derived.Test.YtmomohljnmopfaaProg
import Derived.Lib.SliceRun
import Derived.Lib.Overlaps
import Derived.Lib.AppendZerosOnto
import Derived.Laws.IdiomCopy
import Derived.OwnWalk
import Derived.Below
import Derived.Deep.Draws
import Derived.Deep.AppendLies
import Derived.Laws.MakeOwn
import Derived.Laws.OwnMore
import Derived.Deep.OwnRows
import Derived.Tactics
import Derived.Laws.Slices
import Derived.WalkKit
import Derived.KernelRfl
import Derived.RowKit3
import Derived.Deep.LoopGhost
import Derived.Deep.QuietTactic
import Derived.BigQuiet
import Derived.WideLaws
import Derived.Deep.DeepCutAuto
import Derived.Deep.CutBlock
import Derived.Deep.RegionHeld3
import Derived.Laws.Rows
import Derived.ArgAppend
import Derived.OrdersHeld
import Derived.RowKit
import Derived.Test.YtmomohljnmopfaaMA
import Derived.Lib.AppendZeros
import Derived.Laws.Externs
import Derived.Deep.RegionLaw
import Derived.Laws.NewBlocks
import Derived.Sort.Walk0
section
namespace Go.Proofs.YtmomohljnmopfaaX
open Go.RowKit Go.Proofs.YtmomohljnmopfaaW.PrintWords Go.Proofs.YtmomohljnmopfaaW.PrintLast Go.Proofs.YtmomohljnmopfaaW.PrintMore
set_option linter.unusedVariables false
set_option linter.unusedSimpArgs false
/-- All but the blocks of S, and what is new, is as it was. -/
structure Fr (S : List Nat) (w w' : World) : Prop where
  os : w'.os = w.os
  tape : w'.tape = w.tape
  output : w'.output = w.output
  size : w.heap.size ≤ w'.heap.size
  block : ∀ k, k < w.heap.size → k ∉ S → w'.heap[k]? = w.heap[k]?
namespace Fr
variable {S T : List Nat} {a b c w w' : World}
theorem refl (S : List Nat) (w : World) : Fr S w w := ⟨rfl, rfl, rfl, Nat.le_refl _, fun _ _ _ => rfl⟩
theorem trans (h : Fr S a b) (k : Fr T b c) (hs : ∀ x ∈ T, x ∈ S ∨ a.heap.size ≤ x) : Fr S a c :=
  ⟨k.os.trans h.os, k.tape.trans h.tape, k.output.trans h.output, Nat.le_trans h.size k.size, fun x hx hn => by
    rw [k.block x (Nat.lt_of_lt_of_le hx h.size) (fun hT => (hs x hT).elim hn (fun h9 => absurd hx (Nat.not_lt.2 h9))), h.block x hx hn]⟩
theorem of_below (h : Below w.heap.size w w') (S : List Nat) : Fr S w w' := ⟨h.os, h.tape, h.output, h.size, fun k hk _ => h.block k hk⟩
theorem below (h : Fr S w w') (hS : ∀ x ∈ S, w.heap.size ≤ x) : Below w.heap.size w w' :=
  ⟨h.os, h.tape, h.output, h.size, fun k hk => h.block k hk (fun hx => absurd hk (Nat.not_lt.2 (hS k hx)))⟩
theorem below_base {B : Nat} (h : Fr S w w') (hS : ∀ x ∈ S, B ≤ x) (hB : B ≤ w.heap.size) : Below B w w' :=
  ⟨h.os, h.tape, h.output, h.size, fun k hk => h.block k (Nat.lt_of_lt_of_le hk hB) (fun hx => absurd hk (Nat.not_lt.2 (hS k hx)))⟩
theorem drew (h : Fr S a w) : Fr S a w.drew := ⟨h.os, h.tape, h.output, h.size, h.block⟩
theorem drewN (h : Fr S a w) (n : Nat) : Fr S a (w.drewN n) := ⟨h.os, h.tape, h.output, h.size, h.block⟩
theorem alloc (h : Fr S a w) (o : Obj) : Fr S a (w.alloc o) := h.trans (of_below (below_alloc (Below.refl _ _) o) []) (fun _ hx => by cases hx)
theorem setCell (h : Fr S a w) {p : Addr} (hp : p.block ∈ S ∨ a.heap.size ≤ p.block) (u : Value) : Fr S a (w.setCell p u) := by
  refine h.trans (T := [p.block]) ⟨rfl, rfl, rfl, by simp, fun k _ hn => ?_⟩ (fun x hx => by simp only [List.mem_singleton] at hx; rw [hx]; exact hp)
  exact Below.heap_setCell _ _ _ _ (fun e => hn (by rw [e]; simp))
theorem grown {row : Option Nat} (h : Fr S a w) (hg : w.grownBy w' row) (hr : ∀ k, row = some k → k ∈ S ∨ a.heap.size ≤ k) : Fr S a w' :=
  h.trans (T := row.toList) ⟨hg.os, hg.tape, hg.output, hg.size, fun k hk hn => hg.block k hk (fun e => hn (by rw [← e]; simp))⟩ (fun x hx => hr x (by cases row <;> simp_all))
theorem mono (h : Fr S a w) (hs : ∀ x ∈ S, x ∈ T) : Fr T a w := ⟨h.os, h.tape, h.output, h.size, fun k hk hn => h.block k hk (fun hx => hn (hs k hx))⟩
theorem blk {g : Nat} {o : Obj} (h : Fr S w w') (hb : w.heap[g]? = some o) (hn : g ∉ S) : w'.heap[g]? = some o := (h.block g (blk_lt hb) hn).trans hb
end Fr
theorem add_lit0 (g j : Nat) : (⟨g, 0, none⟩ : Addr).add j = ⟨g, j, none⟩ := by unfold Addr.add; split <;> simp_all
/-- A row of one's own: elements of one cell, of the type e. -/
def RowV (e : TypeId) (w : World) (v : Value) (xs : List Value) : Prop :=
  (v = .slice none 0 0 ∧ xs = []) ∨ ∃ g cap cur, v = .slice (some ⟨g, 0, none⟩) xs.length cap ∧ w.heap[g]? = some (.cells cur e (0, 0)) ∧ xs.length ≤ cap ∧ cap ≤ cur.size ∧ cap ≤ maxLen ∧ cur.toList.take xs.length = xs ∧ ∀ u ∈ xs, u.oneCell' = true
/-- Where elements are read. -/
def SrcV (w : World) (A : Option Addr) (xs : List Value) : Prop := xs ≠ [] → ∃ ad, A = some ad ∧ ∀ j u, xs[j]? = some u → w.cell? (ad.add j) = some u
section
variable {e : TypeId} {w w' : World} {v : Value} {xs ys : List Value}
theorem RowV.one (h : RowV e w v xs) : ∀ u ∈ xs, u.oneCell' = true := by
  rcases h with ⟨_, rfl⟩ | ⟨g, cap, cur, _, _, _, _, _, _, h⟩
  · intro u hu; cases hu
  · exact h
theorem RowV.lt (h : RowV e w v xs) : ∀ k ∈ v.ownBlock.toList, k < w.heap.size := fun k hk => by
  rcases h with ⟨rfl, _⟩ | ⟨g, cap, cur, rfl, hg, _⟩
  · simp [Value.ownBlock] at hk
  · simp [Value.ownBlock] at hk
    subst hk
    exact blk_lt hg
theorem RowV.step (h : RowV e w v xs) (hb : ∀ k ∈ v.ownBlock.toList, w'.heap[k]? = w.heap[k]?) : RowV e w' v xs := by
  rcases h with h | ⟨g, cap, cur, rfl, hg, r⟩
  · exact .inl h
  · exact .inr ⟨g, cap, cur, rfl, (hb g (by simp [Value.ownBlock])).trans hg, r⟩
theorem RowV.below (h : RowV e w v xs) (hb : Below w.heap.size w w') : RowV e w' v xs := h.step (fun k hk => hb.block k (h.lt k hk))
theorem RowV.fr {S : List Nat} (h : RowV e w v xs) (hf : Fr S w w') (hn : ∀ k ∈ v.ownBlock.toList, k ∉ S) : RowV e w' v xs := h.step (fun k hk => hf.block k (h.lt k hk) (hn k hk))
theorem RowV.nil (e : TypeId) (w : World) : RowV e w (.slice none 0 0) [] := .inl ⟨rfl, rfl⟩
theorem RowV.shape (h : RowV e w v xs) : ∃ A c, v = .slice A xs.length c ∧ xs.length ≤ c ∧ c ≤ maxLen := by
  rcases h with ⟨rfl, rfl⟩ | ⟨g, cap, cur, rfl, _, h1, h2, h3, _⟩
  · exact ⟨none, 0, rfl, Nat.le_refl _, by simp [maxLen]⟩
  · exact ⟨_, cap, rfl, h1, h3⟩
theorem RowV.at (h : RowV e w v xs) {i : Nat} {u : Value} (hi : xs[i]? = some u) : ∃ g c, v = .slice (some ⟨g, 0, none⟩) xs.length c ∧ w.cell? ⟨g, i, none⟩ = some u ∧ (∀ j, w.frozen? ⟨g, j, none⟩ = false) ∧ xs.length ≤ c := by
  have hl := (List.getElem?_eq_some_iff.1 hi).1
  rcases h with ⟨_, rfl⟩ | ⟨g, cap, cur, rfl, hg, h1, h2, h3, h4, _⟩
  · cases hl
  · refine ⟨g, cap, rfl, ?_, fun j => blk_frozen hg j, h1⟩
    rw [← h4, List.getElem?_take, if_pos hl, Array.getElem?_toList] at hi
    rw [cell_of_row w g i cur e (0, 0) hg, hi]
theorem RowV.src (h : RowV e w v xs) {A : Option Addr} {n c : Nat} (hv : v = .slice A n c) : SrcV w A xs := fun hne => by
  rcases h with ⟨_, rfl⟩ | ⟨g, cap, cur, h0, hg, h1, h2, h3, h4, _⟩
  · exact absurd rfl hne
  · rw [hv] at h0
    cases h0
    refine ⟨_, rfl, fun j u hj => ?_⟩
    have hl := (List.getElem?_eq_some_iff.1 hj).1
    rw [add_lit0]
    rw [← h4, List.getElem?_take, if_pos hl, Array.getElem?_toList] at hj
    rw [cell_of_row w g j cur e (0, 0) hg, hj]
/-- v[:k], and v[:k:k] -/
theorem RowV.cut (h : RowV e w v xs) {A : Option Addr} {n c : Nat} (hv : v = .slice A n c) {k c' : Nat} (hk : k ≤ xs.length) (hc : c' = c ∨ c' = k) : RowV e w (.slice A k c') (xs.take k) := by
  rcases h with ⟨h1, rfl⟩ | ⟨g, cap, cur, h0, hg, h1, h2, h3, h4, h5⟩
  · rw [hv] at h1
    cases h1
    obtain rfl : k = 0 := by simpa using hk
    rcases hc with rfl | rfl <;> exact .inl ⟨rfl, rfl⟩
  · rw [hv] at h0
    cases h0
    have e1 : (xs.take k).length = k := by rw [List.length_take]; omega
    refine .inr ⟨g, c', cur, by rw [e1], hg, by omega, by omega, by omega, ?_, fun u hu => h5 u (List.mem_of_mem_take hu)⟩
    rw [e1, ← h4, List.take_take, Nat.min_eq_left hk]
/-- v[i] = u -/
theorem RowV.put {g n c : Nat} (h : RowV e w (.slice (some ⟨g, 0, none⟩) n c) xs) {i : Nat} (hi : i < xs.length) {u : Value} (hu : u.oneCell' = true) : RowV e (w.setCell ⟨g, i, none⟩ u) (.slice (some ⟨g, 0, none⟩) n c) (xs.set i u) := by
  rcases h with ⟨h1, rfl⟩ | ⟨g', cap, cur, h0, hg, h1, h2, h3, h4, h5⟩
  · cases hi
  · cases h0
    refine .inr ⟨g, c, cur.setIfInBounds i u, by rw [List.length_set], blk_put hg i u rfl, by rw [List.length_set]; exact h1, by rw [Array.size_setIfInBounds]; exact h2, h3, ?_, fun q hq => ?_⟩
    · rw [List.length_set, Array.toList_setIfInBounds, List.take_set, h4]
    · rcases List.mem_or_eq_of_mem_set hq with hq | rfl
      · exact h5 q hq
      · exact hu
theorem row_made {xs : List Value} (w : World) (e : TypeId) (zs : List Value) (cap : Nat) (h1 : ∀ u ∈ xs, u.oneCell' = true) (hc : cap ≤ maxLen) (hl : xs.length ≤ cap) (hz : cap ≤ xs.length + zs.length) :
    RowV e (w.alloc (.cells (xs ++ zs).toArray e)) (.slice (some ⟨w.heap.size, 0, none⟩) xs.length cap) xs :=
  .inr ⟨w.heap.size, cap, _, rfl, blk_new w _, hl, by simpa using hz, hc, by simp, h1⟩
/-- append(v, ys...) -/
theorem RowV.append {P : Program} (h : RowV e w v xs) (t ty : TypeId) (ht : P.underlying t = some (.slice e)) {z : Value} {bytes : Nat} (hinfo : (P.info? e).map (fun i => (i.zero, i.size, i.bytes)) = some (some z, 1, bytes)) (hz1 : z.cells.size = 1) (hb0 : 0 < bytes)
    {A : Option Addr} {c : Nat} (hsrc : SrcV w A ys) (h1 : ∀ u ∈ ys, u.oneCell' = true) (hl : (xs.length + ys.length) * bytes ≤ 140737488355328) :
    ∃ v' w', (Builtin.append_ #[t, t] ty #[v, .slice A ys.length c]).run P w = .ok v' w' ∧ RowV e w' v' (xs ++ ys) ∧ w.grownBy w' v.ownBlock ∧ (v'.ownBlock = v.ownBlock ∨ ∃ b, v'.ownBlock = some b ∧ w.heap.size ≤ b) := by
  obtain ⟨i, hi, hzz⟩ := Option.map_eq_some_iff.1 hinfo
  simp only [Prod.mk.injEq] at hzz
  obtain ⟨hz, hsize, hby⟩ := hzz
  have hlen : xs.length + ys.length ≤ 140737488355328 := Nat.le_trans (Nat.le_mul_of_pos_right _ hb0) hl
  have hm : xs.length + ys.length ≤ maxLen := by simp only [maxLen]; omega
  have h1' : ∀ u ∈ xs ++ ys, u.oneCell' = true := fun u hu => (List.mem_append.1 hu).elim (h.one u) (h1 u)
  by_cases hy : ys = []
  · subst hy
    refine ⟨v, w, ?_, by rw [List.append_nil]; exact h, World.grownBy.refl w _, .inl rfl⟩
    rcases h with ⟨rfl, rfl⟩ | ⟨g, cap, cur, rfl, hg, h2, _⟩
    · cases A with
      | none => simp [Builtin.append_, run_underlying ht, sizeOf, typeInfo, hi, Builtin.lenOf, Builtin.firstCells]
      | some ad =>
        have hf := run_firstCells_some (P := P) w i.size 0 ad 0 c [] (by simp) (by simp)
        simp [Builtin.append_, run_underlying ht, sizeOf, typeInfo, hi, Builtin.lenOf, hf]
    · cases A with
      | none => simp [Builtin.append_, run_underlying ht, sizeOf, typeInfo, hi, Builtin.lenOf, Builtin.firstCells, h2, storeCells]
      | some ad =>
        have hf := run_firstCells_some (P := P) w i.size 0 ad 0 c [] (by simp) (by simp)
        simp [Builtin.append_, run_underlying ht, sizeOf, typeInfo, hi, Builtin.lenOf, hf, h2, storeCells]
  · obtain ⟨ad, rfl, hcell⟩ := hsrc hy
    have hpos : 0 < ys.length := List.length_pos_iff.2 hy
    have grown : ∀ (old : Nat) (row : Option Nat),
        RowV e (w.drew.alloc (.cells (xs.toArray ++ ys.toArray ++ Builtin.zeroCells z.cells (grownCap w (xs.length + ys.length) old e - (xs.length + ys.length))) e)) (.slice (some ⟨w.heap.size, 0, none⟩) (xs.length + ys.length) (grownCap w (xs.length + ys.length) old e)) (xs ++ ys) ∧
        w.grownBy (w.drew.alloc (.cells (xs.toArray ++ ys.toArray ++ Builtin.zeroCells z.cells (grownCap w (xs.length + ys.length) old e - (xs.length + ys.length))) e)) row := by
      intro old row
      have hge := grownCap_ge w (xs.length + ys.length) old e
      have hsz : (xs ++ ys).length = xs.length + ys.length := List.length_append
      refine ⟨.inr ⟨w.heap.size, _, _, by rw [hsz], heap_alloc_new w.drew _, by omega, ?_, grownCap_le_maxLen w _ old e hm, ?_, h1'⟩, ⟨rfl, rfl, rfl, by simp, fun k hk _ => Below.heap_alloc w.drew _ k hk⟩⟩
      · simp only [Array.size_append, List.size_toArray, size_zeroCells, hz1]
        omega
      · simp only [Array.toList_append]
        rw [List.take_append_of_le_length (Nat.le_refl _), List.take_of_length_le (Nat.le_refl _)]
    rcases h with ⟨rfl, rfl⟩ | ⟨g, cap, cur, rfl, hg, h2, h3, h4, h5, h6⟩
    · have hr := run_append_nil (P := P) (w := w) t ty e i z ht hi hz ad ys.length c ys (by rw [hsize, Nat.mul_one]) hcell hpos (by omega) (by rw [hby]; simp only [List.length_nil, Nat.zero_add] at hl; omega)
      have hgr := grown 0 (Value.ownBlock (.slice none 0 0))
      simp only [List.length_nil, Nat.zero_add, List.nil_append, Array.empty_append] at hgr ⊢
      exact ⟨_, _, hr, hgr.1, hgr.2, .inr ⟨_, rfl, Nat.le_refl _⟩⟩
    · by_cases hroom : xs.length + ys.length ≤ cap
      · have hr := run_append_room (P := P) (w := w) t ty e i ht hi g xs.length cap cur hg ad ys.length c ys (by rw [hsize, Nat.mul_one]) hcell h1 hroom (by rw [hsize, Nat.mul_one]; omega)
        rw [hsize, Nat.mul_one] at hr
        refine ⟨_, _, hr, .inr ⟨g, cap, _, by rw [List.length_append], setRow_heap w g cur _ e _ hg, by rw [List.length_append]; exact hroom, ?_, h4, ?_, h1'⟩, ⟨rfl, rfl, rfl, by simp, fun k _ hk => setRow_other w g k _ (fun e => hk (by simp [Value.ownBlock, e]))⟩, .inl rfl⟩
        · simp only [List.size_toArray, List.length_append, List.length_take, List.length_drop, Array.length_toList]
          omega
        · simp only
          rw [h5, List.take_append_of_le_length (by rw [List.length_append]; exact Nat.le_refl _), List.take_of_length_le (Nat.le_refl _)]
      · have holds : ∀ j u, xs[j]? = some u → w.cell? ((⟨g, 0, none⟩ : Addr).add j) = some u := fun j u hj => by
          have hjl := (List.getElem?_eq_some_iff.1 hj).1
          rw [← h5, List.getElem?_take, if_pos hjl, Array.getElem?_toList] at hj
          rw [add_lit0, cell_of_row w g j cur e (0, 0) hg, hj]
        have hr := run_append_grow (P := P) (w := w) t ty e i z ht hi hz ⟨g, 0, none⟩ xs.length cap xs (by rw [hsize, Nat.mul_one]) holds ad ys.length c ys (by rw [hsize, Nat.mul_one]) hcell (by omega) (by omega) (by rw [hby]; exact growslice_fits (by omega) hl)
        have hgr := grown cap (Value.ownBlock (.slice (some ⟨g, 0, none⟩) xs.length cap))
        exact ⟨_, _, hr, hgr.1, hgr.2, .inr ⟨_, rfl, Nat.le_refl _⟩⟩
end
section
variable {P : Program} {ops : Array Oper} {rest : List Oper} {o : Oper} {a : Act} {Q : Exit → Act → World → Prop} {e : TypeId} {w : World} {v : Value} {xs ys : List Value}
theorem wp_rowv_append (hgd : o.guard = none) (sl x : Operand) (t : TypeId) (ho : o.op = .call { callee := .builtin .append, args := #[sl, x], argTypes := #[t, t] }) (h : RowV e w v xs)
    (ht : P.underlying t = some (.slice e)) {z : Value} {bytes : Nat} (hinfo : (P.info? e).map (fun i => (i.zero, i.size, i.bytes)) = some (some z, 1, bytes)) (hz1 : z.cells.size = 1) (hb0 : 0 < bytes)
    {A : Option Addr} {c : Nat} (hsrc : SrcV w A ys) (h1 : ∀ u ∈ ys, u.oneCell' = true) (hs : a.eval sl = v) (hx : a.eval x = .slice A ys.length c) (hl : (xs.length + ys.length) * bytes ≤ 140737488355328)
    (hK : ∀ v' w', RowV e w' v' (xs ++ ys) → w.grownBy w' v.ownBlock → (v'.ownBlock = v.ownBlock ∨ ∃ b, v'.ownBlock = some b ∧ w.heap.size ≤ b) → wpList P ops Q rest (a.put o.dst v') w') : wpList P ops Q (o :: rest) a w := by
  refine wpList_plain hgd fun K' hK2 => ?_
  obtain ⟨v', w', hr, h1, h2, h3⟩ := h.append t o.type ht hinfo hz1 hb0 hsrc h1 (c := c) hl
  unfold Oper.wp execOp
  simp only [ho, resolve, invoke, builtin, Sem.run_bind, Sem.run_pure, Result.andThen_ok, List.map_toArray, List.map_cons, List.map_nil, hs, hx, hr]
  exact hK2 _ _ (hK v' w' h1 h2 h3)
end
end Go.Proofs.YtmomohljnmopfaaX
end
section
namespace Go.Proofs.YtmomohljnmopfaaX
open Go.RowKit Go.Lib Go.Proofs.YtmomohljnmopfaaW.PrintWords Go.Proofs.YtmomohljnmopfaaW.PrintLast Go.Proofs.YtmomohljnmopfaaW.PrintMore
set_option linter.unusedVariables false
set_option linter.unusedSimpArgs false
section
variable {P : Program} {e : TypeId}
theorem copy_rowv {w : World} {g : Nat} {cur : Array Value} (hg : w.heap[g]? = some (.cells cur e (0, 0))) (t ty : TypeId) (ht : P.underlying t = some (.slice e)) (hsz : (P.info? e).map (·.size) = some 1) (o dLen dCap : Nat) (a : Addr) (sLen sCap : Nat) (cs : List Value)
    (hn : cs.length = Nat.min sLen dLen) (hsrc : ∀ j v, cs[j]? = some v → w.cell? (a.add j) = some v) (h1 : ∀ v ∈ cs, v.oneCell' = true) (hfit : o + cs.length ≤ cur.size) :
    (Builtin.copy_ #[t, t] ty #[.slice (some ⟨g, o, none⟩) dLen dCap, .slice (some a) sLen sCap]).run P w = .ok (goInt cs.length) (w.setCells g o cs) ∧ (∃ cur', (w.setCells g o cs).heap[g]? = some (.cells cur' e (0, 0)) ∧ cur'.size = cur.size ∧ cur'.toList = cur.toList.take o ++ cs ++ cur.toList.drop (o + cs.length)) ∧ w.grownBy (w.setCells g o cs) (some g) := by
  obtain ⟨s1, s2, s3, s4⟩ := setCells_same g cs o w
  refine ⟨_root_.Go.run_copy_cells w t t ty e g o dLen dCap a sLen sCap cs ht hsz hn hsrc (fun j hj => ?_) (fun j hj => blk_frozen hg _) h1, setCells_row cs o w cur hg hfit, ⟨s1, s2, s3, by rw [s4]; exact Nat.le_refl _, fun k hk hne => setCells_far cs o k (fun e9 => hne (by rw [e9]))⟩⟩
  rw [cell_of_row w g (o + j) cur e (0, 0) hg, Array.getElem?_eq_getElem (by omega)]
  rfl
theorem wp_copy_run {w : World} {ops : Array Oper} {rest : List Oper} {o : Oper} {a : Act} {Q : Exit → Act → World → Prop} (hgd : o.guard = none) (d s : Operand) (t t' : TypeId)
    (ho : o.op = .call { callee := .builtin .copy, args := #[d, s], argTypes := #[t, t'] }) (v u : Value) (hd : a.eval d = v) (hs : a.eval s = u) {v' : Value} {w' : World}
    (hr : (Builtin.copy_ #[t, t'] o.type #[v, u]).run P w = .ok v' w') (h : wpList P ops Q rest (a.put o.dst v') w') : wpList P ops Q (o :: rest) a w :=
  wpList_plain hgd fun K hK => by
    unfold Oper.wp execOp
    simp only [ho, resolve, invoke, builtin, Sem.run_bind, Sem.run_pure, Result.andThen_ok, List.map_toArray, List.map_cons, List.map_nil, hd, hs, hr]
    exact hK _ _ h
theorem step_copy_run {ops : Array Oper} {o : Oper} {a : Act} {w : World} {K : Act → World → Prop} {Q : Exit → Act → World → Prop} {E : Prop}
    (hg : o.guard = none) (d x : Operand) (dT sT : TypeId) (hop : o.op = Op.call { callee := Callee.builtin Builtin.copy, args := #[d, x], argTypes := #[dT, sT] })
    (v u : Value) (hd : a.eval d = v) (hx : a.eval x = u) {v' : Value} {w' : World} (hr : (Builtin.copy_ #[dT, sT] o.type #[v, u]).run P w = .ok v' w') (hK : K (a.put o.dst v') w') :
    if Region.wanted o (yielded ops a.tmps) = true then Oper.wp P o a w K Q else E := by
  have hw : Region.wanted o (yielded ops a.tmps) = true := by simp [Region.wanted, hg]
  rw [if_pos hw]
  unfold Oper.wp
  simp [execOp, hop, resolve, invoke, builtin, hd, hx, hr, Result.andThen]
  exact hK
/-- What a shift by one leaves. -/
theorem ins_cells {cur c1 c2 : List Value} {xs : List Value} {i : Nat} {u : Value} (hx : cur.take xs.length = xs) (hi : i < xs.length) (hl : xs.length + 1 ≤ cur.length)
    (h1 : c1 = cur.take (i + 1) ++ xs.drop i ++ cur.drop (i + 1 + (xs.drop i).length)) (h2 : c2 = c1.take i ++ [u] ++ c1.drop (i + 1)) : c2.take (insAt i u xs).length = insAt i u xs := by
  have e1 : (cur.take (i + 1)).length = i + 1 := by rw [List.length_take]; omega
  have e2 : c1.take i = xs.take i := by
    rw [h1, List.append_assoc, List.take_append_of_le_length (by rw [e1]; omega), List.take_take, Nat.min_eq_left (by omega), ← hx, List.take_take, Nat.min_eq_left (by omega)]
  have e3 : c1.drop (i + 1) = xs.drop i ++ cur.drop (i + 1 + (xs.drop i).length) := by
    rw [h1, List.append_assoc, List.drop_append_of_le_length (by rw [e1]; exact Nat.le_refl _), List.drop_of_length_le (by rw [e1]; exact Nat.le_refl _), List.nil_append]
  have e4 : c2 = insAt i u xs ++ cur.drop (i + 1 + (xs.drop i).length) := by
    rw [h2, e2, e3]
    unfold insAt
    simp only [List.append_assoc, List.singleton_append, List.cons_append, List.nil_append]
  rw [e4, List.take_left]
theorem insAt_len {α : Type} {i : Nat} {u : α} {xs : List α} (hi : i ≤ xs.length) : (insAt i u xs).length = xs.length + 1 := by
  unfold insAt
  rw [List.length_append, List.length_cons, List.length_take, List.length_drop]; omega
theorem mem_insAt {α : Type} {i : Nat} {u x : α} {xs : List α} (h : x ∈ insAt i u xs) : x = u ∨ x ∈ xs := by
  unfold insAt at h
  rcases List.mem_append.1 h with h | h
  · exact .inr (List.mem_of_mem_take h)
  · rcases List.mem_cons.1 h with h | h
    · exact .inl h
    · exact .inr (List.mem_of_mem_drop h)
end
theorem shape_cells {w : World} {g : Nat} {cur : Array Value} {e : TypeId} (h : w.heap[g]? = some (.cells cur e (0, 0))) : w.shape? g = some (e, cur.size) := by
  simp [World.shape?, h]
theorem eqlNil71 (w : World) (a : Option Addr) (n c : Nat) : (binOp .eql 71 (.slice a n c) (.slice none 0 0)).run Try.prog w = .ok (.bool a.isNone) w := Lib.run_eql_slice_nil w 71 9 a n c 0 0 Try.underlying71
theorem eqlNil72 (w : World) (a : Option Addr) (n c : Nat) : (binOp .eql 72 (.slice a n c) (.slice none 0 0)).run Try.prog w = .ok (.bool a.isNone) w := Lib.run_eql_slice_nil w 72 70 a n c 0 0 Try.underlying72
end Go.Proofs.YtmomohljnmopfaaX
end
section
namespace Go.Proofs.YtmomohljnmopfaaX
open Go.RowKit Go.Lib Go.Proofs.YtmomohljnmopfaaW.PrintWords Go.Proofs.YtmomohljnmopfaaW.PrintLast Go.Proofs.YtmomohljnmopfaaW.PrintMore
set_option linter.unusedVariables false
set_option linter.unusedSimpArgs false
theorem infoS : (Try.prog.info? 9).map (fun i => (i.zero, i.size, i.bytes)) = some (some (.string ⟨#[]⟩), 1, 16) := by kernel_rfl
theorem sizeS : (Try.prog.info? 9).map (·.size) = some 1 := by kernel_rfl
/-- What an Insert leaves. -/
def InsS (w : World) (v : Value) (ys : List Value) (e : Ending) (w' : World) : Prop := ∃ v', e = .returned v' ∧ RowV 9 w' v' ys ∧ w.grownBy w' v.ownBlock ∧ (v'.ownBlock = v.ownBlock ∨ ∃ b, v'.ownBlock = some b ∧ w.heap.size ≤ b)
set_option maxRecDepth 100000 in
set_option maxHeartbeats 8000000 in
theorem insEndS {w : World} {v u : Value} {xs : List Value} {vb : Nat} (h : RowV 9 w v xs) (hu : u.oneCell' = true) (hvb : w.heap[vb]? = some (.cells #[u] 9 (0, 0))) (hl : (xs.length + 1) * 16 ≤ 140737488355328) :
    Calls Try.prog 47 #[v, .int .i64 xs.length, .slice (some ⟨vb, 0, none⟩) 1 1] w (InsS w v (xs ++ [u])) := by
  have H := Aside0.mk h
  have hs : Aside0 (SrcV w (some ⟨vb, 0, none⟩) [u]) := ⟨fun _ => ⟨_, rfl, fun j q hj => by
    have hj0 : j = 0 := by have := (List.getElem?_eq_some_iff.1 hj).1; simpa using this
    subst hj0
    cases hj
    rw [add_lit0]
    exact (blk_cell hvb 0).trans rfl⟩⟩
  have h1 : Aside0 (∀ q ∈ [u], q.oneCell' = true) := ⟨fun q hq => by simp at hq; rw [hq]; exact hu⟩
  have HL := Aside0.mk hl
  rcases h with ⟨rfl, rfl⟩ | ⟨g, c, cur, rfl, hg, hc, hcc, hcm, -, -⟩
  · show Calls Try.prog 47 #[.slice none 0 0, .int .i64 0, .slice (some ⟨vb, 0, none⟩) 1 1] w (InsS w (.slice none 0 0) [u])
    clear hvb hl
    go_enter Try.func47, Try.ntmps47
    go_wp2_with ((with_reducible refine gate_dst (N := 25) rfl ?_); refine wp_rowv_append rfl (.tmp 23) (.tmp 24) 71 rfl H.out Try.underlying71 infoS rfl (by decide) hs.out h1.out rfl rfl HL.out ?_; intro v' w1 hr hg hf; have R1 := Aside0.mk (And.intro hr (And.intro hg hf)); clear hr hg hf)
    go_ret
    obtain ⟨r1, r2, r3⟩ := R1.out
    exact ⟨_, rfl, r1, r2, r3⟩
  · have e1 : ((xs.length : Int) == (xs.length : Int)) = true := by simp
    have e2 : (xs.length : Int) ≤ (xs.length : Int) := Int.le_refl _
    have e3 : (0 : Int) ≤ (xs.length : Int) := by omega
    have e4 : (xs.length : Int) ≤ (c : Int) := by omega
    clear hvb hl hg hc hcc hcm
    go_enter Try.func47, Try.ntmps47
    go_wp2_with ((with_reducible refine gate_dst (N := 25) rfl ?_); refine wp_rowv_append rfl (.tmp 23) (.tmp 24) 71 rfl H.out Try.underlying71 infoS rfl (by decide) hs.out h1.out rfl rfl HL.out ?_; intro v' w1 hr hg hf; have R1 := Aside0.mk (And.intro hr (And.intro hg hf)); clear hr hg hf)
    all_goals go_ret
    all_goals
      obtain ⟨r1, r2, r3⟩ := R1.out
      exact ⟨_, rfl, r1, r2, r3⟩
theorem overlapsS {w : World} {vb g o lb cb : Nat} {u : Value} {cur : Array Value} (hvb : w.heap[vb]? = some (.cells #[u] 9 (0, 0))) (hg : w.heap[g]? = some (.cells cur 9 (0, 0))) (hne : vb ≠ g) (hc : 0 < cur.size) :
    (callFunc 53 #[.slice (some ⟨vb, 0, none⟩) 1 1, .slice (some ⟨g, o, none⟩) lb cb]).run Try.prog w = .ok (.value (.bool false)) w := by
  have hz : ∀ w, (Go.sizeOf 9).run Try.prog w = .ok 1 w := fun w => by
    obtain ⟨i, hi, hzz⟩ := Option.map_eq_some_iff.1 sizeS
    simp [Go.sizeOf, typeInfo, hi, hzz]
  rw [run_callFunc_extern (P := Try.prog) (f := 53) (fn := Try.f53) (by kernel_rfl) (by kernel_rfl) (by kernel_rfl) (by kernel_rfl) (e := Extern.SlicesOverlaps.overlaps #[71, 71] #[4]) (by kernel_rfl),
    Lib.run_overlaps_apart w 71 4 9 Try.underlying71 1 hz ⟨vb, 0, none⟩ ⟨g, o, none⟩ 1 1 lb cb hne 9 9 1 cur.size (shape_cells hvb) (shape_cells hg) (by omega) (blk_frozen hvb 0) (blk_frozen hvb 1)]
  rfl
set_option maxRecDepth 100000 in
set_option maxHeartbeats 8000000 in
theorem insShiftS {w : World} {u : Value} {xs : List Value} {vb g c i : Nat} {cur : Array Value} (hg : w.heap[g]? = some (.cells cur 9 (0, 0))) (hi : i < xs.length) (hnc : xs.length + 1 ≤ c) (hcc : c ≤ cur.size) (hcm : c ≤ maxLen) (hx : cur.toList.take xs.length = xs) (hone : ∀ q ∈ xs, q.oneCell' = true)
    (hu : u.oneCell' = true) (hvb : w.heap[vb]? = some (.cells #[u] 9 (0, 0))) (hne : vb ≠ g) :
    Calls Try.prog 47 #[.slice (some ⟨g, 0, none⟩) xs.length c, .int .i64 i, .slice (some ⟨vb, 0, none⟩) 1 1] w (InsS w (.slice (some ⟨g, 0, none⟩) xs.length c) (insAt i u xs)) := by
  simp only [maxLen] at hcm
  have hl0 : xs.length + 1 ≤ cur.toList.length := by rw [Array.length_toList]; exact Nat.le_trans hnc hcc
  have hn : xs.length ≤ cur.toList.length := by
    have := congrArg List.length hx
    rw [List.length_take] at this
    omega
  have hdl : (xs.drop i).length = xs.length - i := List.length_drop
  have hsrc : ∀ j v, (xs.drop i)[j]? = some v → w.drew.cell? ((⟨g, i, none⟩ : Addr).add j) = some v := fun j v hj => by
    rw [List.getElem?_drop] at hj
    have hl := (List.getElem?_eq_some_iff.1 hj).1
    rw [← hx, List.getElem?_take, if_pos hl, Array.getElem?_toList] at hj
    rw [Addr.add_lit]
    show w.cell? ⟨g, i + j, none⟩ = _
    rw [cell_of_row w g (i + j) cur 9 (0, 0) hg, hj]
  have hcp1 := fun (ty : TypeId) (dc sc : Nat) => copy_rowv (P := Try.prog) (e := 9) (w := w.drew) (cur := cur) hg 71 ty Try.underlying71 sizeS (i + 1) (xs.length + 1 - (i + 1)) dc ⟨g, i, none⟩ (xs.length + 1 - i) sc (xs.drop i) (by rw [hdl]; simp only [Nat.min_def]; split <;> omega) hsrc (fun v hv => hone v (List.mem_of_mem_drop hv)) (by rw [hdl]; omega)
  obtain ⟨W1, hW1⟩ : ∃ W1, W1 = w.drew.setCells g (i + 1) (xs.drop i) := ⟨_, rfl⟩
  rw [← hW1] at hcp1
  obtain ⟨-, ⟨cur1, hg1, hc1, hl1⟩, hgr1⟩ := hcp1 3 0 0
  have hvb1 : W1.heap[vb]? = some (.cells #[u] 9 (0, 0)) := by
    rw [hW1, setCells_far (xs.drop i) (i + 1) vb hne]
    exact hvb
  have hsrc2 : ∀ j v, [u][j]? = some v → W1.cell? ((⟨vb, 0, none⟩ : Addr).add j) = some v := fun j v hj => by
    have hj0 : j = 0 := by have := (List.getElem?_eq_some_iff.1 hj).1; simpa using this
    subst hj0
    cases hj
    rw [add_lit0]
    exact (blk_cell hvb1 0).trans rfl
  have hcp2 := fun (ty : TypeId) (dc : Nat) => copy_rowv (P := Try.prog) (e := 9) (w := W1) (cur := cur1) hg1 71 ty Try.underlying71 sizeS i (xs.length + 1 - i) dc ⟨vb, 0, none⟩ 1 1 [u] (by simp only [List.length_singleton, Nat.min_def]; split <;> omega) hsrc2 (fun v hv => by simp at hv; rw [hv]; exact hu) (by rw [hc1, List.length_singleton]; omega)
  obtain ⟨W2, hW2⟩ : ∃ W2, W2 = W1.setCells g i [u] := ⟨_, rfl⟩
  rw [← hW2] at hcp2
  obtain ⟨-, ⟨cur2, hg2, hc2, hl2⟩, hgr2⟩ := hcp2 3 0
  have FIN : Aside0 (RowV 9 W2 (.slice (some ⟨g, 0, none⟩) (xs.length + 1) c) (insAt i u xs) ∧ w.grownBy W2 (some g)) := ⟨by
    refine ⟨.inr ⟨g, c, cur2, by rw [insAt_len (by omega)], hg2, by rw [insAt_len (by omega)]; exact hnc, by rw [hc2, hc1]; exact hcc, by simp only [maxLen]; omega, ?_, fun q hq => ?_⟩, ?_⟩
    · exact ins_cells hx hi hl0 hl1 (by rw [hl2]; rfl)
    · rcases mem_insAt hq with rfl | hq
      · exact hu
      · exact hone q hq
    · exact ⟨hgr2.os.trans hgr1.os, hgr2.tape.trans hgr1.tape, hgr2.output.trans hgr1.output, Nat.le_trans hgr1.size hgr2.size, fun k hk hne => (hgr2.block k (Nat.lt_of_lt_of_le hk hgr1.size) hne).trans (hgr1.block k hk hne)⟩⟩
  have C1 := Aside0.mk (fun ty dc sc => (hcp1 ty dc sc).1)
  have C2 := Aside0.mk (fun ty dc => (hcp2 ty dc).1)
  have hov := fun (lb cb : Nat) => overlapsS (o := i + 1) (lb := lb) (cb := cb) hvb hg hne (by omega)
  have hb1 : ((i : Int) == (xs.length : Int)) = false := by rw [beq_eq_false_iff_ne]; omega
  have hb1' : (i == xs.length) = false := by rw [beq_eq_false_iff_ne]; omega
  have hb2 : IntKind.i64.wrap ((xs.length : Int) + 1) = (xs.length : Int) + 1 := by rw [i64_w]; unfold wrap64; omega
  have hb3 : decide ((c : Int) < (xs.length : Int) + 1) = false := decide_eq_false (by omega)
  have hb4 : IntKind.i64.wrap ((i : Int) + 1) = (i : Int) + 1 := by rw [i64_w]; unfold wrap64; omega
  have hb5 : (i : Int) ≤ (xs.length : Int) := by omega
  have hb6 : (xs.length : Int) + 1 ≤ (c : Int) := by omega
  have hb7 : (i : Int) ≤ (xs.length : Int) + 1 := by omega
  have hb8 : i ≤ xs.length := by omega
  have hb9 : (0 : Int) ≤ (i : Int) + 1 := by omega
  have hb10 : ¬ (c = i + 1) := by omega
  have hb11 : ¬ (c = i) := by omega
  have hb12 : ((i : Int) + 1).toNat = i + 1 := by omega
  clear hcp1 hcp2 hl1 hl2 hg1 hg2 hgr1 hgr2 hsrc hsrc2 hvb1 hW1 hW2 hdl hn hx hone hg hvb
  go_enter Try.func47, Try.ntmps47
  go_upto_region 15 with (simp only [hov])
  go_region_law (refine step_copy_run rfl _ _ 71 71 rfl (.slice (some ⟨g, i + 1, none⟩) (xs.length + 1 - (i + 1)) (c - (i + 1))) (.slice (some ⟨g, i, none⟩) (xs.length + 1 - i) (c - i)) (by simp [Act.eval, Act.put]) (by simp [Act.eval, Act.put]) (C1.out _ _ _) ?_)
  go_wp2_with ((with_reducible refine gate_dst (N := 82) rfl ?_); refine wp_copy_run rfl _ _ 71 71 rfl (.slice (some ⟨g, i, none⟩) (xs.length + 1 - i) (c - i)) (.slice (some ⟨vb, 0, none⟩) 1 1) (by simp [Act.eval, Act.put]) (by simp [Act.eval, Act.put]) (C2.out _ _) ?_)
  go_ret
  exact ⟨_, rfl, FIN.out.1, FIN.out.2, .inl rfl⟩
set_option maxRecDepth 100000 in
set_option maxHeartbeats 8000000 in
theorem insGrowS {w : World} {u : Value} {xs : List Value} {vb g c i : Nat} {cur : Array Value} (hg : w.heap[g]? = some (.cells cur 9 (0, 0))) (hi : i < xs.length) (hn : xs.length ≤ c) (hnc : c < xs.length + 1) (hcc : c ≤ cur.size) (hx : cur.toList.take xs.length = xs) (hone : ∀ q ∈ xs, q.oneCell' = true)
    (hu : u.oneCell' = true) (hvb : w.heap[vb]? = some (.cells #[u] 9 (0, 0))) (hl : (xs.length + 1) * 16 ≤ 140737488355328) :
    Calls Try.prog 47 #[.slice (some ⟨g, 0, none⟩) xs.length c, .int .i64 i, .slice (some ⟨vb, 0, none⟩) 1 1] w (InsS w (.slice (some ⟨g, 0, none⟩) xs.length c) (insAt i u xs)) := by
  obtain ⟨i0, hi0, hz0, hzs, hzb⟩ : ∃ i0, Try.prog.info? 9 = some i0 ∧ i0.zero = some (.string ⟨#[]⟩) ∧ i0.size = 1 ∧ i0.bytes = 16 := by
    obtain ⟨i0, h1, h2⟩ := Option.map_eq_some_iff.1 infoS
    simp only [Prod.mk.injEq] at h2
    exact ⟨i0, h1, h2.1, h2.2.1, h2.2.2⟩
  have hcells : ∀ j v, xs[j]? = some v → w.cell? ⟨g, j, none⟩ = some v := fun j v hj => by
    have hl := (List.getElem?_eq_some_iff.1 hj).1
    rw [← hx, List.getElem?_take, if_pos hl, Array.getElem?_toList] at hj
    rw [cell_of_row w g j cur 9 (0, 0) hg, hj]
  have hold : (Builtin.firstCells i0.size i (.slice (some ⟨g, 0, none⟩) i c)).run Try.prog w.drew = .ok (xs.take i).toArray w.drew := by
    rw [hzs]
    exact run_firstCells_some w.drew 1 i ⟨g, 0, none⟩ i c (xs.take i) (by rw [List.length_take]; omega) (fun j v hj => by
      rw [add_lit0]
      rw [List.getElem?_take] at hj
      split at hj
      · exact hcells j v hj
      · cases hj)
  obtain ⟨G, hG⟩ : ∃ G, G = grownCap w (xs.length + 1) c 9 := ⟨_, rfl⟩
  obtain ⟨ROW, hROW⟩ : ∃ ROW : Array Value, ROW = (xs.take i).toArray ++ Builtin.zeroCells (.string ⟨#[]⟩ : Value).cells (xs.length + 1 - i) ++ Builtin.zeroCells (.string ⟨#[]⟩ : Value).cells (G - (xs.length + 1)) := ⟨_, rfl⟩
  have hz1 : (.string ⟨#[]⟩ : Value).cells.size = 1 := rfl
  have hGn : xs.length + 1 ≤ G := by rw [hG]; exact grownCap_ge w _ _ _
  have hGm : G ≤ maxLen := by rw [hG]; exact grownCap_le_maxLen w (xs.length + 1) c 9 (by unfold maxLen; omega)
  have hRl : ROW.size = G := by
    rw [hROW]
    simp only [Array.size_append, List.size_toArray, size_zeroCells, hz1, List.length_take]
    omega
  have hkk : (xs.length : Int) + 1 - (i : Int) = ((xs.length + 1 - i : Nat) : Int) := by omega
  have hrz : ∀ ty, (Builtin.append_ #[71, 3] ty #[.slice (some ⟨g, 0, none⟩) i c, .int .i64 ((xs.length : Int) + 1 - (i : Int))]).run Try.prog w = .ok (.slice (some ⟨w.heap.size, 0, none⟩) (xs.length + 1) G) (w.drew.alloc (.cells ROW 9)) := fun ty => by
    have h := run_append_grow_zeros w 71 3 ty 9 i0 _ .i64 .i64 Try.underlying71 Try.underlying3 hi0 hz0 (some ⟨g, 0, none⟩) i c (xs.take i) hold (xs.length + 1 - i) (by omega) (by omega) (by omega) (by omega) (by rw [hzb]; omega) (by rw [hzb, show i + (xs.length + 1 - i) = xs.length + 1 by omega]; exact growslice_fits hnc hl)
    rw [show i + (xs.length + 1 - i) = xs.length + 1 by omega, ← hG, ← hROW] at h
    rw [hkk]
    exact h
  obtain ⟨W0, hW0⟩ : ∃ W0, W0 = w.drew.alloc (.cells ROW 9) := ⟨_, rfl⟩
  obtain ⟨nb, hnb⟩ : ∃ nb, nb = w.heap.size := ⟨_, rfl⟩
  rw [← hW0, ← hnb] at hrz
  have hg0 : W0.heap[nb]? = some (.cells ROW 9 (0, 0)) := by rw [hW0, hnb]; exact heap_alloc_new w.drew _
  have hB0 : Below w.heap.size w W0 := by rw [hW0]; exact ⟨rfl, rfl, rfl, by simp, fun k hk => Below.heap_alloc w.drew _ k hk⟩
  have hgl := blk_lt hg
  have hvl := blk_lt hvb
  have hgO : W0.heap[g]? = some (.cells cur 9 (0, 0)) := (hB0.block g hgl).trans hg
  have hvO : W0.heap[vb]? = some (.cells #[u] 9 (0, 0)) := (hB0.block vb hvl).trans hvb
  have hsrc1 : ∀ j v, [u][j]? = some v → W0.cell? ((⟨vb, 0, none⟩ : Addr).add j) = some v := fun j v hj => by
    have hj0 : j = 0 := by have := (List.getElem?_eq_some_iff.1 hj).1; simpa using this
    subst hj0
    cases hj
    rw [add_lit0]
    exact (blk_cell hvO 0).trans rfl
  have hcp1 := fun (ty : TypeId) (dc : Nat) => copy_rowv (P := Try.prog) (e := 9) (w := W0) (cur := ROW) hg0 71 ty Try.underlying71 sizeS i (xs.length + 1 - i) dc ⟨vb, 0, none⟩ 1 1 [u] (by simp only [List.length_singleton, Nat.min_def]; split <;> omega) hsrc1 (fun v hv => by simp at hv; rw [hv]; exact hu) (by rw [List.length_singleton]; omega)
  obtain ⟨W1, hW1⟩ : ∃ W1, W1 = W0.setCells nb i [u] := ⟨_, rfl⟩
  rw [← hW1] at hcp1
  obtain ⟨-, ⟨cur1, hg1, hc1, hl1⟩, hgr1⟩ := hcp1 3 0
  have hgne : g ≠ nb := by omega
  have hsrc2 : ∀ j v, (xs.drop i)[j]? = some v → W1.drew.cell? ((⟨g, i, none⟩ : Addr).add j) = some v := fun j v hj => by
    rw [List.getElem?_drop] at hj
    have hl := (List.getElem?_eq_some_iff.1 hj).1
    rw [← hx, List.getElem?_take, if_pos hl, Array.getElem?_toList] at hj
    rw [Addr.add_lit]
    show W1.cell? ⟨g, i + j, none⟩ = _
    have h9 : W1.heap[g]? = some (.cells cur 9 (0, 0)) := by rw [hW1, setCells_far [u] i g hgne]; exact hgO
    rw [cell_of_row W1 g (i + j) cur 9 (0, 0) h9, hj]
  have hdl : (xs.drop i).length = xs.length - i := List.length_drop
  have hcp2 := fun (ty : TypeId) (dc sc : Nat) => copy_rowv (P := Try.prog) (e := 9) (w := W1.drew) (cur := cur1) hg1 71 ty Try.underlying71 sizeS (i + 1) (xs.length + 1 - (i + 1)) dc ⟨g, i, none⟩ (xs.length - i) sc (xs.drop i) (by rw [hdl]; simp only [Nat.min_def]; split <;> omega) hsrc2 (fun v hv => hone v (List.mem_of_mem_drop hv)) (by rw [hc1, hdl, hRl]; omega)
  obtain ⟨W2, hW2⟩ : ∃ W2, W2 = W1.drew.setCells nb (i + 1) (xs.drop i) := ⟨_, rfl⟩
  rw [← hW2] at hcp2
  obtain ⟨-, ⟨cur2, hg2, hc2, hl2⟩, hgr2⟩ := hcp2 3 0 0
  have FIN : Aside0 (RowV 9 W2 (.slice (some ⟨nb, 0, none⟩) (xs.length + 1) G) (insAt i u xs) ∧ Below w.heap.size w W2) := ⟨by
    refine ⟨.inr ⟨nb, G, cur2, by rw [insAt_len (by omega)], hg2, by rw [insAt_len (by omega)]; exact hGn, by rw [hc2, hc1, hRl]; exact Nat.le_refl _, hGm, ?_, fun q hq => ?_⟩, ?_⟩
    · have e0 : ROW.toList.take i = xs.take i := by
        rw [hROW]
        simp only [Array.toList_append, List.append_assoc]
        rw [List.take_append_of_le_length (by rw [List.length_take]; omega), List.take_of_length_le (by rw [List.length_take]; omega)]
      have e1 : cur1.toList.take (i + 1) = xs.take i ++ [u] := by
        rw [hl1, e0, List.append_assoc, List.take_append, List.length_take, Nat.min_eq_left (by omega), List.take_of_length_le (by rw [List.length_take]; omega), show i + 1 - i = 1 by omega]
        rfl
      have e2 : cur2.toList = insAt i u xs ++ cur1.toList.drop (i + 1 + (xs.drop i).length) := by
        rw [hl2, e1]
        unfold insAt
        simp only [List.append_assoc, List.singleton_append, List.cons_append, List.nil_append]
      rw [e2, List.take_left]
    · rcases mem_insAt hq with rfl | hq
      · exact hu
      · exact hone q hq
    · have b1 : Below w.heap.size W0 W1 := ⟨hgr1.os, hgr1.tape, hgr1.output, hgr1.size, fun k hk => hgr1.block k (Nat.lt_of_lt_of_le hk hB0.size) (fun e => by cases e; omega)⟩
      have b2 : Below w.heap.size W1 W2 := ⟨hgr2.os, hgr2.tape, hgr2.output, hgr2.size, fun k hk => hgr2.block k (Nat.lt_of_lt_of_le hk (Nat.le_trans hB0.size hgr1.size)) (fun e => by cases e; omega)⟩
      exact (hB0.trans b1).trans b2⟩
  have FIN2 : Aside0 (w.heap.size ≤ nb) := ⟨by omega⟩
  have C0 := Aside0.mk hrz
  have C1 := Aside0.mk (fun ty dc => (hcp1 ty dc).1)
  have C2 := Aside0.mk (fun ty dc sc => (hcp2 ty dc sc).1)
  have hb1 : ((i : Int) == (xs.length : Int)) = false := by rw [beq_eq_false_iff_ne]; omega
  have hb1' : (i == xs.length) = false := by rw [beq_eq_false_iff_ne]; omega
  have hb2 : IntKind.i64.wrap ((xs.length : Int) + 1) = (xs.length : Int) + 1 := by rw [i64_w]; unfold wrap64; omega
  have hb3 : decide ((c : Int) < (xs.length : Int) + 1) = true := decide_eq_true (by omega)
  have hb4 : IntKind.i64.wrap ((i : Int) + 1) = (i : Int) + 1 := by rw [i64_w]; unfold wrap64; omega
  have hb13 : IntKind.i64.wrap ((xs.length : Int) + 1 - (i : Int)) = (xs.length : Int) + 1 - (i : Int) := by rw [i64_w]; unfold wrap64; omega
  have hb5 : (i : Int) ≤ (xs.length : Int) := by omega
  have hb6 : (i : Int) ≤ (c : Int) := by omega
  have hb7 : (i : Int) ≤ (xs.length : Int) + 1 := by omega
  have hb8 : i ≤ xs.length := by omega
  have hb9 : (0 : Int) ≤ (i : Int) + 1 := by omega
  have hb10 : ¬ (G = i + 1) := by omega
  have hb11 : ¬ (G = i) := by omega
  have hb14 : ¬ (c = i) := by omega
  have hb12 : ((i : Int) + 1).toNat = i + 1 := by omega
  have hGm' : G ≤ 9223372036854775807 := by unfold maxLen at hGm; omega
  clear hcp1 hcp2 hl1 hl2 hg1 hg2 hgr1 hgr2 hsrc1 hsrc2 hvO hgO hW0 hW1 hW2 hdl hx hone hg hvb hrz hold hcells hROW hRl hG hg0 hB0 hnb hkk hGm hgl hvl
  go_enter Try.func47, Try.ntmps47
  go_upto_region 10 with ((with_reducible refine gate_dst (N := 40) rfl ?_); refine Lib.wpList_append_run _ rfl _ _ _ _ rfl _ _ rfl rfl _ _ (C0.out _) ?_)
  go_upto_region 11 with ((with_reducible refine gate_dst (N := 45) rfl ?_); refine wp_copy_run rfl _ _ 71 71 rfl (.slice (some ⟨nb, i, none⟩) (xs.length + 1 - i) (G - i)) (.slice (some ⟨vb, 0, none⟩) 1 1) (by simp [Act.eval, Act.put]) (by simp [Act.eval, Act.put]) (C1.out _ _) ?_)
  go_region_law (refine step_copy_run rfl _ _ 71 71 rfl (.slice (some ⟨nb, i + 1, none⟩) (xs.length + 1 - (i + 1)) (G - (i + 1))) (.slice (some ⟨g, i, none⟩) (xs.length - i) (c - i)) (by simp [Act.eval, Act.put]) (by simp [Act.eval, Act.put]) (C2.out _ _ _) ?_)
  go_wp2
  go_ret
  exact ⟨_, rfl, FIN.out.1, ⟨FIN.out.2.os, FIN.out.2.tape, FIN.out.2.output, FIN.out.2.size, fun k hk _ => FIN.out.2.block k hk⟩, .inr ⟨nb, rfl, FIN2.out⟩⟩
/-- slices.Insert(v, i, u) -/
theorem insertS {w : World} {v u : Value} {xs : List Value} {vb i : Nat} (h : RowV 9 w v xs) (hi : i ≤ xs.length) (hu : u.oneCell' = true) (hvb : w.heap[vb]? = some (.cells #[u] 9 (0, 0))) (hne : some vb ≠ v.ownBlock) (hl : (xs.length + 1) * 16 ≤ 140737488355328) :
    Calls Try.prog 47 #[v, .int .i64 i, .slice (some ⟨vb, 0, none⟩) 1 1] w (InsS w v (insAt i u xs)) := by
  by_cases he : i = xs.length
  · subst he
    have e : insAt xs.length u xs = xs ++ [u] := by unfold insAt; rw [List.take_length, List.drop_length]
    rw [e]
    exact insEndS h hu hvb hl
  · rcases h with ⟨rfl, rfl⟩ | ⟨g, c, cur, rfl, hg, hc, hcc, hcm, hx, hone⟩
    · simp at hi he; exact absurd hi he
    · by_cases hr : xs.length + 1 ≤ c
      · exact insShiftS hg (by omega) hr hcc hcm hx hone hu hvb (fun e => hne (by rw [e]; rfl))
      · exact insGrowS hg (by omega) hc (by omega) hcc hx hone hu hvb hl
end Go.Proofs.YtmomohljnmopfaaX
end
section
namespace Go.Proofs.YtmomohljnmopfaaX
open Go.RowKit Go.Lib Go.Proofs.YtmomohljnmopfaaW.PrintWords Go.Proofs.YtmomohljnmopfaaW.PrintLast Go.Proofs.YtmomohljnmopfaaW.PrintMore
set_option linter.unusedVariables false
set_option linter.unusedSimpArgs false
theorem infoN : (Try.prog.info? 70).map (fun i => (i.zero, i.size, i.bytes)) = some (some (.pointer none), 1, 8) := by kernel_rfl
theorem sizeN : (Try.prog.info? 70).map (·.size) = some 1 := by kernel_rfl
/-- What an Insert leaves. -/
def InsN (w : World) (v : Value) (ys : List Value) (e : Ending) (w' : World) : Prop := ∃ v', e = .returned v' ∧ RowV 70 w' v' ys ∧ w.grownBy w' v.ownBlock ∧ (v'.ownBlock = v.ownBlock ∨ ∃ b, v'.ownBlock = some b ∧ w.heap.size ≤ b)
set_option maxRecDepth 100000 in
set_option maxHeartbeats 8000000 in
theorem insEndN {w : World} {v u : Value} {xs : List Value} {vb : Nat} (h : RowV 70 w v xs) (hu : u.oneCell' = true) (hvb : w.heap[vb]? = some (.cells #[u] 70 (0, 0))) (hl : (xs.length + 1) * 8 ≤ 140737488355328) :
    Calls Try.prog 48 #[v, .int .i64 xs.length, .slice (some ⟨vb, 0, none⟩) 1 1] w (InsN w v (xs ++ [u])) := by
  have H := Aside0.mk h
  have hs : Aside0 (SrcV w (some ⟨vb, 0, none⟩) [u]) := ⟨fun _ => ⟨_, rfl, fun j q hj => by
    have hj0 : j = 0 := by have := (List.getElem?_eq_some_iff.1 hj).1; simpa using this
    subst hj0
    cases hj
    rw [add_lit0]
    exact (blk_cell hvb 0).trans rfl⟩⟩
  have h1 : Aside0 (∀ q ∈ [u], q.oneCell' = true) := ⟨fun q hq => by simp at hq; rw [hq]; exact hu⟩
  have HL := Aside0.mk hl
  rcases h with ⟨rfl, rfl⟩ | ⟨g, c, cur, rfl, hg, hc, hcc, hcm, -, -⟩
  · show Calls Try.prog 48 #[.slice none 0 0, .int .i64 0, .slice (some ⟨vb, 0, none⟩) 1 1] w (InsN w (.slice none 0 0) [u])
    clear hvb hl
    go_enter Try.func48, Try.ntmps48
    go_wp2_with ((with_reducible refine gate_dst (N := 25) rfl ?_); refine wp_rowv_append rfl (.tmp 23) (.tmp 24) 72 rfl H.out Try.underlying72 infoN rfl (by decide) hs.out h1.out rfl rfl HL.out ?_; intro v' w1 hr hg hf; have R1 := Aside0.mk (And.intro hr (And.intro hg hf)); clear hr hg hf)
    go_ret
    obtain ⟨r1, r2, r3⟩ := R1.out
    exact ⟨_, rfl, r1, r2, r3⟩
  · have e1 : ((xs.length : Int) == (xs.length : Int)) = true := by simp
    have e2 : (xs.length : Int) ≤ (xs.length : Int) := Int.le_refl _
    have e3 : (0 : Int) ≤ (xs.length : Int) := by omega
    have e4 : (xs.length : Int) ≤ (c : Int) := by omega
    clear hvb hl hg hc hcc hcm
    go_enter Try.func48, Try.ntmps48
    go_wp2_with ((with_reducible refine gate_dst (N := 25) rfl ?_); refine wp_rowv_append rfl (.tmp 23) (.tmp 24) 72 rfl H.out Try.underlying72 infoN rfl (by decide) hs.out h1.out rfl rfl HL.out ?_; intro v' w1 hr hg hf; have R1 := Aside0.mk (And.intro hr (And.intro hg hf)); clear hr hg hf)
    all_goals go_ret
    all_goals
      obtain ⟨r1, r2, r3⟩ := R1.out
      exact ⟨_, rfl, r1, r2, r3⟩
theorem overlapsN {w : World} {vb g o lb cb : Nat} {u : Value} {cur : Array Value} (hvb : w.heap[vb]? = some (.cells #[u] 70 (0, 0))) (hg : w.heap[g]? = some (.cells cur 70 (0, 0))) (hne : vb ≠ g) (hc : 0 < cur.size) :
    (callFunc 55 #[.slice (some ⟨vb, 0, none⟩) 1 1, .slice (some ⟨g, o, none⟩) lb cb]).run Try.prog w = .ok (.value (.bool false)) w := by
  have hz : ∀ w, (Go.sizeOf 70).run Try.prog w = .ok 1 w := fun w => by
    obtain ⟨i, hi, hzz⟩ := Option.map_eq_some_iff.1 sizeN
    simp [Go.sizeOf, typeInfo, hi, hzz]
  rw [run_callFunc_extern (P := Try.prog) (f := 55) (fn := Try.f55) (by kernel_rfl) (by kernel_rfl) (by kernel_rfl) (by kernel_rfl) (e := Extern.SlicesOverlaps.overlaps #[72, 72] #[4]) (by kernel_rfl),
    Lib.run_overlaps_apart w 72 4 70 Try.underlying72 1 hz ⟨vb, 0, none⟩ ⟨g, o, none⟩ 1 1 lb cb hne 70 70 1 cur.size (shape_cells hvb) (shape_cells hg) (by omega) (blk_frozen hvb 0) (blk_frozen hvb 1)]
  rfl
set_option maxRecDepth 100000 in
set_option maxHeartbeats 8000000 in
theorem insShiftN {w : World} {u : Value} {xs : List Value} {vb g c i : Nat} {cur : Array Value} (hg : w.heap[g]? = some (.cells cur 70 (0, 0))) (hi : i < xs.length) (hnc : xs.length + 1 ≤ c) (hcc : c ≤ cur.size) (hcm : c ≤ maxLen) (hx : cur.toList.take xs.length = xs) (hone : ∀ q ∈ xs, q.oneCell' = true)
    (hu : u.oneCell' = true) (hvb : w.heap[vb]? = some (.cells #[u] 70 (0, 0))) (hne : vb ≠ g) :
    Calls Try.prog 48 #[.slice (some ⟨g, 0, none⟩) xs.length c, .int .i64 i, .slice (some ⟨vb, 0, none⟩) 1 1] w (InsN w (.slice (some ⟨g, 0, none⟩) xs.length c) (insAt i u xs)) := by
  simp only [maxLen] at hcm
  have hl0 : xs.length + 1 ≤ cur.toList.length := by rw [Array.length_toList]; exact Nat.le_trans hnc hcc
  have hn : xs.length ≤ cur.toList.length := by
    have := congrArg List.length hx
    rw [List.length_take] at this
    omega
  have hdl : (xs.drop i).length = xs.length - i := List.length_drop
  have hsrc : ∀ j v, (xs.drop i)[j]? = some v → w.drew.cell? ((⟨g, i, none⟩ : Addr).add j) = some v := fun j v hj => by
    rw [List.getElem?_drop] at hj
    have hl := (List.getElem?_eq_some_iff.1 hj).1
    rw [← hx, List.getElem?_take, if_pos hl, Array.getElem?_toList] at hj
    rw [Addr.add_lit]
    show w.cell? ⟨g, i + j, none⟩ = _
    rw [cell_of_row w g (i + j) cur 70 (0, 0) hg, hj]
  have hcp1 := fun (ty : TypeId) (dc sc : Nat) => copy_rowv (P := Try.prog) (e := 70) (w := w.drew) (cur := cur) hg 72 ty Try.underlying72 sizeN (i + 1) (xs.length + 1 - (i + 1)) dc ⟨g, i, none⟩ (xs.length + 1 - i) sc (xs.drop i) (by rw [hdl]; simp only [Nat.min_def]; split <;> omega) hsrc (fun v hv => hone v (List.mem_of_mem_drop hv)) (by rw [hdl]; omega)
  obtain ⟨W1, hW1⟩ : ∃ W1, W1 = w.drew.setCells g (i + 1) (xs.drop i) := ⟨_, rfl⟩
  rw [← hW1] at hcp1
  obtain ⟨-, ⟨cur1, hg1, hc1, hl1⟩, hgr1⟩ := hcp1 3 0 0
  have hvb1 : W1.heap[vb]? = some (.cells #[u] 70 (0, 0)) := by
    rw [hW1, setCells_far (xs.drop i) (i + 1) vb hne]
    exact hvb
  have hsrc2 : ∀ j v, [u][j]? = some v → W1.cell? ((⟨vb, 0, none⟩ : Addr).add j) = some v := fun j v hj => by
    have hj0 : j = 0 := by have := (List.getElem?_eq_some_iff.1 hj).1; simpa using this
    subst hj0
    cases hj
    rw [add_lit0]
    exact (blk_cell hvb1 0).trans rfl
  have hcp2 := fun (ty : TypeId) (dc : Nat) => copy_rowv (P := Try.prog) (e := 70) (w := W1) (cur := cur1) hg1 72 ty Try.underlying72 sizeN i (xs.length + 1 - i) dc ⟨vb, 0, none⟩ 1 1 [u] (by simp only [List.length_singleton, Nat.min_def]; split <;> omega) hsrc2 (fun v hv => by simp at hv; rw [hv]; exact hu) (by rw [hc1, List.length_singleton]; omega)
  obtain ⟨W2, hW2⟩ : ∃ W2, W2 = W1.setCells g i [u] := ⟨_, rfl⟩
  rw [← hW2] at hcp2
  obtain ⟨-, ⟨cur2, hg2, hc2, hl2⟩, hgr2⟩ := hcp2 3 0
  have FIN : Aside0 (RowV 70 W2 (.slice (some ⟨g, 0, none⟩) (xs.length + 1) c) (insAt i u xs) ∧ w.grownBy W2 (some g)) := ⟨by
    refine ⟨.inr ⟨g, c, cur2, by rw [insAt_len (by omega)], hg2, by rw [insAt_len (by omega)]; exact hnc, by rw [hc2, hc1]; exact hcc, by simp only [maxLen]; omega, ?_, fun q hq => ?_⟩, ?_⟩
    · exact ins_cells hx hi hl0 hl1 (by rw [hl2]; rfl)
    · rcases mem_insAt hq with rfl | hq
      · exact hu
      · exact hone q hq
    · exact ⟨hgr2.os.trans hgr1.os, hgr2.tape.trans hgr1.tape, hgr2.output.trans hgr1.output, Nat.le_trans hgr1.size hgr2.size, fun k hk hne => (hgr2.block k (Nat.lt_of_lt_of_le hk hgr1.size) hne).trans (hgr1.block k hk hne)⟩⟩
  have C1 := Aside0.mk (fun ty dc sc => (hcp1 ty dc sc).1)
  have C2 := Aside0.mk (fun ty dc => (hcp2 ty dc).1)
  have hov := fun (lb cb : Nat) => overlapsN (o := i + 1) (lb := lb) (cb := cb) hvb hg hne (by omega)
  have hb1 : ((i : Int) == (xs.length : Int)) = false := by rw [beq_eq_false_iff_ne]; omega
  have hb1' : (i == xs.length) = false := by rw [beq_eq_false_iff_ne]; omega
  have hb2 : IntKind.i64.wrap ((xs.length : Int) + 1) = (xs.length : Int) + 1 := by rw [i64_w]; unfold wrap64; omega
  have hb3 : decide ((c : Int) < (xs.length : Int) + 1) = false := decide_eq_false (by omega)
  have hb4 : IntKind.i64.wrap ((i : Int) + 1) = (i : Int) + 1 := by rw [i64_w]; unfold wrap64; omega
  have hb5 : (i : Int) ≤ (xs.length : Int) := by omega
  have hb6 : (xs.length : Int) + 1 ≤ (c : Int) := by omega
  have hb7 : (i : Int) ≤ (xs.length : Int) + 1 := by omega
  have hb8 : i ≤ xs.length := by omega
  have hb9 : (0 : Int) ≤ (i : Int) + 1 := by omega
  have hb10 : ¬ (c = i + 1) := by omega
  have hb11 : ¬ (c = i) := by omega
  have hb12 : ((i : Int) + 1).toNat = i + 1 := by omega
  clear hcp1 hcp2 hl1 hl2 hg1 hg2 hgr1 hgr2 hsrc hsrc2 hvb1 hW1 hW2 hdl hn hx hone hg hvb
  go_enter Try.func48, Try.ntmps48
  go_upto_region 15 with (simp only [hov])
  go_region_law (refine step_copy_run rfl _ _ 72 72 rfl (.slice (some ⟨g, i + 1, none⟩) (xs.length + 1 - (i + 1)) (c - (i + 1))) (.slice (some ⟨g, i, none⟩) (xs.length + 1 - i) (c - i)) (by simp [Act.eval, Act.put]) (by simp [Act.eval, Act.put]) (C1.out _ _ _) ?_)
  go_wp2_with ((with_reducible refine gate_dst (N := 82) rfl ?_); refine wp_copy_run rfl _ _ 72 72 rfl (.slice (some ⟨g, i, none⟩) (xs.length + 1 - i) (c - i)) (.slice (some ⟨vb, 0, none⟩) 1 1) (by simp [Act.eval, Act.put]) (by simp [Act.eval, Act.put]) (C2.out _ _) ?_)
  go_ret
  exact ⟨_, rfl, FIN.out.1, FIN.out.2, .inl rfl⟩
set_option maxRecDepth 100000 in
set_option maxHeartbeats 8000000 in
theorem insGrowN {w : World} {u : Value} {xs : List Value} {vb g c i : Nat} {cur : Array Value} (hg : w.heap[g]? = some (.cells cur 70 (0, 0))) (hi : i < xs.length) (hn : xs.length ≤ c) (hnc : c < xs.length + 1) (hcc : c ≤ cur.size) (hx : cur.toList.take xs.length = xs) (hone : ∀ q ∈ xs, q.oneCell' = true)
    (hu : u.oneCell' = true) (hvb : w.heap[vb]? = some (.cells #[u] 70 (0, 0))) (hl : (xs.length + 1) * 8 ≤ 140737488355328) :
    Calls Try.prog 48 #[.slice (some ⟨g, 0, none⟩) xs.length c, .int .i64 i, .slice (some ⟨vb, 0, none⟩) 1 1] w (InsN w (.slice (some ⟨g, 0, none⟩) xs.length c) (insAt i u xs)) := by
  obtain ⟨i0, hi0, hz0, hzs, hzb⟩ : ∃ i0, Try.prog.info? 70 = some i0 ∧ i0.zero = some (.pointer none) ∧ i0.size = 1 ∧ i0.bytes = 8 := by
    obtain ⟨i0, h1, h2⟩ := Option.map_eq_some_iff.1 infoN
    simp only [Prod.mk.injEq] at h2
    exact ⟨i0, h1, h2.1, h2.2.1, h2.2.2⟩
  have hcells : ∀ j v, xs[j]? = some v → w.cell? ⟨g, j, none⟩ = some v := fun j v hj => by
    have hl := (List.getElem?_eq_some_iff.1 hj).1
    rw [← hx, List.getElem?_take, if_pos hl, Array.getElem?_toList] at hj
    rw [cell_of_row w g j cur 70 (0, 0) hg, hj]
  have hold : (Builtin.firstCells i0.size i (.slice (some ⟨g, 0, none⟩) i c)).run Try.prog w.drew = .ok (xs.take i).toArray w.drew := by
    rw [hzs]
    exact run_firstCells_some w.drew 1 i ⟨g, 0, none⟩ i c (xs.take i) (by rw [List.length_take]; omega) (fun j v hj => by
      rw [add_lit0]
      rw [List.getElem?_take] at hj
      split at hj
      · exact hcells j v hj
      · cases hj)
  obtain ⟨G, hG⟩ : ∃ G, G = grownCap w (xs.length + 1) c 70 := ⟨_, rfl⟩
  obtain ⟨ROW, hROW⟩ : ∃ ROW : Array Value, ROW = (xs.take i).toArray ++ Builtin.zeroCells (.pointer none : Value).cells (xs.length + 1 - i) ++ Builtin.zeroCells (.pointer none : Value).cells (G - (xs.length + 1)) := ⟨_, rfl⟩
  have hz1 : (.pointer none : Value).cells.size = 1 := rfl
  have hGn : xs.length + 1 ≤ G := by rw [hG]; exact grownCap_ge w _ _ _
  have hGm : G ≤ maxLen := by rw [hG]; exact grownCap_le_maxLen w (xs.length + 1) c 70 (by unfold maxLen; omega)
  have hRl : ROW.size = G := by
    rw [hROW]
    simp only [Array.size_append, List.size_toArray, size_zeroCells, hz1, List.length_take]
    omega
  have hkk : (xs.length : Int) + 1 - (i : Int) = ((xs.length + 1 - i : Nat) : Int) := by omega
  have hrz : ∀ ty, (Builtin.append_ #[72, 3] ty #[.slice (some ⟨g, 0, none⟩) i c, .int .i64 ((xs.length : Int) + 1 - (i : Int))]).run Try.prog w = .ok (.slice (some ⟨w.heap.size, 0, none⟩) (xs.length + 1) G) (w.drew.alloc (.cells ROW 70)) := fun ty => by
    have h := run_append_grow_zeros w 72 3 ty 70 i0 _ .i64 .i64 Try.underlying72 Try.underlying3 hi0 hz0 (some ⟨g, 0, none⟩) i c (xs.take i) hold (xs.length + 1 - i) (by omega) (by omega) (by omega) (by omega) (by rw [hzb]; omega) (by rw [hzb, show i + (xs.length + 1 - i) = xs.length + 1 by omega]; exact growslice_fits hnc hl)
    rw [show i + (xs.length + 1 - i) = xs.length + 1 by omega, ← hG, ← hROW] at h
    rw [hkk]
    exact h
  obtain ⟨W0, hW0⟩ : ∃ W0, W0 = w.drew.alloc (.cells ROW 70) := ⟨_, rfl⟩
  obtain ⟨nb, hnb⟩ : ∃ nb, nb = w.heap.size := ⟨_, rfl⟩
  rw [← hW0, ← hnb] at hrz
  have hg0 : W0.heap[nb]? = some (.cells ROW 70 (0, 0)) := by rw [hW0, hnb]; exact heap_alloc_new w.drew _
  have hB0 : Below w.heap.size w W0 := by rw [hW0]; exact ⟨rfl, rfl, rfl, by simp, fun k hk => Below.heap_alloc w.drew _ k hk⟩
  have hgl := blk_lt hg
  have hvl := blk_lt hvb
  have hgO : W0.heap[g]? = some (.cells cur 70 (0, 0)) := (hB0.block g hgl).trans hg
  have hvO : W0.heap[vb]? = some (.cells #[u] 70 (0, 0)) := (hB0.block vb hvl).trans hvb
  have hsrc1 : ∀ j v, [u][j]? = some v → W0.cell? ((⟨vb, 0, none⟩ : Addr).add j) = some v := fun j v hj => by
    have hj0 : j = 0 := by have := (List.getElem?_eq_some_iff.1 hj).1; simpa using this
    subst hj0
    cases hj
    rw [add_lit0]
    exact (blk_cell hvO 0).trans rfl
  have hcp1 := fun (ty : TypeId) (dc : Nat) => copy_rowv (P := Try.prog) (e := 70) (w := W0) (cur := ROW) hg0 72 ty Try.underlying72 sizeN i (xs.length + 1 - i) dc ⟨vb, 0, none⟩ 1 1 [u] (by simp only [List.length_singleton, Nat.min_def]; split <;> omega) hsrc1 (fun v hv => by simp at hv; rw [hv]; exact hu) (by rw [List.length_singleton]; omega)
  obtain ⟨W1, hW1⟩ : ∃ W1, W1 = W0.setCells nb i [u] := ⟨_, rfl⟩
  rw [← hW1] at hcp1
  obtain ⟨-, ⟨cur1, hg1, hc1, hl1⟩, hgr1⟩ := hcp1 3 0
  have hgne : g ≠ nb := by omega
  have hsrc2 : ∀ j v, (xs.drop i)[j]? = some v → W1.drew.cell? ((⟨g, i, none⟩ : Addr).add j) = some v := fun j v hj => by
    rw [List.getElem?_drop] at hj
    have hl := (List.getElem?_eq_some_iff.1 hj).1
    rw [← hx, List.getElem?_take, if_pos hl, Array.getElem?_toList] at hj
    rw [Addr.add_lit]
    show W1.cell? ⟨g, i + j, none⟩ = _
    have h9 : W1.heap[g]? = some (.cells cur 70 (0, 0)) := by rw [hW1, setCells_far [u] i g hgne]; exact hgO
    rw [cell_of_row W1 g (i + j) cur 70 (0, 0) h9, hj]
  have hdl : (xs.drop i).length = xs.length - i := List.length_drop
  have hcp2 := fun (ty : TypeId) (dc sc : Nat) => copy_rowv (P := Try.prog) (e := 70) (w := W1.drew) (cur := cur1) hg1 72 ty Try.underlying72 sizeN (i + 1) (xs.length + 1 - (i + 1)) dc ⟨g, i, none⟩ (xs.length - i) sc (xs.drop i) (by rw [hdl]; simp only [Nat.min_def]; split <;> omega) hsrc2 (fun v hv => hone v (List.mem_of_mem_drop hv)) (by rw [hc1, hdl, hRl]; omega)
  obtain ⟨W2, hW2⟩ : ∃ W2, W2 = W1.drew.setCells nb (i + 1) (xs.drop i) := ⟨_, rfl⟩
  rw [← hW2] at hcp2
  obtain ⟨-, ⟨cur2, hg2, hc2, hl2⟩, hgr2⟩ := hcp2 3 0 0
  have FIN : Aside0 (RowV 70 W2 (.slice (some ⟨nb, 0, none⟩) (xs.length + 1) G) (insAt i u xs) ∧ Below w.heap.size w W2) := ⟨by
    refine ⟨.inr ⟨nb, G, cur2, by rw [insAt_len (by omega)], hg2, by rw [insAt_len (by omega)]; exact hGn, by rw [hc2, hc1, hRl]; exact Nat.le_refl _, hGm, ?_, fun q hq => ?_⟩, ?_⟩
    · have e0 : ROW.toList.take i = xs.take i := by
        rw [hROW]
        simp only [Array.toList_append, List.append_assoc]
        rw [List.take_append_of_le_length (by rw [List.length_take]; omega), List.take_of_length_le (by rw [List.length_take]; omega)]
      have e1 : cur1.toList.take (i + 1) = xs.take i ++ [u] := by
        rw [hl1, e0, List.append_assoc, List.take_append, List.length_take, Nat.min_eq_left (by omega), List.take_of_length_le (by rw [List.length_take]; omega), show i + 1 - i = 1 by omega]
        rfl
      have e2 : cur2.toList = insAt i u xs ++ cur1.toList.drop (i + 1 + (xs.drop i).length) := by
        rw [hl2, e1]
        unfold insAt
        simp only [List.append_assoc, List.singleton_append, List.cons_append, List.nil_append]
      rw [e2, List.take_left]
    · rcases mem_insAt hq with rfl | hq
      · exact hu
      · exact hone q hq
    · have b1 : Below w.heap.size W0 W1 := ⟨hgr1.os, hgr1.tape, hgr1.output, hgr1.size, fun k hk => hgr1.block k (Nat.lt_of_lt_of_le hk hB0.size) (fun e => by cases e; omega)⟩
      have b2 : Below w.heap.size W1 W2 := ⟨hgr2.os, hgr2.tape, hgr2.output, hgr2.size, fun k hk => hgr2.block k (Nat.lt_of_lt_of_le hk (Nat.le_trans hB0.size hgr1.size)) (fun e => by cases e; omega)⟩
      exact (hB0.trans b1).trans b2⟩
  have FIN2 : Aside0 (w.heap.size ≤ nb) := ⟨by omega⟩
  have C0 := Aside0.mk hrz
  have C1 := Aside0.mk (fun ty dc => (hcp1 ty dc).1)
  have C2 := Aside0.mk (fun ty dc sc => (hcp2 ty dc sc).1)
  have hb1 : ((i : Int) == (xs.length : Int)) = false := by rw [beq_eq_false_iff_ne]; omega
  have hb1' : (i == xs.length) = false := by rw [beq_eq_false_iff_ne]; omega
  have hb2 : IntKind.i64.wrap ((xs.length : Int) + 1) = (xs.length : Int) + 1 := by rw [i64_w]; unfold wrap64; omega
  have hb3 : decide ((c : Int) < (xs.length : Int) + 1) = true := decide_eq_true (by omega)
  have hb4 : IntKind.i64.wrap ((i : Int) + 1) = (i : Int) + 1 := by rw [i64_w]; unfold wrap64; omega
  have hb13 : IntKind.i64.wrap ((xs.length : Int) + 1 - (i : Int)) = (xs.length : Int) + 1 - (i : Int) := by rw [i64_w]; unfold wrap64; omega
  have hb5 : (i : Int) ≤ (xs.length : Int) := by omega
  have hb6 : (i : Int) ≤ (c : Int) := by omega
  have hb7 : (i : Int) ≤ (xs.length : Int) + 1 := by omega
  have hb8 : i ≤ xs.length := by omega
  have hb9 : (0 : Int) ≤ (i : Int) + 1 := by omega
  have hb10 : ¬ (G = i + 1) := by omega
  have hb11 : ¬ (G = i) := by omega
  have hb14 : ¬ (c = i) := by omega
  have hb12 : ((i : Int) + 1).toNat = i + 1 := by omega
  have hGm' : G ≤ 9223372036854775807 := by unfold maxLen at hGm; omega
  clear hcp1 hcp2 hl1 hl2 hg1 hg2 hgr1 hgr2 hsrc1 hsrc2 hvO hgO hW0 hW1 hW2 hdl hx hone hg hvb hrz hold hcells hROW hRl hG hg0 hB0 hnb hkk hGm hgl hvl
  go_enter Try.func48, Try.ntmps48
  go_upto_region 10 with ((with_reducible refine gate_dst (N := 40) rfl ?_); refine Lib.wpList_append_run _ rfl _ _ _ _ rfl _ _ rfl rfl _ _ (C0.out _) ?_)
  go_upto_region 11 with ((with_reducible refine gate_dst (N := 45) rfl ?_); refine wp_copy_run rfl _ _ 72 72 rfl (.slice (some ⟨nb, i, none⟩) (xs.length + 1 - i) (G - i)) (.slice (some ⟨vb, 0, none⟩) 1 1) (by simp [Act.eval, Act.put]) (by simp [Act.eval, Act.put]) (C1.out _ _) ?_)
  go_region_law (refine step_copy_run rfl _ _ 72 72 rfl (.slice (some ⟨nb, i + 1, none⟩) (xs.length + 1 - (i + 1)) (G - (i + 1))) (.slice (some ⟨g, i, none⟩) (xs.length - i) (c - i)) (by simp [Act.eval, Act.put]) (by simp [Act.eval, Act.put]) (C2.out _ _ _) ?_)
  go_wp2
  go_ret
  exact ⟨_, rfl, FIN.out.1, ⟨FIN.out.2.os, FIN.out.2.tape, FIN.out.2.output, FIN.out.2.size, fun k hk _ => FIN.out.2.block k hk⟩, .inr ⟨nb, rfl, FIN2.out⟩⟩
/-- slices.Insert(v, i, u) -/
theorem insertN {w : World} {v u : Value} {xs : List Value} {vb i : Nat} (h : RowV 70 w v xs) (hi : i ≤ xs.length) (hu : u.oneCell' = true) (hvb : w.heap[vb]? = some (.cells #[u] 70 (0, 0))) (hne : some vb ≠ v.ownBlock) (hl : (xs.length + 1) * 8 ≤ 140737488355328) :
    Calls Try.prog 48 #[v, .int .i64 i, .slice (some ⟨vb, 0, none⟩) 1 1] w (InsN w v (insAt i u xs)) := by
  by_cases he : i = xs.length
  · subst he
    have e : insAt xs.length u xs = xs ++ [u] := by unfold insAt; rw [List.take_length, List.drop_length]
    rw [e]
    exact insEndN h hu hvb hl
  · rcases h with ⟨rfl, rfl⟩ | ⟨g, c, cur, rfl, hg, hc, hcc, hcm, hx, hone⟩
    · simp at hi he; exact absurd hi he
    · by_cases hr : xs.length + 1 ≤ c
      · exact insShiftN hg (by omega) hr hcc hcm hx hone hu hvb (fun e => hne (by rw [e]; rfl))
      · exact insGrowN hg (by omega) hc (by omega) hcc hx hone hu hvb hl
end Go.Proofs.YtmomohljnmopfaaX
end
section
namespace Go.Proofs.YtmomohljnmopfaaX
open Go.RowKit Go.Lib Go.Proofs.YtmomohljnmopfaaW.PrintWords Go.Proofs.YtmomohljnmopfaaW.PrintLast Go.Proofs.YtmomohljnmopfaaW.PrintMore
set_option linter.unusedVariables false
set_option linter.unusedSimpArgs false
attribute [local go_sem high] eqlNil71 eqlNil72
theorem step_appendS {ops : Array Oper} {o : Oper} {a : Act} {w : World} {K : Act → World → Prop} {Q : Exit → Act → World → Prop} {E : Prop}
    (hg : o.guard = none) (d x : Operand) (dT sT : TypeId) (hop : o.op = Op.call { callee := Callee.builtin Builtin.append, args := #[d, x], argTypes := #[dT, sT] })
    (v u : Value) (hd : a.eval d = v) (hx : a.eval x = u) {v' : Value} {w' : World} (hr : (Builtin.append_ #[dT, sT] o.type #[v, u]).run Try.prog w = .ok v' w') (hK : K (a.put o.dst v') w') :
    if Region.wanted o (yielded ops a.tmps) = true then Oper.wp Try.prog o a w K Q else E := by
  have hw : Region.wanted o (yielded ops a.tmps) = true := by simp [Region.wanted, hg]
  rw [if_pos hw]
  unfold Oper.wp
  simp [execOp, hop, resolve, invoke, builtin, hd, hx, hr, Result.andThen]
  exact hK
theorem wp_clearS {w : World} {ops : Array Oper} {rest : List Oper} {o : Oper} {a : Act} {Q : Exit → Act → World → Prop} (hgd : o.guard = none) (d : Operand) (t : TypeId)
    (ho : o.op = .call { callee := .builtin .clear, args := #[d], argTypes := #[t] }) (v : Value) (hd : a.eval d = v) {v' : Value} {w' : World}
    (hr : (Builtin.clear_ #[t] o.type #[v]).run Try.prog w = .ok v' w') (h : wpList Try.prog ops Q rest (a.put o.dst v') w') : wpList Try.prog ops Q (o :: rest) a w :=
  wpList_plain hgd fun K hK => by
    unfold Oper.wp execOp
    simp only [ho, resolve, invoke, builtin, Sem.run_bind, Sem.run_pure, Result.andThen_ok, List.map_toArray, List.map_cons, List.map_nil, hd, hr]
    exact hK _ _ h
theorem gate_clearS {ops : Array Oper} {rest : List Oper} {o : Oper} {a : Act} {Q : Exit → Act → World → Prop} {w : World} {d : Operand} {t : TypeId} (_ho : o.op = .call { callee := .builtin .clear, args := #[d], argTypes := #[t] }) (h : wpList Try.prog ops Q (o :: rest) a w) : wpList Try.prog ops Q (o :: rest) a w := h
set_option maxRecDepth 100000 in
set_option maxHeartbeats 8000000 in
theorem deleteS {w : World} {v : Value} {xs : List Value} {i : Nat} (h : RowV 9 w v xs) (hi : i < xs.length) (hl : xs.length ≤ 140737488355328) :
    Calls Try.prog 45 #[v, .int .i64 i, .int .i64 ((i : Int) + 1)] w fun e w' => ∃ v', e = .returned v' ∧ RowV 9 w' v' (delAt i xs) ∧ w.grownBy w' v.ownBlock ∧ v'.ownBlock = v.ownBlock := by
  rcases h with ⟨rfl, rfl⟩ | ⟨g, c, cur, rfl, hg, hc, hcc, hcm, hx, hone⟩
  · cases hi
  simp only [maxLen] at hcm
  obtain ⟨i0, hi0, hz0, hzs, hzb⟩ : ∃ i0, Try.prog.info? 9 = some i0 ∧ i0.zero = some (.string ⟨#[]⟩) ∧ i0.size = 1 ∧ i0.bytes = 16 := by
    obtain ⟨i0, h1, h2⟩ := Option.map_eq_some_iff.1 infoS
    simp only [Prod.mk.injEq] at h2
    exact ⟨i0, h1, h2.1, h2.2.1, h2.2.2⟩
  have hdl : (xs.drop (i + 1)).length = xs.length - (i + 1) := List.length_drop
  have hcl : xs.length ≤ cur.size := Nat.le_trans hc hcc
  obtain ⟨A, hA⟩ : ∃ A : Addr, A = if c = i + 1 then ⟨g, 0, none⟩ else ⟨g, i + 1, none⟩ := ⟨_, rfl⟩
  have hsrc : ∀ j u, (xs.drop (i + 1))[j]? = some u → w.drew.cell? (A.add j) = some u := fun j u hj => by
    have hjl := (List.getElem?_eq_some_iff.1 hj).1
    rw [List.getElem?_drop] at hj
    have hl := (List.getElem?_eq_some_iff.1 hj).1
    rw [← hx, List.getElem?_take, if_pos hl, Array.getElem?_toList] at hj
    rw [hA, if_neg (by omega), Addr.add_lit]
    show w.cell? ⟨g, i + 1 + j, none⟩ = _
    rw [cell_of_row w g (i + 1 + j) cur 9 (0, 0) hg, hj]
  have hrun : ∀ ty cc, (Builtin.append_ #[71, 71] ty #[.slice (some ⟨g, 0, none⟩) i c, .slice (some A) (xs.length - (i + 1)) cc]).run Try.prog w.drew = .ok (.slice (some ⟨g, 0, none⟩) (xs.length - 1) c) (w.drew.setRow g (cur.toList.take i ++ xs.drop (i + 1) ++ cur.toList.drop (i + (xs.length - (i + 1)))).toArray) := fun ty cc => by
    have h9 := run_append_room (P := Try.prog) (w := w.drew) 71 ty 9 i0 Try.underlying71 hi0 g i c cur hg A (xs.length - (i + 1)) cc (xs.drop (i + 1)) (by rw [hzs, Nat.mul_one, hdl]) hsrc (fun u hu => hone u (List.mem_of_mem_drop hu)) (by omega) (by rw [hzs, Nat.mul_one, hdl]; omega)
    rw [hzs, Nat.mul_one, hdl, show i + (xs.length - (i + 1)) = xs.length - 1 by omega] at h9
    rw [show i + (xs.length - (i + 1)) = xs.length - 1 by omega]
    exact h9
  obtain ⟨CU, hCU⟩ : ∃ CU : Array Value, CU = (cur.toList.take i ++ xs.drop (i + 1) ++ cur.toList.drop (i + (xs.length - (i + 1)))).toArray := ⟨_, rfl⟩
  obtain ⟨W1, hW1⟩ : ∃ W1, W1 = w.drew.setRow g CU := ⟨_, rfl⟩
  rw [← hCU, ← hW1] at hrun
  have hCs : CU.size = cur.size := by
    rw [hCU]
    simp only [List.size_toArray, List.length_append, List.length_take, List.length_drop, Array.length_toList]
    omega
  have hCl : xs.length - 1 ≤ CU.toList.length := by
    have e9 : CU.toList.length = CU.size := Array.length_toList
    omega
  have hg1 : W1.heap[g]? = some (.cells CU 9 (0, 0)) := by rw [hW1]; exact setRow_heap w.drew g cur _ 9 _ hg
  have hgr1 : w.grownBy W1 (some g) := by
    rw [hW1]
    exact ⟨rfl, rfl, rfl, by simp, fun k _ hk => setRow_other w.drew g k _ (fun e => hk (by rw [e]))⟩
  have hclr : ∀ ty cc, (Builtin.clear_ #[71] ty #[.slice (some ⟨g, xs.length - 1, none⟩) 1 cc]).run Try.prog W1 = .ok (.tuple #[]) (W1.setCells g (xs.length - 1) [.string ⟨#[]⟩]) := fun ty cc =>
    run_clear_slice W1 71 9 ty (.string ⟨#[]⟩) Try.underlying71 (fun w => by simp [zeroValue, typeInfo, hi0, hz0]) rfl rfl g (xs.length - 1) 1 cc (by decide) (fun j hj => by
      rw [cell_of_row W1 g (xs.length - 1 + j) CU 9 (0, 0) hg1, Array.getElem?_eq_getElem (by omega)]; rfl) (fun j hj => blk_frozen hg1 _)
  obtain ⟨W2, hW2⟩ : ∃ W2, W2 = W1.setCells g (xs.length - 1) [.string ⟨#[]⟩] := ⟨_, rfl⟩
  rw [← hW2] at hclr
  obtain ⟨cur2, hg2, hc2, hl2⟩ := setCells_row [(.string ⟨#[]⟩ : Value)] (xs.length - 1) W1 CU hg1 (by rw [List.length_singleton]; omega)
  obtain ⟨s1, s2, s3, s4⟩ := setCells_same g [(.string ⟨#[]⟩ : Value)] (xs.length - 1) W1
  rw [← hW2] at hg2 s1 s2 s3 s4
  have hdel : (delAt i xs).length = xs.length - 1 := by
    unfold delAt
    rw [List.length_append, List.length_take, List.length_drop]; omega
  have FIN : Aside0 (RowV 9 W2 (.slice (some ⟨g, 0, none⟩) (xs.length - 1) c) (delAt i xs) ∧ w.grownBy W2 (some g)) := ⟨by
    refine ⟨.inr ⟨g, c, cur2, by rw [hdel], hg2, by rw [hdel]; omega, by rw [hc2, hCs]; exact hcc, by simp only [maxLen]; omega, ?_, fun q hq => ?_⟩, ?_⟩
    · have e1 : cur.toList.take i = xs.take i := by rw [← hx, List.take_take, Nat.min_eq_left (by omega)]
      have e2 : CU.toList = delAt i xs ++ cur.toList.drop (i + (xs.length - (i + 1))) := by
        rw [hCU, e1]
        rfl
      rw [hdel, hl2, List.append_assoc, List.take_append_of_le_length (by rw [List.length_take]; omega), List.take_take, Nat.min_self, e2, ← hdel, List.take_left]
    · unfold delAt at hq
      rcases List.mem_append.1 hq with hq | hq
      · exact hone q (List.mem_of_mem_take hq)
      · exact hone q (List.mem_of_mem_drop hq)
    · refine ⟨s1.trans hgr1.os, s2.trans hgr1.tape, s3.trans hgr1.output, by rw [s4]; exact hgr1.size, fun k hk hne => ?_⟩
      rw [hW2, setCells_far _ _ k (fun e => hne (by rw [e]))]
      exact hgr1.block k hk hne⟩
  have C1 := Aside0.mk hrun
  have C2 := Aside0.mk hclr
  have hb1 : ((i : Int) == (i : Int) + 1) = false := by rw [beq_eq_false_iff_ne]; omega
  have hb2 : (i : Int) ≤ (i : Int) + 1 := by omega
  have hb3 : (i : Int) + 1 ≤ (xs.length : Int) := by omega
  have hb4 : (xs.length : Int) ≤ (c : Int) := by omega
  have hb5 : (i : Int) ≤ (c : Int) := by omega
  have hb6 : (0 : Int) ≤ (i : Int) + 1 := by omega
  have hb7 : ((i : Int) + 1).toNat = i + 1 := by omega
  have hb8 : ((xs.length - 1 : Nat) : Int) ≤ (xs.length : Int) := by omega
  have hb9 : ¬ (c = xs.length - 1) := by omega
  have hb10 : xs.length - (xs.length - 1) = 1 := by omega
  have hb11 : (i : Int) ≤ (xs.length : Int) := by omega
  clear hrun hclr hl2 hg1 hg2 hgr1 hsrc hW1 hW2 hdl hx hone hg hdel s1 s2 s3 s4 hCU hCs
  by_cases hci : c = i + 1
  · subst hci
    rw [if_pos rfl] at hA
    go_enter Try.func45, Try.ntmps45
    go_upto_region 5 with fail
    go_region_law (refine step_appendS rfl _ _ 71 71 rfl (.slice (some ⟨g, 0, none⟩) i (i + 1)) (.slice (some A) (xs.length - (i + 1)) (i + 1 - (i + 1))) (by simp [Act.eval, Act.put]) (by rw [hA]; simp [Act.eval, Act.put]; try omega) (C1.out _ _) ?_)
    go_wp2_with ((with_reducible refine gate_clearS rfl ?_); refine wp_clearS rfl _ 71 rfl (.slice (some ⟨g, xs.length - 1, none⟩) 1 (i + 1 - (xs.length - 1))) (by simp [Act.eval, Act.put, hb10]) (C2.out _ _) ?_)
    go_ret
    exact ⟨.slice (some ⟨g, 0, none⟩) (xs.length - 1) (i + 1), rfl, FIN.out.1, FIN.out.2, rfl⟩
  · rw [if_neg hci] at hA
    go_enter Try.func45, Try.ntmps45
    go_upto_region 5 with fail
    go_region_law (refine step_appendS rfl _ _ 71 71 rfl (.slice (some ⟨g, 0, none⟩) i c) (.slice (some A) (xs.length - (i + 1)) (c - (i + 1))) (by simp [Act.eval, Act.put]) (by rw [hA]; simp [Act.eval, Act.put]) (C1.out _ _) ?_)
    go_wp2_with ((with_reducible refine gate_clearS rfl ?_); refine wp_clearS rfl _ 71 rfl (.slice (some ⟨g, xs.length - 1, none⟩) 1 (c - (xs.length - 1))) (by simp [Act.eval, Act.put, hb10]) (C2.out _ _) ?_)
    go_ret
    exact ⟨.slice (some ⟨g, 0, none⟩) (xs.length - 1) c, rfl, FIN.out.1, FIN.out.2, rfl⟩
set_option maxRecDepth 100000 in
/-- slices.Clone of what is read. -/
theorem cloneS {w : World} {A : Option Addr} {c : Nat} {ys : List Value} (hsrc : SrcV w A ys) (h1 : ∀ u ∈ ys, u.oneCell' = true) (hc : ys.length ≤ c) (hne : ys ≠ []) (hl : ys.length * 16 ≤ 140737488355328) :
    Calls Try.prog 29 #[.slice A ys.length c] w fun e w' => ∃ v', e = .returned v' ∧ RowV 9 w' v' ys ∧ Below w.heap.size w w' ∧ ∀ k ∈ v'.ownBlock.toList, w.heap.size ≤ k := by
  obtain ⟨ad, rfl, hcell⟩ := hsrc hne
  obtain ⟨W1, hW1⟩ : ∃ W1, W1 = w.alloc (.cells #[] 9) := ⟨_, rfl⟩
  have HS : Aside0 (SrcV W1 (some ad) ys) := ⟨fun _ => ⟨ad, rfl, fun j u hj => by
    have h9 := hcell j u hj
    rw [hW1]
    exact ((below_alloc (Below.refl _ w) _).cell (World.block_lt_of_cell? _ _ h9)).trans h9⟩⟩
  have H1 := Aside0.mk h1
  have HR : Aside0 (RowV 9 W1 (.slice (some ⟨w.heap.size, 0, none⟩) 0 0) []) := ⟨.inr ⟨w.heap.size, 0, #[], rfl, by rw [hW1]; exact blk_new w _, Nat.le_refl _, Nat.le_refl _, by simp [maxLen], rfl, fun u hu => by cases hu⟩⟩
  have HB : Aside0 (Below w.heap.size w W1) := ⟨by rw [hW1]; exact below_alloc (Below.refl _ _) _⟩
  have hz : (([] : List Value).length + ys.length) * 16 ≤ 140737488355328 := by simpa using hl
  have HZ := Aside0.mk hz
  have e1 : ¬ (ys.length = 0) := fun e => hne (List.eq_nil_of_length_eq_zero e)
  clear hsrc h1 hne hl hcell hz
  go_enter Try.func29, Try.ntmps29
  obtain ⟨nb, hnb⟩ : ∃ nb, nb = w.heap.size := ⟨_, rfl⟩
  rw [← hnb] at HR
  have HNB := Aside0.mk hnb
  go_wp2_with ((with_reducible refine gate_dst (N := 7) rfl ?_); (try rw [← hW1]); (try rw [← hnb]); refine wp_rowv_append rfl (.tmp 5) (.tmp 6) 71 rfl HR.out Try.underlying71 infoS rfl (by decide) HS.out H1.out rfl rfl HZ.out ?_; intro v' w1 hr hg hf; have R1 := Aside0.mk (And.intro hr (And.intro hg hf)); clear hr hg hf)
  go_ret
  obtain ⟨r1, r2, r3⟩ := R1.out
  refine ⟨v', rfl, r1, ?_, fun k hk => ?_⟩
  · exact ⟨r2.os.trans HB.out.os, r2.tape.trans HB.out.tape, r2.output.trans HB.out.output, Nat.le_trans HB.out.size r2.size, fun k hk => (r2.block k (Nat.lt_of_lt_of_le hk HB.out.size) (fun e => by simp [Value.ownBlock] at e; have := HNB.out; omega)).trans (HB.out.block k hk)⟩
  · rcases r3 with r3 | ⟨b, r3, hb⟩
    · rw [r3] at hk
      simp [Value.ownBlock] at hk
      rw [hk, HNB.out]; exact Nat.le_refl _
    · rw [r3] at hk
      simp at hk
      rw [hk]; exact Nat.le_trans HB.out.size hb
end Go.Proofs.YtmomohljnmopfaaX
end
section
namespace Go.Proofs.YtmomohljnmopfaaX
open Go.RowKit Go.Lib Go.Proofs.YtmomohljnmopfaaW.PrintWords Go.Proofs.YtmomohljnmopfaaW.PrintLast Go.Proofs.YtmomohljnmopfaaW.PrintMore
set_option linter.unusedVariables false
set_option linter.unusedSimpArgs false
attribute [local go_sem high] eqlNil71 eqlNil72
theorem step_appendN {ops : Array Oper} {o : Oper} {a : Act} {w : World} {K : Act → World → Prop} {Q : Exit → Act → World → Prop} {E : Prop}
    (hg : o.guard = none) (d x : Operand) (dT sT : TypeId) (hop : o.op = Op.call { callee := Callee.builtin Builtin.append, args := #[d, x], argTypes := #[dT, sT] })
    (v u : Value) (hd : a.eval d = v) (hx : a.eval x = u) {v' : Value} {w' : World} (hr : (Builtin.append_ #[dT, sT] o.type #[v, u]).run Try.prog w = .ok v' w') (hK : K (a.put o.dst v') w') :
    if Region.wanted o (yielded ops a.tmps) = true then Oper.wp Try.prog o a w K Q else E := by
  have hw : Region.wanted o (yielded ops a.tmps) = true := by simp [Region.wanted, hg]
  rw [if_pos hw]
  unfold Oper.wp
  simp [execOp, hop, resolve, invoke, builtin, hd, hx, hr, Result.andThen]
  exact hK
theorem wp_clearN {w : World} {ops : Array Oper} {rest : List Oper} {o : Oper} {a : Act} {Q : Exit → Act → World → Prop} (hgd : o.guard = none) (d : Operand) (t : TypeId)
    (ho : o.op = .call { callee := .builtin .clear, args := #[d], argTypes := #[t] }) (v : Value) (hd : a.eval d = v) {v' : Value} {w' : World}
    (hr : (Builtin.clear_ #[t] o.type #[v]).run Try.prog w = .ok v' w') (h : wpList Try.prog ops Q rest (a.put o.dst v') w') : wpList Try.prog ops Q (o :: rest) a w :=
  wpList_plain hgd fun K hK => by
    unfold Oper.wp execOp
    simp only [ho, resolve, invoke, builtin, Sem.run_bind, Sem.run_pure, Result.andThen_ok, List.map_toArray, List.map_cons, List.map_nil, hd, hr]
    exact hK _ _ h
theorem gate_clearN {ops : Array Oper} {rest : List Oper} {o : Oper} {a : Act} {Q : Exit → Act → World → Prop} {w : World} {d : Operand} {t : TypeId} (_ho : o.op = .call { callee := .builtin .clear, args := #[d], argTypes := #[t] }) (h : wpList Try.prog ops Q (o :: rest) a w) : wpList Try.prog ops Q (o :: rest) a w := h
set_option maxRecDepth 100000 in
set_option maxHeartbeats 8000000 in
theorem deleteN {w : World} {v : Value} {xs : List Value} {i : Nat} (h : RowV 70 w v xs) (hi : i < xs.length) (hl : xs.length ≤ 140737488355328) :
    Calls Try.prog 58 #[v, .int .i64 i, .int .i64 ((i : Int) + 1)] w fun e w' => ∃ v', e = .returned v' ∧ RowV 70 w' v' (delAt i xs) ∧ w.grownBy w' v.ownBlock ∧ v'.ownBlock = v.ownBlock := by
  rcases h with ⟨rfl, rfl⟩ | ⟨g, c, cur, rfl, hg, hc, hcc, hcm, hx, hone⟩
  · cases hi
  simp only [maxLen] at hcm
  obtain ⟨i0, hi0, hz0, hzs, hzb⟩ : ∃ i0, Try.prog.info? 70 = some i0 ∧ i0.zero = some (.pointer none) ∧ i0.size = 1 ∧ i0.bytes = 8 := by
    obtain ⟨i0, h1, h2⟩ := Option.map_eq_some_iff.1 infoN
    simp only [Prod.mk.injEq] at h2
    exact ⟨i0, h1, h2.1, h2.2.1, h2.2.2⟩
  have hdl : (xs.drop (i + 1)).length = xs.length - (i + 1) := List.length_drop
  have hcl : xs.length ≤ cur.size := Nat.le_trans hc hcc
  obtain ⟨A, hA⟩ : ∃ A : Addr, A = if c = i + 1 then ⟨g, 0, none⟩ else ⟨g, i + 1, none⟩ := ⟨_, rfl⟩
  have hsrc : ∀ j u, (xs.drop (i + 1))[j]? = some u → w.drew.cell? (A.add j) = some u := fun j u hj => by
    have hjl := (List.getElem?_eq_some_iff.1 hj).1
    rw [List.getElem?_drop] at hj
    have hl := (List.getElem?_eq_some_iff.1 hj).1
    rw [← hx, List.getElem?_take, if_pos hl, Array.getElem?_toList] at hj
    rw [hA, if_neg (by omega), Addr.add_lit]
    show w.cell? ⟨g, i + 1 + j, none⟩ = _
    rw [cell_of_row w g (i + 1 + j) cur 70 (0, 0) hg, hj]
  have hrun : ∀ ty cc, (Builtin.append_ #[72, 72] ty #[.slice (some ⟨g, 0, none⟩) i c, .slice (some A) (xs.length - (i + 1)) cc]).run Try.prog w.drew = .ok (.slice (some ⟨g, 0, none⟩) (xs.length - 1) c) (w.drew.setRow g (cur.toList.take i ++ xs.drop (i + 1) ++ cur.toList.drop (i + (xs.length - (i + 1)))).toArray) := fun ty cc => by
    have h9 := run_append_room (P := Try.prog) (w := w.drew) 72 ty 70 i0 Try.underlying72 hi0 g i c cur hg A (xs.length - (i + 1)) cc (xs.drop (i + 1)) (by rw [hzs, Nat.mul_one, hdl]) hsrc (fun u hu => hone u (List.mem_of_mem_drop hu)) (by omega) (by rw [hzs, Nat.mul_one, hdl]; omega)
    rw [hzs, Nat.mul_one, hdl, show i + (xs.length - (i + 1)) = xs.length - 1 by omega] at h9
    rw [show i + (xs.length - (i + 1)) = xs.length - 1 by omega]
    exact h9
  obtain ⟨CU, hCU⟩ : ∃ CU : Array Value, CU = (cur.toList.take i ++ xs.drop (i + 1) ++ cur.toList.drop (i + (xs.length - (i + 1)))).toArray := ⟨_, rfl⟩
  obtain ⟨W1, hW1⟩ : ∃ W1, W1 = w.drew.setRow g CU := ⟨_, rfl⟩
  rw [← hCU, ← hW1] at hrun
  have hCs : CU.size = cur.size := by
    rw [hCU]
    simp only [List.size_toArray, List.length_append, List.length_take, List.length_drop, Array.length_toList]
    omega
  have hCl : xs.length - 1 ≤ CU.toList.length := by
    have e9 : CU.toList.length = CU.size := Array.length_toList
    omega
  have hg1 : W1.heap[g]? = some (.cells CU 70 (0, 0)) := by rw [hW1]; exact setRow_heap w.drew g cur _ 70 _ hg
  have hgr1 : w.grownBy W1 (some g) := by
    rw [hW1]
    exact ⟨rfl, rfl, rfl, by simp, fun k _ hk => setRow_other w.drew g k _ (fun e => hk (by rw [e]))⟩
  have hclr : ∀ ty cc, (Builtin.clear_ #[72] ty #[.slice (some ⟨g, xs.length - 1, none⟩) 1 cc]).run Try.prog W1 = .ok (.tuple #[]) (W1.setCells g (xs.length - 1) [.pointer none]) := fun ty cc =>
    run_clear_slice W1 72 70 ty (.pointer none) Try.underlying72 (fun w => by simp [zeroValue, typeInfo, hi0, hz0]) rfl rfl g (xs.length - 1) 1 cc (by decide) (fun j hj => by
      rw [cell_of_row W1 g (xs.length - 1 + j) CU 70 (0, 0) hg1, Array.getElem?_eq_getElem (by omega)]; rfl) (fun j hj => blk_frozen hg1 _)
  obtain ⟨W2, hW2⟩ : ∃ W2, W2 = W1.setCells g (xs.length - 1) [.pointer none] := ⟨_, rfl⟩
  rw [← hW2] at hclr
  obtain ⟨cur2, hg2, hc2, hl2⟩ := setCells_row [(.pointer none : Value)] (xs.length - 1) W1 CU hg1 (by rw [List.length_singleton]; omega)
  obtain ⟨s1, s2, s3, s4⟩ := setCells_same g [(.pointer none : Value)] (xs.length - 1) W1
  rw [← hW2] at hg2 s1 s2 s3 s4
  have hdel : (delAt i xs).length = xs.length - 1 := by
    unfold delAt
    rw [List.length_append, List.length_take, List.length_drop]; omega
  have FIN : Aside0 (RowV 70 W2 (.slice (some ⟨g, 0, none⟩) (xs.length - 1) c) (delAt i xs) ∧ w.grownBy W2 (some g)) := ⟨by
    refine ⟨.inr ⟨g, c, cur2, by rw [hdel], hg2, by rw [hdel]; omega, by rw [hc2, hCs]; exact hcc, by simp only [maxLen]; omega, ?_, fun q hq => ?_⟩, ?_⟩
    · have e1 : cur.toList.take i = xs.take i := by rw [← hx, List.take_take, Nat.min_eq_left (by omega)]
      have e2 : CU.toList = delAt i xs ++ cur.toList.drop (i + (xs.length - (i + 1))) := by
        rw [hCU, e1]
        rfl
      rw [hdel, hl2, List.append_assoc, List.take_append_of_le_length (by rw [List.length_take]; omega), List.take_take, Nat.min_self, e2, ← hdel, List.take_left]
    · unfold delAt at hq
      rcases List.mem_append.1 hq with hq | hq
      · exact hone q (List.mem_of_mem_take hq)
      · exact hone q (List.mem_of_mem_drop hq)
    · refine ⟨s1.trans hgr1.os, s2.trans hgr1.tape, s3.trans hgr1.output, by rw [s4]; exact hgr1.size, fun k hk hne => ?_⟩
      rw [hW2, setCells_far _ _ k (fun e => hne (by rw [e]))]
      exact hgr1.block k hk hne⟩
  have C1 := Aside0.mk hrun
  have C2 := Aside0.mk hclr
  have hb1 : ((i : Int) == (i : Int) + 1) = false := by rw [beq_eq_false_iff_ne]; omega
  have hb2 : (i : Int) ≤ (i : Int) + 1 := by omega
  have hb3 : (i : Int) + 1 ≤ (xs.length : Int) := by omega
  have hb4 : (xs.length : Int) ≤ (c : Int) := by omega
  have hb5 : (i : Int) ≤ (c : Int) := by omega
  have hb6 : (0 : Int) ≤ (i : Int) + 1 := by omega
  have hb7 : ((i : Int) + 1).toNat = i + 1 := by omega
  have hb8 : ((xs.length - 1 : Nat) : Int) ≤ (xs.length : Int) := by omega
  have hb9 : ¬ (c = xs.length - 1) := by omega
  have hb10 : xs.length - (xs.length - 1) = 1 := by omega
  have hb11 : (i : Int) ≤ (xs.length : Int) := by omega
  clear hrun hclr hl2 hg1 hg2 hgr1 hsrc hW1 hW2 hdl hx hone hg hdel s1 s2 s3 s4 hCU hCs
  by_cases hci : c = i + 1
  · subst hci
    rw [if_pos rfl] at hA
    go_enter Try.func58, Try.ntmps58
    go_upto_region 5 with fail
    go_region_law (refine step_appendN rfl _ _ 72 72 rfl (.slice (some ⟨g, 0, none⟩) i (i + 1)) (.slice (some A) (xs.length - (i + 1)) (i + 1 - (i + 1))) (by simp [Act.eval, Act.put]) (by rw [hA]; simp [Act.eval, Act.put]; try omega) (C1.out _ _) ?_)
    go_wp2_with ((with_reducible refine gate_clearN rfl ?_); refine wp_clearN rfl _ 72 rfl (.slice (some ⟨g, xs.length - 1, none⟩) 1 (i + 1 - (xs.length - 1))) (by simp [Act.eval, Act.put, hb10]) (C2.out _ _) ?_)
    go_ret
    exact ⟨.slice (some ⟨g, 0, none⟩) (xs.length - 1) (i + 1), rfl, FIN.out.1, FIN.out.2, rfl⟩
  · rw [if_neg hci] at hA
    go_enter Try.func58, Try.ntmps58
    go_upto_region 5 with fail
    go_region_law (refine step_appendN rfl _ _ 72 72 rfl (.slice (some ⟨g, 0, none⟩) i c) (.slice (some A) (xs.length - (i + 1)) (c - (i + 1))) (by simp [Act.eval, Act.put]) (by rw [hA]; simp [Act.eval, Act.put]) (C1.out _ _) ?_)
    go_wp2_with ((with_reducible refine gate_clearN rfl ?_); refine wp_clearN rfl _ 72 rfl (.slice (some ⟨g, xs.length - 1, none⟩) 1 (c - (xs.length - 1))) (by simp [Act.eval, Act.put, hb10]) (C2.out _ _) ?_)
    go_ret
    exact ⟨.slice (some ⟨g, 0, none⟩) (xs.length - 1) c, rfl, FIN.out.1, FIN.out.2, rfl⟩
set_option maxRecDepth 100000 in
/-- slices.Clone of what is read. -/
theorem cloneN {w : World} {A : Option Addr} {c : Nat} {ys : List Value} (hsrc : SrcV w A ys) (h1 : ∀ u ∈ ys, u.oneCell' = true) (hc : ys.length ≤ c) (hne : ys ≠ []) (hl : ys.length * 8 ≤ 140737488355328) :
    Calls Try.prog 30 #[.slice A ys.length c] w fun e w' => ∃ v', e = .returned v' ∧ RowV 70 w' v' ys ∧ Below w.heap.size w w' ∧ ∀ k ∈ v'.ownBlock.toList, w.heap.size ≤ k := by
  obtain ⟨ad, rfl, hcell⟩ := hsrc hne
  obtain ⟨W1, hW1⟩ : ∃ W1, W1 = w.alloc (.cells #[] 70) := ⟨_, rfl⟩
  have HS : Aside0 (SrcV W1 (some ad) ys) := ⟨fun _ => ⟨ad, rfl, fun j u hj => by
    have h9 := hcell j u hj
    rw [hW1]
    exact ((below_alloc (Below.refl _ w) _).cell (World.block_lt_of_cell? _ _ h9)).trans h9⟩⟩
  have H1 := Aside0.mk h1
  have HR : Aside0 (RowV 70 W1 (.slice (some ⟨w.heap.size, 0, none⟩) 0 0) []) := ⟨.inr ⟨w.heap.size, 0, #[], rfl, by rw [hW1]; exact blk_new w _, Nat.le_refl _, Nat.le_refl _, by simp [maxLen], rfl, fun u hu => by cases hu⟩⟩
  have HB : Aside0 (Below w.heap.size w W1) := ⟨by rw [hW1]; exact below_alloc (Below.refl _ _) _⟩
  have hz : (([] : List Value).length + ys.length) * 8 ≤ 140737488355328 := by simpa using hl
  have HZ := Aside0.mk hz
  have e1 : ¬ (ys.length = 0) := fun e => hne (List.eq_nil_of_length_eq_zero e)
  clear hsrc h1 hne hl hcell hz
  go_enter Try.func30, Try.ntmps30
  obtain ⟨nb, hnb⟩ : ∃ nb, nb = w.heap.size := ⟨_, rfl⟩
  rw [← hnb] at HR
  have HNB := Aside0.mk hnb
  go_wp2_with ((with_reducible refine gate_dst (N := 7) rfl ?_); (try rw [← hW1]); (try rw [← hnb]); refine wp_rowv_append rfl (.tmp 5) (.tmp 6) 72 rfl HR.out Try.underlying72 infoN rfl (by decide) HS.out H1.out rfl rfl HZ.out ?_; intro v' w1 hr hg hf; have R1 := Aside0.mk (And.intro hr (And.intro hg hf)); clear hr hg hf)
  go_ret
  obtain ⟨r1, r2, r3⟩ := R1.out
  refine ⟨v', rfl, r1, ?_, fun k hk => ?_⟩
  · exact ⟨r2.os.trans HB.out.os, r2.tape.trans HB.out.tape, r2.output.trans HB.out.output, Nat.le_trans HB.out.size r2.size, fun k hk => (r2.block k (Nat.lt_of_lt_of_le hk HB.out.size) (fun e => by simp [Value.ownBlock] at e; have := HNB.out; omega)).trans (HB.out.block k hk)⟩
  · rcases r3 with r3 | ⟨b, r3, hb⟩
    · rw [r3] at hk
      simp [Value.ownBlock] at hk
      rw [hk, HNB.out]; exact Nat.le_refl _
    · rw [r3] at hk
      simp at hk
      rw [hk]; exact Nat.le_trans HB.out.size hb
end Go.Proofs.YtmomohljnmopfaaX
end
section
namespace Go.Proofs.YtmomohljnmopfaaX
open Go.RowKit Go.Proofs.YtmomohljnmopfaaW.PrintWords Go.Proofs.YtmomohljnmopfaaW.PrintLast Go.Proofs.YtmomohljnmopfaaW.PrintMore
set_option linter.unusedVariables false
set_option linter.unusedSimpArgs false
def encN (k : Nm) : Value := .string ⟨k.toArray⟩
def encKs (ks : List Nm) : List Value := ks.map encN
theorem encKs_get {ks : List Nm} {i : Nat} {k : Nm} (h : ks[i]? = some k) : (encKs ks)[i]? = some (.string ⟨k.toArray⟩) := by rw [encKs, List.getElem?_map, h]; rfl
theorem encKs_len (ks : List Nm) : (encKs ks).length = ks.length := List.length_map _
theorem nlt_eq (x y : Nm) : Op.bytesLess x y = decide (x < y) := bytesLess_eq x y
theorem isNaN57 (x : Nm) (w : World) : Calls Try.prog 57 #[.string ⟨x.toArray⟩] w fun e w' => e = .returned (.bool false) ∧ w' = w := by
  have e1 : (x == x) = true := by simp
  have e2 : (x != x) = false := by simp
  go_enter Try.func57, Try.ntmps57
  go_wp2
  go_ret
  exact ⟨rfl, rfl⟩
theorem isNaN50 (x : Nm) (w : World) : Calls Try.prog 50 #[.string ⟨x.toArray⟩] w fun e w' => e = .returned (.bool false) ∧ w' = w := by
  have e1 : (x == x) = true := by simp
  have e2 : (x != x) = false := by simp
  go_enter Try.func50, Try.ntmps50
  go_wp2
  go_ret
  exact ⟨rfl, rfl⟩
theorem less_calls (x y : Nm) (w : World) : Calls Try.prog 49 #[.string ⟨x.toArray⟩, .string ⟨y.toArray⟩] w fun e w' => e = .returned (.bool (decide (x < y))) ∧ w' = w := by
  have cX := isNaN57 x w
  have hlt := nlt_eq x y
  go_enter Try.func49, Try.ntmps49
  go_wp2_with (go_at_call 57; refine cX.mono ?_; rintro e w1 ⟨rfl, rfl⟩)
  go_ret
  exact ⟨rfl, rfl⟩
/-- Where a key stands, or would. -/
theorem rank_le : ∀ (ks : List Nm) (x : Nm), rank ks x ≤ ks.length
  | [], _ => Nat.le_refl _
  | k :: ks, x => by unfold rank; split; · have := rank_le ks x; rw [List.length_cons]; omega
                     · exact Nat.zero_le _
theorem rank_is {x : Nm} : ∀ {ks : List Nm} {i : Nat}, i ≤ ks.length → (∀ q k, q < i → ks[q]? = some k → k < x) → (∀ k, ks[i]? = some k → ¬ k < x) → rank ks x = i
  | [], i, h, _, _ => by simp at h; subst h; rfl
  | k :: ks, 0, h, _, h2 => by unfold rank; rw [if_neg (h2 k rfl)]
  | k :: ks, i + 1, h, h1, h2 => by
    unfold rank
    rw [if_pos (h1 0 k (by omega) rfl), rank_is (ks := ks) (i := i) (by simpa using h) (fun q k hq hk => h1 (q + 1) k (by omega) (by simpa using hk)) (fun k hk => h2 k (by simpa using hk))]
def RisesK (ks : List Nm) : Prop := ks.Pairwise (· < ·)
theorem risesK_lt {ks : List Nm} (h : RisesK ks) {p q : Nat} {a b : Nm} (hpq : p < q) (ha : ks[p]? = some a) (hb : ks[q]? = some b) : a < b := by
  obtain ⟨ha1, ha2⟩ := List.getElem?_eq_some_iff.1 ha
  obtain ⟨hb1, hb2⟩ := List.getElem?_eq_some_iff.1 hb
  rw [← ha2, ← hb2]
  exact List.pairwise_iff_getElem.1 h p q ha1 hb1 hpq
set_option maxRecDepth 100000 in
set_option maxHeartbeats 4000000 in
theorem search_calls {ks : List Nm} {x : Nm} {A : Option Addr} {c : Nat} {w : World} (hsrc : SrcV w A (encKs ks)) (hc : ks.length ≤ c) (hn : ks.length ≤ 70368744177664) (hr : RisesK ks) :
    Calls Try.prog 40 #[.slice A ks.length c, .string ⟨x.toArray⟩] w fun e w' => e = .returned (.tuple #[.int .i64 (rank ks x), .bool (decide (ks[rank ks x]? = some x))]) ∧ w' = w := by
  have HS := Aside0.mk hsrc
  have HN := Aside0.mk hn
  have HR := Aside0.mk hr
  clear hsrc hn hr
  go_enter Try.func40, Try.ntmps40
  go_wp2
  go_loopg [7, 8] ks.length (fun kq v7 v8 wr => ∃ i j : Nat, v7 = .int .i64 i ∧ v8 = .int .i64 j ∧ Aside0 (j - i ≤ kq ∧ i ≤ j ∧ j ≤ ks.length) ∧ Aside0 ((∀ q k, q < i → ks[q]? = some k → k < x) ∧ ∀ q k, j ≤ q → ks[q]? = some k → ¬ k < x) ∧ wr = w)
  case atStart => exact ⟨0, ks.length, rfl, rfl, ⟨by omega, by omega, Nat.le_refl _⟩, ⟨fun q k hq => absurd hq (by omega), fun q k hq hk => absurd (List.getElem?_eq_some_iff.1 hk).1 (by omega)⟩, rfl⟩
  case round =>
    obtain ⟨i, j, rfl, rfl, h1, h2, rfl⟩ := hrel
    by_cases hij : i < j
    · have e1 : decide ((i : Int) < (j : Int)) = true := decide_eq_true (by omega)
      have e1' : decide (i < j) = true := decide_eq_true hij
      obtain ⟨m, hm⟩ : ∃ m, m = (i + j) / 2 := ⟨_, rfl⟩
      have hml : m < ks.length := by have := h1.out; omega
      obtain ⟨k, hk⟩ : ∃ k, ks[m]? = some k := ⟨_, List.getElem?_eq_getElem hml⟩
      obtain ⟨ad, rfl, hcell⟩ := HS.out (fun e => by have := encKs_len ks; rw [e] at this; simp at this; omega)
      have hcm := hcell m _ (encKs_get hk)
      have e3 : IntKind.i64.wrap ((i : Int) + (j : Int)) = (i : Int) + (j : Int) := by have := h1.out; have := HN.out; rw [i64_w]; unfold wrap64; omega
      have HM := Aside0.mk hm
      have HK := Aside0.mk hk
      have cL := less_calls k x wr
      have e4 : wrap64 (IntKind.u64.wrap ((i : Int) + (j : Int)) / 2) = (m : Int) := by
        have := h1.out; have := HN.out; have := HM.out
        have e9 : IntKind.u64.wrap ((i : Int) + (j : Int)) = (i : Int) + (j : Int) := by rw [IntKind.wrap_u64]; omega
        rw [e9]
        unfold wrap64
        omega
      have e5 : (m : Int) < (ks.length : Int) := by omega
      have e6 : IntKind.i64.wrap ((m : Int) + 1) = ((m + 1 : Nat) : Int) := by have := HN.out; rw [i64_w]; unfold wrap64; omega
      have HML := Aside0.mk hml
      have HIJ := Aside0.mk hij
      clear hm hk hml hij
      by_cases hlt : k < x
      · rw [decide_eq_true hlt] at cL
        have HLT := Aside0.mk hlt
        clear hlt
        go_wp2_with (go_at_call 49; refine cL.mono ?_; rintro e w1 ⟨rfl, rfl⟩)
        go_roundg (gk - 1)
        case measure => have := h1.out; have := HM.out; have := HIJ.out; omega
        case rel =>
          refine ⟨m + 1, j, by simp, rfl, ⟨by have := h1.out; have := HM.out; have := HIJ.out; omega, by have := h1.out; have := HM.out; have := HIJ.out; omega, h1.out.2.2⟩, ⟨fun q k' hq hk' => ?_, h2.out.2⟩, rfl⟩
          rcases Nat.lt_or_ge q m with h9 | h9
          · exact nm_trans (risesK_lt HR.out h9 hk' HK.out) HLT.out
          · obtain rfl : q = m := by omega
            rw [HK.out] at hk'
            cases hk'
            exact HLT.out
      · rw [decide_eq_false hlt] at cL
        have HLT : Aside0 (¬ k < x) := ⟨hlt⟩
        clear hlt
        go_wp2_with (go_at_call 49; refine cL.mono ?_; rintro e w1 ⟨rfl, rfl⟩)
        go_roundg (gk - 1)
        case measure => have := h1.out; have := HM.out; have := HIJ.out; omega
        case rel =>
          refine ⟨i, m, rfl, by simp, ⟨by have := h1.out; have := HM.out; have := HIJ.out; omega, by have := h1.out; have := HM.out; have := HIJ.out; omega, by have := HML.out; omega⟩, ⟨h2.out.1, fun q k' hq hk' => ?_⟩, rfl⟩
          rcases Nat.lt_or_ge m q with h9 | h9
          · exact fun h8 => HLT.out (nm_trans (risesK_lt HR.out h9 HK.out hk') h8)
          · obtain rfl : q = m := by omega
            rw [HK.out] at hk'
            cases hk'
            exact HLT.out
    · have e1 : decide ((i : Int) < (j : Int)) = false := decide_eq_false (by omega)
      have e1' : decide (i < j) = false := decide_eq_false hij
      have hR : rank ks x = i := rank_is (by have := h1.out; omega) h2.out.1 (fun k hk => h2.out.2 i k (by have := h1.out; omega) hk)
      have HRK := Aside0.mk hR
      by_cases hil : i < ks.length
      · have e2 : decide ((i : Int) < (ks.length : Int)) = true := decide_eq_true (by omega)
        have e2' : decide (i < ks.length) = true := decide_eq_true hil
        have e3 : (i : Int) < (ks.length : Int) := by omega
        obtain ⟨k, hk⟩ : ∃ k, ks[i]? = some k := ⟨_, List.getElem?_eq_getElem hil⟩
        obtain ⟨ad, rfl, hcell⟩ := HS.out (fun e => by have := encKs_len ks; rw [e] at this; simp at this; omega)
        have hcm := hcell i _ (encKs_get hk)
        have cN := isNaN50 k wr
        have HK := Aside0.mk hk
        clear hk hil hij hR
        by_cases hx : k = x
        · have e4 : (k == x) = true := by rw [beq_iff_eq]; exact hx
          have e4' : (x == x) = true := by simp
          have HX := Aside0.mk hx
          clear hx
          go_wp2
          go_ret2
          refine ⟨?_, rfl⟩
          rw [HRK.out, HK.out, HX.out, decide_eq_true rfl]
          rfl
        · have e4 : (k == x) = false := by rw [beq_eq_false_iff_ne]; exact hx
          have HX : Aside0 (¬ k = x) := ⟨hx⟩
          clear hx
          go_wp2_with (go_at_call 50; refine cN.mono ?_; rintro e w1 ⟨rfl, rfl⟩)
          go_ret2
          refine ⟨?_, rfl⟩
          rw [HRK.out, HK.out, decide_eq_false (fun e => HX.out (Option.some.inj e))]
          rfl
      · have e2 : decide ((i : Int) < (ks.length : Int)) = false := decide_eq_false (by omega)
        have e2' : decide (i < ks.length) = false := decide_eq_false hil
        have HX : Aside0 (ks[i]? = none) := ⟨List.getElem?_eq_none (by omega)⟩
        clear hil hij hR
        go_wp2
        go_ret2
        refine ⟨?_, rfl⟩
        rw [HRK.out, HX.out, decide_eq_false (fun e => by cases e)]
        rfl
end Go.Proofs.YtmomohljnmopfaaX
end
section
namespace Go.Proofs.YtmomohljnmopfaaX
open Go.RowKit Go.Lib Go.Proofs.YtmomohljnmopfaaW.PrintWords Go.Proofs.YtmomohljnmopfaaW.PrintLast Go.Proofs.YtmomohljnmopfaaW.PrintMore
set_option linter.unusedVariables false
set_option linter.unusedSimpArgs false
attribute [local go_sem high] eqlNil71 eqlNil72
def encP (b : Nat) : Value := .pointer (some ⟨b, 0, none⟩)
def encVs (l : List KV) : List Value := l.map (fun p => .string p.2)
def keysOf (l : List KV) : List Nm := l.map Prod.fst
/-- Kids one behind the other, apart. -/
def KidsAt {α : Type} (R : Nat → α → List Nat → Prop) : List Nat → List α → List Nat → Prop
  | [], [], S => S = []
  | b :: bs, c :: cs, S => ∃ S1 S2, R b c S1 ∧ KidsAt R bs cs S2 ∧ S = S1 ++ S2
  | _, _, _ => False
def LeafAt (w : World) (b : Nat) (l : List KV) (S : List Nat) : Prop :=
  ∃ kv vv, w.heap[b]? = some (.cells #[kv, vv, .slice none 0 0] 74 (0, 0)) ∧ RowV 9 w kv (encKs (keysOf l)) ∧ RowV 9 w vv (encVs l) ∧ S = b :: (kv.ownBlock.toList ++ vv.ownBlock.toList) ∧ S.Nodup
def InnerAt {α : Type} (R : Nat → α → List Nat → Prop) (w : World) (b : Nat) (ks : List Nm) (cs : List α) (S : List Nat) : Prop :=
  ∃ kv cv bs S2, w.heap[b]? = some (.cells #[kv, .slice none 0 0, cv] 74 (0, 0)) ∧ RowV 9 w kv (encKs ks) ∧ RowV 70 w cv (bs.map encP) ∧ KidsAt R bs cs S2 ∧ cs.length = ks.length + 1 ∧ S = b :: (kv.ownBlock.toList ++ (cv.ownBlock.toList ++ S2)) ∧ S.Nodup
def NodeAt : (h : Nat) → World → Nat → T h → List Nat → Prop
  | 0, w, b, l, S => LeafAt w b l S
  | h + 1, w, b, t, S => InnerAt (NodeAt h w) w b t.1 t.2 S
section
variable {α : Type} {R R' : Nat → α → List Nat → Prop}
theorem kids_len : ∀ {bs : List Nat} {cs : List α} {S : List Nat}, KidsAt R bs cs S → bs.length = cs.length
  | [], [], _, _ => rfl
  | b :: bs, c :: cs, S, ⟨S1, S2, _, h, _⟩ => by rw [List.length_cons, List.length_cons, kids_len h]
  | [], c :: cs, _, h => h.elim
  | b :: bs, [], _, h => h.elim
theorem kids_imp : ∀ {bs : List Nat} {cs : List α} {S : List Nat}, KidsAt R bs cs S → (∀ b c S1, (∀ k ∈ S1, k ∈ S) → R b c S1 → R' b c S1) → KidsAt R' bs cs S
  | [], [], _, h, _ => h
  | b :: bs, c :: cs, S, ⟨S1, S2, h1, h2, h3⟩, hi => ⟨S1, S2, hi b c S1 (fun k hk => by rw [h3]; simp [hk]) h1, kids_imp h2 (fun b c S3 hs => hi b c S3 (fun k hk => by rw [h3]; simp [hs k hk])), h3⟩
  | [], c :: cs, _, h, _ => h.elim
  | b :: bs, [], _, h, _ => h.elim
theorem kids_mem : ∀ {bs : List Nat} {cs : List α} {S : List Nat}, KidsAt R bs cs S → ∀ k ∈ S, ∃ b c S1, R b c S1 ∧ k ∈ S1
  | [], [], _, h, k, hk => by rw [h] at hk; cases hk
  | b :: bs, c :: cs, S, ⟨S1, S2, h1, h2, h3⟩, k, hk => by
    rw [h3] at hk
    rcases List.mem_append.1 hk with hk | hk
    · exact ⟨b, c, S1, h1, hk⟩
    · exact kids_mem h2 k hk
  | [], c :: cs, _, h, _, _ => h.elim
  | b :: bs, [], _, h, _, _ => h.elim
theorem kids_app {bs2 : List Nat} {cs2 : List α} {S2 : List Nat} : ∀ {bs : List Nat} {cs : List α} {S : List Nat}, KidsAt R bs cs S → KidsAt R bs2 cs2 S2 → KidsAt R (bs ++ bs2) (cs ++ cs2) (S ++ S2)
  | [], [], _, h, h2 => by rw [h]; exact h2
  | b :: bs, c :: cs, S, ⟨S1, S3, h1, h3, h4⟩, h2 => ⟨S1, S3 ++ S2, h1, kids_app h3 h2, by rw [h4, List.append_assoc]⟩
  | [], c :: cs, _, h, _ => h.elim
  | b :: bs, [], _, h, _ => h.elim
/-- Kids, one of them in its place. -/
theorem kids_at : ∀ {bs : List Nat} {cs : List α} {S : List Nat} {i : Nat} {c : α}, KidsAt R bs cs S → cs[i]? = some c → ∃ b S1 Sc S2, bs[i]? = some b ∧ KidsAt R (bs.take i) (cs.take i) S1 ∧ R b c Sc ∧ KidsAt R (bs.drop (i + 1)) (cs.drop (i + 1)) S2 ∧ S = S1 ++ (Sc ++ S2)
  | [], [], _, i, c, _, hc => by simp at hc
  | b :: bs, d :: cs, S, 0, c, ⟨S1, S2, h1, h2, h3⟩, hc => by
    cases hc
    exact ⟨b, [], S1, S2, rfl, rfl, h1, h2, h3⟩
  | b :: bs, d :: cs, S, i + 1, c, ⟨S1, S2, h1, h2, h3⟩, hc => by
    obtain ⟨b', T1, Tc, T2, k1, k2, k3, k4, k5⟩ := kids_at (i := i) h2 (by simpa using hc)
    exact ⟨b', S1 ++ T1, Tc, T2, by simpa using k1, ⟨S1, T1, h1, k2, rfl⟩, k3, k4, by rw [h3, k5, List.append_assoc]⟩
  | [], c :: cs, _, _, _, h, _ => h.elim
  | b :: bs, [], _, _, _, h, _ => h.elim
theorem kids_join {bs : List Nat} {cs : List α} {S1 Sc S2 : List Nat} {i b : Nat} {c : α} (h1 : KidsAt R (bs.take i) (cs.take i) S1) (hc : R b c Sc) (h2 : KidsAt R (bs.drop (i + 1)) (cs.drop (i + 1)) S2) :
    KidsAt R (bs.take i ++ b :: bs.drop (i + 1)) (cs.take i ++ c :: cs.drop (i + 1)) (S1 ++ (Sc ++ S2)) := kids_app h1 ⟨Sc, S2, hc, h2, rfl⟩
end
theorem rowV_own_lt {e : TypeId} {w : World} {v : Value} {xs : List Value} (h : RowV e w v xs) : ∀ k ∈ v.ownBlock.toList, k < w.heap.size := h.lt
theorem leaf_lt {w : World} {b : Nat} {l : List KV} {S : List Nat} (h : LeafAt w b l S) : ∀ k ∈ S, k < w.heap.size := by
  obtain ⟨kv, vv, hb, hk, hv, rfl, hn⟩ := h
  intro k hk2
  rcases List.mem_cons.1 hk2 with rfl | hk2
  · exact blk_lt hb
  · rcases List.mem_append.1 hk2 with hk2 | hk2
    · exact hk.lt k hk2
    · exact hv.lt k hk2
theorem node_lt : ∀ {h : Nat} {w : World} {b : Nat} {t : T h} {S : List Nat}, NodeAt h w b t S → ∀ k ∈ S, k < w.heap.size
  | 0, w, b, t, S, h => leaf_lt h
  | h + 1, w, b, t, S, hh => by
    obtain ⟨kv, cv, bs, S2, hb, hk, hv, hkids, hl, rfl, hn⟩ := hh
    intro k hk2
    rcases List.mem_cons.1 hk2 with rfl | hk2
    · exact blk_lt hb
    · rcases List.mem_append.1 hk2 with hk2 | hk2
      · exact hk.lt k hk2
      · rcases List.mem_append.1 hk2 with hk2 | hk2
        · exact hv.lt k hk2
        · obtain ⟨b', c', S1, h1, h2⟩ := kids_mem hkids k hk2
          exact node_lt h1 k h2
theorem node_nodup : ∀ {h : Nat} {w : World} {b : Nat} {t : T h} {S : List Nat}, NodeAt h w b t S → S.Nodup
  | 0, w, b, t, S, ⟨_, _, _, _, _, _, h⟩ => h
  | h + 1, w, b, t, S, ⟨_, _, _, _, _, _, _, _, _, _, hn⟩ => hn
theorem node_own : ∀ {h : Nat} {w : World} {b : Nat} {t : T h} {S : List Nat}, NodeAt h w b t S → b ∈ S
  | 0, w, b, t, S, ⟨_, _, _, _, _, h, _⟩ => by rw [h]; simp
  | h + 1, w, b, t, S, ⟨_, _, _, _, _, _, _, _, _, hn, _⟩ => by rw [hn]; simp
theorem leaf_step {w w' : World} {b : Nat} {l : List KV} {S : List Nat} (h : LeafAt w b l S) (hb : ∀ k ∈ S, w'.heap[k]? = w.heap[k]?) : LeafAt w' b l S := by
  obtain ⟨kv, vv, h1, h2, h3, rfl, h5⟩ := h
  exact ⟨kv, vv, (hb b (by simp)).trans h1, h2.step (fun k hk => hb k (by simp only [List.mem_cons, List.mem_append]; exact .inr (.inl hk))), h3.step (fun k hk => hb k (by simp only [List.mem_cons, List.mem_append]; exact .inr (.inr hk))), rfl, h5⟩
theorem node_step : ∀ {h : Nat} {w w' : World} {b : Nat} {t : T h} {S : List Nat}, NodeAt h w b t S → (∀ k ∈ S, w'.heap[k]? = w.heap[k]?) → NodeAt h w' b t S
  | 0, w, w', b, t, S, h, hb => leaf_step h hb
  | h + 1, w, w', b, t, S, hh, hb => by
    obtain ⟨kv, cv, bs, S2, h1, h2, h3, h4, h5, rfl, h7⟩ := hh
    refine ⟨kv, cv, bs, S2, (hb b (by simp)).trans h1, h2.step (fun k hk => hb k (by simp only [List.mem_cons, List.mem_append]; exact .inr (.inl hk))), h3.step (fun k hk => hb k (by simp only [List.mem_cons, List.mem_append]; exact .inr (.inr (.inl hk)))), kids_imp h4 (fun b' c' S1 hs hr => node_step hr (fun k hk => hb k (by simp only [List.mem_cons, List.mem_append]; exact .inr (.inr (.inr (hs k hk)))))), h5, rfl, h7⟩
theorem node_below {h : Nat} {w w' : World} {b : Nat} {t : T h} {S : List Nat} (hn : NodeAt h w b t S) (hb : Below w.heap.size w w') : NodeAt h w' b t S := node_step hn (fun k hk => hb.block k (node_lt hn k hk))
theorem node_fr {h : Nat} {w w' : World} {b : Nat} {t : T h} {S S' : List Nat} (hn : NodeAt h w b t S) (hf : Fr S' w w') (hd : ∀ k ∈ S, k ∉ S') : NodeAt h w' b t S := node_step hn (fun k hk => hf.block k (node_lt hn k hk) (hd k hk))
/-- What a call has done to a node. -/
def NDid (h : Nat) (w w' : World) (b : Nat) (S : List Nat) (t' : T h) : Prop := ∃ S', NodeAt h w' b t' S' ∧ Fr S w w' ∧ ∀ k ∈ S', k ∈ S ∨ w.heap.size ≤ k
/-- A node's cells. -/
theorem leaf_cells {w : World} {b : Nat} {kv vv : Value} (h : w.heap[b]? = some (.cells #[kv, vv, .slice none 0 0] 74 (0, 0))) : w.cell? ⟨b, 0, none⟩ = some kv ∧ w.cell? ⟨b, 1, none⟩ = some vv ∧ w.cell? ⟨b, 2, none⟩ = some (.slice none 0 0) :=
  ⟨(blk_cell h 0).trans rfl, (blk_cell h 1).trans rfl, (blk_cell h 2).trans rfl⟩
theorem inner_cells {w : World} {b : Nat} {kv cv : Value} (h : w.heap[b]? = some (.cells #[kv, .slice none 0 0, cv] 74 (0, 0))) : w.cell? ⟨b, 0, none⟩ = some kv ∧ w.cell? ⟨b, 1, none⟩ = some (.slice none 0 0) ∧ w.cell? ⟨b, 2, none⟩ = some cv :=
  ⟨(blk_cell h 0).trans rfl, (blk_cell h 1).trans rfl, (blk_cell h 2).trans rfl⟩
theorem row_some {e : TypeId} {w : World} {v : Value} {xs : List Value} (h : RowV e w v xs) (hp : 0 < xs.length) : ∃ g c, v = .slice (some ⟨g, 0, none⟩) xs.length c := by
  rcases h with ⟨_, rfl⟩ | ⟨g, cap, cur, h0, _⟩
  · cases hp
  · exact ⟨g, cap, h0⟩
theorem size_calls {w : World} {b : Nat} : ∀ {h : Nat} {t : T h} {S : List Nat}, NodeAt h w b t S → Calls Try.prog 35 #[.pointer (some ⟨b, 0, none⟩)] w fun e w' => e = .returned (.int .i64 (sizeT h t)) ∧ w' = w
  | 0, t, S, hh => by
    obtain ⟨kv, vv, h1, h2, h3, h4, h5⟩ := hh
    obtain ⟨c0, c1, c2⟩ := leaf_cells h1
    obtain ⟨A, c, rfl, -, -⟩ := h2.shape
    have e1 : (encKs (keysOf t)).length = sizeT 0 t := by rw [encKs_len]; exact List.length_map _
    have E1 := Aside0.mk e1
    clear h1 h2 h3 h4 h5 c1 e1
    go_enter Try.func35, Try.ntmps35
    go_wp2
    go_ret
    exact ⟨by rw [← E1.out]; rfl, rfl⟩
  | h + 1, t, S, hh => by
    obtain ⟨kv, cv, bs, S2, h1, h2, h3, h4, h5, h6, h7⟩ := hh
    obtain ⟨c0, c1, c2⟩ := inner_cells h1
    have hl := kids_len h4
    have hbl : (bs.map encP).length = t.2.length := by rw [List.length_map, hl]
    obtain ⟨g, c, rfl⟩ := row_some h3 (by rw [hbl]; omega)
    rw [hbl] at c2
    clear h1 h2 h3 h4 h5 h6 h7 c0 c1 hl hbl
    go_enter Try.func35, Try.ntmps35
    go_wp2
    go_ret
    exact ⟨rfl, rfl⟩
end Go.Proofs.YtmomohljnmopfaaX
end
