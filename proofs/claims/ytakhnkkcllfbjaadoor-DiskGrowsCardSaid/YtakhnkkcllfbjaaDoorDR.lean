/- A row of bytes of one's own, made by append or by a conversion: what append, a conversion back, a reslicing make of it; no conditions beyond those in each theorem's head. -/
import Derived.Test.YtakhnkkcllfbjaaDoorDB
import Derived.Lib.ConvBytes
import Derived.Lib.AppendStr
import Derived.Laws.IdiomStrings
import Derived.Laws.CopyRow
import Derived.OwnWalk
namespace Go.Proofs.YtakhnkkcllfbjaaDoorX
open Go.RowKit Go.Proofs.YtakhnkkcllfbjaaDoorW.PrintWords Go.Proofs.YtakhnkkcllfbjaaDoorW.PrintLast Go.Proofs.YtakhnkkcllfbjaaDoorW.PrintMore
open Go.Lib (strCells)
set_option linter.unusedVariables false
set_option linter.unusedSimpArgs false

/-- No cell of a row of n is frozen. -/
def Soft (n : Nat) (fr : Nat × Nat) : Prop := fr.2 = 0 ∨ n ≤ fr.1
theorem soft_frozen {w : World} {g : Nat} {cur : Array Value} {t : TypeId} {fr : Nat × Nat} (hg : w.heap[g]? = some (.cells cur t fr)) (h : Soft cur.size fr) {i : Nat} (hi : i < cur.size) : w.frozen? ⟨g, i, none⟩ = false := by
  rcases h with h | h
  · simp [World.frozen?, hg, h]
  · simp [World.frozen?, hg]; omega
theorem setCell_eq_setRow' (w : World) (g i : Nat) (cur : Array Value) (t : TypeId) (fr : Nat × Nat) (v : Value) (hg : w.heap[g]? = some (.cells cur t fr)) : w.setCell ⟨g, i, none⟩ v = w.setRow g (cur.setIfInBounds i v) := setCell_eq_setRow w g i cur t fr v hg
/-- A row of bytes of one's own (type e). -/
def RowB (e : TypeId) (w : World) (v : Value) (s : ByteArray) : Prop :=
  (v = .slice none 0 0 ∧ s.size = 0) ∨ ∃ g cap cur fr, v = .slice (some ⟨g, 0, none⟩) s.size cap ∧ w.heap[g]? = some (.cells cur e fr) ∧ Soft cur.size fr ∧ s.size ≤ cap ∧ cap ≤ maxLen ∧ cur.size = cap ∧ cur.toList.take s.size = strCells s
section
variable {e : TypeId} {w w' : World} {v : Value} {s y : ByteArray}
theorem RowB.lt (h : RowB e w v s) : ∀ k ∈ v.ownBlock.toList, k < w.heap.size := fun k hk => by
  rcases h with ⟨rfl, _⟩ | ⟨g, cap, cur, fr, rfl, hg, _⟩
  · simp [Value.ownBlock] at hk
  · simp [Value.ownBlock] at hk
    subst hk
    exact blk_lt hg
theorem RowB.step (h : RowB e w v s) (hb : ∀ k ∈ v.ownBlock.toList, w'.heap[k]? = w.heap[k]?) : RowB e w' v s := by
  rcases h with h | ⟨g, cap, cur, fr, rfl, hg, r⟩
  · exact .inl h
  · exact .inr ⟨g, cap, cur, fr, rfl, (hb g (by simp [Value.ownBlock])).trans hg, r⟩
theorem RowB.nil (e : TypeId) (w : World) : RowB e w (.slice none 0 0) ⟨#[]⟩ := .inl ⟨rfl, rfl⟩
theorem RowB.shape (h : RowB e w v s) : ∃ p c, v = .slice p s.size c := by
  rcases h with ⟨rfl, h2⟩ | ⟨g, cap, cur, fr, rfl, _⟩
  · rw [h2]; exact ⟨_, _, rfl⟩
  · exact ⟨_, _, rfl⟩
theorem RowB.cap (h : RowB e w v s) {p : Option Addr} {n c : Nat} (hv : v = .slice p n c) : n = s.size ∧ s.size ≤ c ∧ c ≤ maxLen := by
  rcases h with ⟨h1, h2⟩ | ⟨g, cap, cur, fr, h1, _, _, h3, h4, _⟩
  · rw [hv] at h1; cases h1; exact ⟨h2.symm, by omega, by simp [maxLen]⟩
  · rw [hv] at h1; cases h1; exact ⟨rfl, h3, h4⟩
theorem strCells_get {j : Nat} (hj : j < s.data.toList.length) : (strCells s)[j]? = some (.int .u8 ((s.data.toList[j]).toNat : Int)) := by
  unfold strCells
  rw [List.getElem?_map, List.getElem?_eq_getElem hj]
  rfl
/-- string(v) -/
theorem RowB.back {P : Program} (h : RowB e w v s) (src dst : TypeId) (hs : P.underlying src = some (.slice e)) (he : P.underlying e = some (.int .u8)) (hd : P.underlying dst = some .string) : (convert src dst v).run P w = .ok (.string s) w := by
  rcases h with ⟨rfl, h2⟩ | ⟨g, cap, cur, fr, rfl, hg, hso, h3, h4, h5, h6⟩
  · have e0 : s = ⟨#[]⟩ := ByteArray.ext (Array.eq_empty_of_size_eq_zero h2)
    subst e0
    rw [run_convert_bytes_string w src dst e none 0 0 hs he hd]
    rfl
  · have hl : s.data.toList.length = s.size := by simp
    have := run_convert_bytes_back w src dst e ⟨g, 0, none⟩ cap s.data.toList hs he hd (fun j hj => by
      have hadd : (⟨g, 0, none⟩ : Addr).add j = ⟨g, j, none⟩ := by unfold Addr.add; split <;> simp_all
      rw [hadd, cell_of_row w g j cur e fr hg]
      have h7 := strCells_get hj
      rw [← h6, List.getElem?_take, if_pos (by omega), Array.getElem?_toList] at h7
      exact h7)
    rw [hl] at this
    simpa using this
/-- []byte(s) -/
theorem RowB.made (w : World) (e : TypeId) (s : ByteArray) (hs : s.size ≤ maxLen) : RowB e (Lib.bytesWorld w e s) (.slice (some ⟨w.heap.size, 0, none⟩) s.size (grownCap w s.size 0 e)) s := by
  have hge := grownCap_ge w s.size 0 e
  have hsz : (Lib.bytesCells w e s).size = grownCap w s.size 0 e := by
    simp only [Lib.bytesCells, Array.size_append, Array.size_map, Array.size_replicate]
    have : s.data.size = s.size := rfl
    omega
  refine .inr ⟨_, _, _, _, rfl, Lib.bytesWorld_at_new w e s, .inr (Nat.le_refl _), hge, grownCap_le_maxLen w s.size 0 e hs, hsz, ?_⟩
  simp only [Lib.bytesCells, Array.toList_append]
  rw [List.take_append_of_le_length (by simp)]
  rw [List.take_of_length_le (by simp)]
  simp [strCells]
theorem fr_bytes (w : World) (e : TypeId) (s : ByteArray) : Below w.heap.size w (Lib.bytesWorld w e s) := by
  refine ⟨rfl, rfl, rfl, by rw [Lib.bytesWorld_size]; omega, fun k hk => Lib.bytesWorld_at_old w e s k hk⟩
/-- v[:k] -/
theorem RowB.cut (h : RowB e w v s) {p : Option Addr} {n c : Nat} (hv : v = .slice p n c) (k : Nat) (hk : k ≤ s.size) : RowB e w (.slice p k c) (s.extract 0 k) ∧ (Value.slice p k c).ownBlock = v.ownBlock := by
  have e1 : (s.extract 0 k).size = k := by rw [ByteArray.size_extract]; omega
  rcases h with ⟨h1, h2⟩ | ⟨g, cap, cur, fr, h1, hg, hso, h3, h4, h5, h6⟩
  · rw [hv] at h1
    cases h1
    obtain rfl : k = 0 := by omega
    exact ⟨.inl ⟨rfl, e1⟩, by rw [hv]⟩
  · rw [hv] at h1
    cases h1
    refine ⟨.inr ⟨g, _, cur, fr, by rw [e1], hg, hso, by omega, h4, h5, ?_⟩, by rw [hv]; rfl⟩
    rw [e1]
    have e2 : strCells (s.extract 0 k) = (strCells s).take k := by
      simp only [strCells, ByteArray.data_extract, Array.toList_extract, List.extract_eq_take_drop, List.drop_zero, Nat.sub_zero, List.map_take]
    rw [e2, ← h6, List.take_take, Nat.min_eq_left hk]
theorem run_storeCells_soft {P : Program} (g o : Nat) (t : TypeId) (fr : Nat × Nat) : ∀ (vs : List Value) (i : Nat) (cur : Array Value) (w : World), w.heap[g]? = some (.cells cur t fr) → Soft cur.size fr → o + i + vs.length ≤ cur.size → (∀ v ∈ vs, v.oneCell' = true) →
    (storeCells ⟨g, o, none⟩ vs i).run P w = .ok () (w.setRow g (cur.toList.take (o + i) ++ vs ++ cur.toList.drop (o + i + vs.length)).toArray)
  | [], i, cur, w, hg, _, _, _ => by
    simp only [storeCells, List.append_nil, List.length_nil, Nat.add_zero, List.take_append_drop, Array.toArray_toList]
    rw [setRow_self w g cur t fr hg]
    rfl
  | v :: rest, i, cur, w, hg, hs, hl, h1 => by
    have hi : o + i < cur.size := by simp at hl; omega
    have hadd : (⟨g, o, none⟩ : Addr).add i = ⟨g, o + i, none⟩ := by unfold Addr.add; split <;> simp_all
    have hcell : w.cell? ⟨g, o + i, none⟩ = some cur[o + i] := by simp [World.cell?, hg, hi]
    have hfro : w.frozen? ⟨g, o + i, none⟩ = false := soft_frozen hg hs hi
    have hst : (store ((⟨g, o, none⟩ : Addr).add i) v).run P w = .ok () (w.setRow g (cur.setIfInBounds (o + i) v)) := by
      rw [hadd, run_store P w _ v _ (h1 v (by simp)), hcell]
      simp [hfro, setCell_eq_setRow w g (o + i) cur t fr v hg]
    have ih := run_storeCells_soft (P := P) g o t fr rest (i + 1) (cur.setIfInBounds (o + i) v) (w.setRow g (cur.setIfInBounds (o + i) v)) (setRow_heap w g cur _ t _ hg) (by simpa using hs) (by simp at hl ⊢; omega) (fun x hx => h1 x (by simp [hx]))
    simp only [storeCells, Sem.run_bind, hst, Result.andThen_ok, ih, setRow_setRow]
    congr 3
    have e := list_seg_step cur.toList (o + i) v rest (by simp at hl ⊢; omega)
    simpa [Array.toList_setIfInBounds, Nat.add_assoc] using e
theorem strCells_append (s y : ByteArray) : strCells (s ++ y) = strCells s ++ strCells y := by simp [strCells]
/-- append(v, y...) -/
theorem RowB.append {P : Program} (h : RowB e w v s) (t u ty : TypeId) (ht : P.underlying t = some (.slice e)) (hu : P.underlying u = some .string) (hinfo : (P.info? e).map (fun i => (i.zero, i.size, i.bytes)) = some (some (.int .u8 0), 1, 1)) (hl : s.size + y.size ≤ 140737488355328) :
    ∃ v' w', (Builtin.append_ #[t, u] ty #[v, .string y]).run P w = .ok v' w' ∧ RowB e w' v' (s ++ y) ∧ w.grownBy w' v.ownBlock ∧ (v'.ownBlock = v.ownBlock ∨ ∃ b, v'.ownBlock = some b ∧ w.heap.size ≤ b) := by
  obtain ⟨i, hi, hzz⟩ := Option.map_eq_some_iff.1 hinfo
  simp only [Prod.mk.injEq] at hzz
  obtain ⟨hz, hsize, hby⟩ := hzz
  have hsz : (s ++ y).size = s.size + y.size := ByteArray.size_append
  have hm : s.size + y.size ≤ maxLen := by simp only [maxLen]; omega
  have grown : ∀ (old : Nat) (xs : List Value), xs = strCells s → ∀ (row : Option Nat),
      RowB e (w.drew.alloc (.cells (xs.toArray ++ (strCells y).toArray ++ Builtin.zeroCells (Value.int .u8 0).cells (grownCap w (s.size + y.size) old e - (s.size + y.size))) e)) (.slice (some ⟨w.heap.size, 0, none⟩) (s.size + y.size) (grownCap w (s.size + y.size) old e)) (s ++ y) ∧
      w.grownBy (w.drew.alloc (.cells (xs.toArray ++ (strCells y).toArray ++ Builtin.zeroCells (Value.int .u8 0).cells (grownCap w (s.size + y.size) old e - (s.size + y.size))) e)) row := by
    intro old xs hxs row
    subst hxs
    have hge := grownCap_ge w (s.size + y.size) old e
    refine ⟨.inr ⟨w.heap.size, _, _, _, by rw [hsz], heap_alloc_new w.drew _, .inl rfl, by omega, grownCap_le_maxLen w _ old e hm, ?_, ?_⟩, ⟨rfl, rfl, rfl, by simp, fun k hk _ => Below.heap_alloc w.drew _ k hk⟩⟩
    · have hz1 : (Value.int IntKind.u8 0).cells.size = 1 := rfl
      simp only [Array.size_append, List.size_toArray, size_zeroCells, hz1, Lib.strCells_length]
      omega
    · rw [hsz]
      simp only [Array.toList_append, List.append_assoc]
      rw [← List.append_assoc, ← strCells_append, List.take_append_of_le_length (by rw [Lib.strCells_length, hsz]; exact Nat.le_refl _), List.take_of_length_le (by rw [Lib.strCells_length, hsz]; exact Nat.le_refl _)]
  rcases h with ⟨rfl, h2⟩ | ⟨g, cap, cur, fr, rfl, hg, hso, h3, h4, h5, h6⟩
  · have e0 : strCells s = [] := List.eq_nil_of_length_eq_zero (by rw [Lib.strCells_length]; exact h2)
    by_cases hy : y.size = 0
    · refine ⟨.slice none 0 0, w, ?_, .inl ⟨rfl, by omega⟩, World.grownBy.refl w _, .inl rfl⟩
      have hf := Lib.run_firstCells_string (P := P) w 1 y
      have hn : strCells y = [] := List.eq_nil_of_length_eq_zero (by rw [Lib.strCells_length]; exact hy)
      rw [hy, hn] at hf
      simp [Builtin.append_, run_underlying ht, run_underlying hu, sizeOf, typeInfo, hi, hsize, Builtin.lenOf, hy, hf]
    · have hr := run_append_nil_string (P := P) w t u ty e i (.int .u8 0) ht hu hi hz y (by omega) (by omega) (by rw [hby]; omega)
      have hgr := grown 0 [] e0.symm (Value.ownBlock (.slice none 0 0))
      rw [h2] at hgr
      simp only [Nat.zero_add, List.nil_append, Array.empty_append] at hgr ⊢
      have e1 : (y.data.map fun b => Value.int .u8 b.toNat) = (strCells y).toArray := by
        apply Array.ext'
        simp [strCells]
      rw [e1] at hr
      exact ⟨_, _, hr, hgr.1, hgr.2, .inr ⟨_, rfl, Nat.le_refl _⟩⟩
  · by_cases hroom : s.size + y.size ≤ cap
    · have hf := Lib.run_firstCells_string (P := P) w 1 y
      have hst := run_storeCells_soft (P := P) g s.size e fr (strCells y) 0 cur w hg hso (by rw [Lib.strCells_length]; omega) (Lib.strCells_oneCell y)
      simp only [Nat.add_zero, Lib.strCells_length] at hst
      refine ⟨.slice (some ⟨g, 0, none⟩) (s.size + y.size) cap, w.setRow g (cur.toList.take s.size ++ strCells y ++ cur.toList.drop (s.size + y.size)).toArray, ?_, .inr ⟨g, cap, _, fr, by rw [hsz], setRow_heap w g cur _ e _ hg, ?_, by omega, h4, ?_, ?_⟩, ⟨rfl, rfl, rfl, by simp, fun k _ hk => setRow_other w g k _ (fun e => hk (by simp [Value.ownBlock, e]))⟩, .inl rfl⟩
      · simp [Builtin.append_, run_underlying ht, run_underlying hu, sizeOf, typeInfo, hi, hsize, Builtin.lenOf, hroom, hf, Addr.add_lit, hst]
      · rcases hso with h7 | h7
        · exact .inl h7
        · refine .inr ?_
          simp only [List.size_toArray, List.length_append, List.length_take, List.length_drop, Array.length_toList, Lib.strCells_length]
          omega
      · simp only [List.size_toArray, List.length_append, List.length_take, List.length_drop, Array.length_toList, Lib.strCells_length]
        omega
      · simp only
        rw [h6, ← strCells_append, List.take_append_of_le_length (by rw [Lib.strCells_length]; exact Nat.le_refl _), List.take_of_length_le (by rw [Lib.strCells_length]; exact Nat.le_refl _)]
    · have holds : ∀ j u, (strCells s)[j]? = some u → w.cell? ((⟨g, 0, none⟩ : Addr).add j) = some u := fun j u hj => by
        have hadd : (⟨g, 0, none⟩ : Addr).add j = ⟨g, j, none⟩ := by unfold Addr.add; split <;> simp_all
        have hjl := (List.getElem?_eq_some_iff.1 hj).1
        rw [Lib.strCells_length] at hjl
        rw [← h6, List.getElem?_take, if_pos hjl, Array.getElem?_toList] at hj
        rw [hadd, cell_of_row w g j cur e fr hg, hj]
      have hr := Lib.run_append_grow_string (P := P) w t u ty e i (.int .u8 0) ht hu hi hz ⟨g, 0, none⟩ s.size cap (strCells s) (by rw [hsize, Lib.strCells_length, Nat.mul_one]) holds y (by omega) (by omega) (by rw [hby]; exact growslice_fits (by omega) (by omega))
      have hgr := grown cap (strCells s) rfl (Value.ownBlock (.slice (some ⟨g, 0, none⟩) s.size cap))
      exact ⟨_, _, hr, hgr.1, hgr.2, .inr ⟨_, rfl, Nat.le_refl _⟩⟩
end
section
variable {P : Program} {ops : Array Oper} {rest : List Oper} {o : Oper} {a : Act} {Q : Exit → Act → World → Prop} {e : TypeId} {w : World} {v : Value} {s y : ByteArray}
theorem wp_rowb_append (hgd : o.guard = none) (sl x : Operand) (t u : TypeId) (ho : o.op = .call { callee := .builtin .append, args := #[sl, x], argTypes := #[t, u] }) (h : RowB e w v s)
    (ht : P.underlying t = some (.slice e)) (hu : P.underlying u = some .string) (hinfo : (P.info? e).map (fun i => (i.zero, i.size, i.bytes)) = some (some (.int .u8 0), 1, 1)) (hs : a.eval sl = v) (hx : a.eval x = .string y) (hl : s.size + y.size ≤ 140737488355328)
    (hK : ∀ v' w', RowB e w' v' (s ++ y) → w.grownBy w' v.ownBlock → (v'.ownBlock = v.ownBlock ∨ ∃ b, v'.ownBlock = some b ∧ w.heap.size ≤ b) → wpList P ops Q rest (a.put o.dst v') w') : wpList P ops Q (o :: rest) a w := by
  refine wpList_plain hgd fun K' hK2 => ?_
  obtain ⟨v', w', hr, h1, h2, h3⟩ := h.append t u o.type ht hu hinfo hl
  unfold Oper.wp execOp
  simp only [ho, resolve, invoke, builtin, Sem.run_bind, Sem.run_pure, Result.andThen_ok, List.map_toArray, List.map_cons, List.map_nil, hs, hx, hr]
  exact hK2 _ _ (hK v' w' h1 h2 h3)
end
end Go.Proofs.YtakhnkkcllfbjaaDoorX
