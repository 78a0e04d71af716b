/- The reference's disk: its row of files in memory; place; no conditions beyond those in each theorem's head. -/
import Derived.Test.YtakhnkkcllfbjaaDoorN2
import Derived.Test.YtakhnkkcllfbjaaDoorPAx0
import Derived.Sort.Walk0
namespace Go.Proofs.YtakhnkkcllfbjaaDoorX
open Go.RowKit Go.Proofs.YtakhnkkcllfbjaaDoorW.PrintWords Go.Proofs.YtakhnkkcllfbjaaDoorW.PrintLast Go.Proofs.YtakhnkkcllfbjaaDoorW.PrintMore
open Go.Proofs.YtakhnkkcllfbjaaDoor.PA (S37 k37 z37 k37_open k37_openM k37_mk k37_mkM rd_T37 at_T37)
set_option linter.unusedVariables false
set_option linter.unusedSimpArgs false
def cells37 (x : S37) : List Value := [.string x.f0, .string x.f1, .int .i64 x.f2]
/-- A row of files, its own. -/
def Row37 (w : World) (v : Value) (l : List S37) : Prop := Kd.R k37 37 w 0 (fun _ => True) v l
theorem Row37.step {w w' : World} {v : Value} {l : List S37} (h : Row37 w v l) (hb : ∀ k ∈ v.ownBlock.toList, w'.heap[k]? = w.heap[k]?) : Row37 w' v l :=
  Kd.R_mono (Kd.R_move (Kd.R_tight rfl h) (fun k hk => hb k (by rw [← hk]; simp))) (fun _ _ => trivial)
theorem Row37.lt {w : World} {v : Value} {l : List S37} (h : Row37 w v l) : ∀ k ∈ v.ownBlock.toList, k < w.heap.size := fun k hk => Kd.R_lt h k (by simpa using hk)
theorem Row37.reads {w : World} {v : Value} {l : List S37} (h : Row37 w v l) : ∃ A c, v = .slice A l.length c ∧ l.length ≤ c ∧ Kd.C k37 w A l.length l := Kd.R_reads h
theorem addr_plain (g o i : Nat) : (⟨g, o, none⟩ : Addr).add i = ⟨g, o + i, none⟩ := by
  unfold Addr.add
  split
  · rename_i h; subst h; rfl
  · rfl
/-- A row of files that is not empty, or has room. -/
theorem Row37.at {w : World} {v : Value} {l : List S37} (h : Row37 w v l) {i : Nat} {x : S37} (hi : l[i]? = some x) : ∃ g c, v = .slice (some ⟨g, 0, none⟩) l.length c ∧ w.cell? ⟨g, i * 3, none⟩ = some (.string x.f0) ∧ w.cell? ⟨g, i * 3 + 1, none⟩ = some (.string x.f1) ∧ w.cell? ⟨g, i * 3 + 2, none⟩ = some (.int .i64 x.f2) := by
  have hl := (List.getElem?_eq_some_iff.1 hi).1
  obtain ⟨g, cap, rfl, _, _, _⟩ := Kd.R_form h (by omega)
  obtain ⟨A, c, hv, _, hC⟩ := h.reads
  cases hv
  obtain ⟨ad, had, q0, q1, q2⟩ := file_at hC hi
  cases had
  rw [addr_plain, Nat.zero_add] at q0 q1 q2
  exact ⟨g, cap, rfl, q0, q1, q2⟩
theorem put_take {cs : List Value} {n i j : Nat} (a b c : Value) (hj : j < n) (hi : i < n) (hc : n * 3 ≤ cs.length) :
    (((((cs.set (i * 3) a).set (i * 3 + 1) b).set (i * 3 + 2) c).take (n * 3)).drop (j * 3)).take 3 = if j = i then [a, b, c] else ((cs.take (n * 3)).drop (j * 3)).take 3 := by
  by_cases hji : j = i
  · subst hji
    rw [if_pos rfl]
    apply List.ext_getElem?
    intro t
    rw [List.getElem?_take]
    split
    · rename_i ht
      rw [List.getElem?_drop, List.getElem?_take, if_pos (by omega)]
      rcases t with _ | _ | _ | t
      · rw [List.getElem?_set_ne (by omega), List.getElem?_set_ne (by omega), Nat.add_zero, List.getElem?_set_self (by omega)]; rfl
      · rw [List.getElem?_set_ne (by omega), List.getElem?_set_self (by simp; omega)]; rfl
      · rw [List.getElem?_set_self (by simp; omega)]; rfl
      · omega
    · rename_i ht
      rw [List.getElem?_eq_none (by simp; omega)]
  · rw [if_neg hji]
    apply List.ext_getElem?
    intro t
    rw [List.getElem?_take, List.getElem?_take]
    split
    · rename_i ht
      rw [List.getElem?_drop, List.getElem?_drop, List.getElem?_take, List.getElem?_take, if_pos (by omega), if_pos (by omega)]
      rw [List.getElem?_set_ne (by omega), List.getElem?_set_ne (by omega), List.getElem?_set_ne (by omega)]
    · rfl
/-- x[i] = f -/
theorem Row37.put {w : World} {g c : Nat} {l : List S37} (h : Row37 w (.slice (some ⟨g, 0, none⟩) l.length c) l) {i : Nat} (hi : i < l.length) (x : S37) :
    Row37 (((w.setCell ⟨g, i * 3, none⟩ (.string x.f0)).setCell ⟨g, i * 3 + 1, none⟩ (.string x.f1)).setCell ⟨g, i * 3 + 2, none⟩ (.int .i64 x.f2)) (.slice (some ⟨g, 0, none⟩) l.length c) (l.set i x) := by
  obtain ⟨h0, inner, hown, hr⟩ := h
  rcases hown.2 with ⟨h1, h2⟩ | ⟨g', cap, cur, hv, hb, hg, k1, k2, k3, k4⟩
  · cases h1
  · cases hv
    have e1 : cur.toList.take (l.length * 3) = inner := k4
    have hcur : l.length * 3 ≤ cur.toList.length := by
      have h9 := congrArg List.length e1
      have h8 := hr.1
      have h7 : k37.sz = 3 := rfl
      rw [h7] at h8
      rw [List.length_take] at h9
      omega
    obtain ⟨inner', hin⟩ : ∃ inner', ((((cur.toList.set (i * 3) (.string x.f0)).set (i * 3 + 1) (.string x.f1)).set (i * 3 + 2) (.int .i64 x.f2)).take (l.length * 3)) = inner' := ⟨_, rfl⟩
    have hlen : (l.set i x).length = l.length := by simp
    refine ⟨fun _ _ => trivial, inner', ?_, ?_⟩
    · rw [hlen]
      refine ⟨by rw [← hin]; have h7 : k37.sz = 3 := rfl; rw [h7]; simp only [List.length_take, List.length_set]; omega, .inr ⟨g, c, ((cur.setIfInBounds (i * 3) (.string x.f0)).setIfInBounds (i * 3 + 1) (.string x.f1)).setIfInBounds (i * 3 + 2) (.int .i64 x.f2), rfl, hb, ?_, k1, k2, ?_, ?_⟩⟩
      · exact blk_put (blk_put (blk_put hg _ _ rfl) _ _ rfl) _ _ rfl
      · simpa using k3
      · have h7 : k37.sz = 3 := rfl
        rw [h7, ← hin]
        simp
    · refine ⟨?_, fun j p hj => ?_⟩
      · have h7 : k37.sz = 3 := rfl
        rw [hlen, ← hin, h7]
        simp only [List.length_take, List.length_set]
        omega
      · have hjl : j < l.length := by have := (List.getElem?_eq_some_iff.1 hj).1; rwa [hlen] at this
        have h7 : k37.sz = 3 := rfl
        rw [h7, ← hin, put_take _ _ _ hjl hi hcur]
        by_cases hji : j = i
        · subst hji
          rw [List.getElem?_set_self hi] at hj
          obtain rfl := Option.some.inj hj
          rw [if_pos rfl]
          exact k37_mkM _ _ _ x
        · rw [List.getElem?_set_ne (fun e => hji e.symm)] at hj
          rw [if_neg hji, e1]
          have h9 := hr.2 j p hj
          rw [h7] at h9
          rw [k37_openM h9]
          exact k37_mkM _ _ _ p
/-- Those three stores touch that block alone. -/
theorem put_other {w : World} {g i k : Nat} {a b c : Value} (hk : k ≠ g) : (((w.setCell ⟨g, i * 3, none⟩ a).setCell ⟨g, i * 3 + 1, none⟩ b).setCell ⟨g, i * 3 + 2, none⟩ c).heap[k]? = w.heap[k]? := by
  rw [Below.heap_setCell _ _ _ _ (by show k ≠ g; exact hk), Below.heap_setCell _ _ _ _ (by show k ≠ g; exact hk), Below.heap_setCell _ _ _ _ (by show k ≠ g; exact hk)]
/-- The reference's disk: its head at r, its row of files in v. -/
structure RefAt (w : World) (r : Nat) (v : Value) (D : AD) : Prop where
  head : w.heap[r]? = some (.cells #[.int .i64 D.size, v, .int .i64 D.armed, .bool D.down, .int .i64 D.steps] 79 (0, 0))
  row : Row37 w v (filesT D.L)
theorem RefAt.apart {w : World} {r : Nat} {v : Value} {D : AD} (h : RefAt w r v D) : r ∉ v.ownBlock.toList := fun hr => by
  have h9 := Kd.R_ne h.row h.head (by decide)
  exact h9 (by have h8 : v.ownBlock = some r := by simpa using hr
               exact h8.symm)
theorem RefAt.step {w w' : World} {r : Nat} {v : Value} {D : AD} (h : RefAt w r v D) (hb : ∀ k ∈ r :: v.ownBlock.toList, w'.heap[k]? = w.heap[k]?) : RefAt w' r v D :=
  ⟨(hb r (by simp)).trans h.head, h.row.step (fun k hk => hb k (by simp only [List.mem_cons]; exact .inr hk))⟩
theorem RefAt.lt {w : World} {r : Nat} {v : Value} {D : AD} (h : RefAt w r v D) : ∀ k ∈ r :: v.ownBlock.toList, k < w.heap.size := fun k hk => by
  simp only [List.mem_cons] at hk
  rcases hk with rfl | hk
  · exact blk_lt h.head
  · exact h.row.lt k hk
theorem RefAt.below {w w' : World} {r : Nat} {v : Value} {D : AD} (h : RefAt w r v D) (hb : Below w.heap.size w w') : RefAt w' r v D := h.step (fun k hk => hb.block k (h.lt k hk))
theorem RefAt.fr {w w' : World} {r : Nat} {v : Value} {D : AD} {S : List Nat} (h : RefAt w r v D) (hf : Fr S w w') (hn : ∀ k ∈ r :: v.ownBlock.toList, k ∉ S) : RefAt w' r v D := h.step (fun k hk => hf.block k (h.lt k hk) (hn k hk))
theorem ref_cells {w : World} {r : Nat} {v : Value} {D : AD} (h : w.heap[r]? = some (.cells #[.int .i64 D.size, v, .int .i64 D.armed, .bool D.down, .int .i64 D.steps] 79 (0, 0))) :
    w.cell? ⟨r, 0, none⟩ = some (.int .i64 D.size) ∧ w.cell? ⟨r, 1, none⟩ = some v ∧ w.cell? ⟨r, 2, none⟩ = some (.int .i64 D.armed) ∧ w.cell? ⟨r, 3, none⟩ = some (.bool D.down) ∧ w.cell? ⟨r, 4, none⟩ = some (.int .i64 D.steps) :=
  ⟨(blk_cell h 0).trans rfl, (blk_cell h 1).trans rfl, (blk_cell h 2).trans rfl, (blk_cell h 3).trans rfl, (blk_cell h 4).trans rfl⟩
theorem ref_shape {w : World} {r : Nat} {v : Value} {D : AD} (h : RefAt w r v D) : ∃ A c, v = .slice A D.L.length c ∧ D.L.length ≤ c ∧ D.L.length ≤ 9223372036854775807 := by
  obtain ⟨A, c, rfl, hc, hC⟩ := h.row.reads
  have := hC.2.1
  rw [filesT, List.length_map] at *
  exact ⟨A, c, rfl, hc, this⟩
theorem ref_at {w : World} {r : Nat} {v : Value} {D : AD} (h : RefAt w r v D) {i : Nat} {f : AF} (hi : D.L[i]? = some f) : ∃ g c, v = .slice (some ⟨g, 0, none⟩) D.L.length c ∧ w.cell? ⟨g, i * 3, none⟩ = some (.string ⟨f.name.toArray⟩) ∧ w.cell? ⟨g, i * 3 + 1, none⟩ = some (.string f.data) ∧ w.cell? ⟨g, i * 3 + 2, none⟩ = some (.int .i64 f.safe) := by
  have hi2 : (filesT D.L)[i]? = some (fileT f) := by rw [filesT, List.getElem?_map, hi]; rfl
  obtain ⟨g, c, hv, q⟩ := h.row.at hi2
  rw [filesT, List.length_map] at hv
  exact ⟨g, c, hv, q⟩
/-- Where a name stands, or would. -/
def placeL (x : Nm) : List AF → Nat
  | [] => 0
  | f :: r => if f.name < x then placeL x r + 1 else 0
theorem placeL_le (x : Nm) : ∀ L : List AF, placeL x L ≤ L.length
  | [] => Nat.le_refl _
  | f :: r => by unfold placeL; split; · simp only [List.length_cons]; have := placeL_le x r; omega
                 · exact Nat.zero_le _
theorem placeL_lt {x : Nm} : ∀ {L : List AF} {i : Nat} {f : AF}, L[i]? = some f → i < placeL x L → f.name < x
  | [], i, f, h, _ => by simp at h
  | g :: r, i, f, h, hi => by
    unfold placeL at hi
    split at hi
    · cases i with
      | zero => obtain rfl := Option.some.inj h; assumption
      | succ i => exact placeL_lt (i := i) (by simpa using h) (by omega)
    · omega
theorem placeL_at {x : Nm} : ∀ {L : List AF} {f : AF}, L[placeL x L]? = some f → ¬ f.name < x
  | [], f, h => by simp [placeL] at h
  | g :: r, f, h => by
    unfold placeL at h
    split at h
    · rw [List.getElem?_cons_succ] at h
      exact placeL_at h
    · obtain rfl := Option.some.inj h; assumption
/-- All before i are less: it is reached. -/
theorem placeL_ge {x : Nm} : ∀ {L : List AF} {i : Nat}, i ≤ L.length → (∀ j f, j < i → L[j]? = some f → f.name < x) → i ≤ placeL x L
  | [], i, h, _ => by simp at h; omega
  | g :: r, 0, h, _ => Nat.zero_le _
  | g :: r, i + 1, h, hk => by
    unfold placeL
    rw [if_pos (hk 0 g (by omega) rfl)]
    have := placeL_ge (L := r) (i := i) (by simpa using h) (fun j f hj hf => hk (j + 1) f (by omega) (by simpa using hf))
    omega
theorem less_is (x : Nm) (s : ByteArray) : Op.bytesLess x s.toList = decide (x < s.data.toList) := by
  rw [bytesLess_eq, toList_is]
set_option maxRecDepth 100000 in
theorem place_calls {w : World} {r : Nat} {v : Value} {D : AD} (h : RefAt w r v D) (s : ByteArray) : Calls Tryd.prog 54 #[.pointer (some ⟨r, 0, none⟩), .string s] w fun e w' => e = .returned (.int .i64 (placeL s.data.toList D.L)) ∧ Below w.heap.size w w' := by
  have H := Aside0.mk h
  obtain ⟨A, c, rfl, hc, hL⟩ := ref_shape h
  have HL := Aside0.mk hL
  clear h hc hL
  go_enter Tryd.func54, Tryd.ntmps54
  go_wp2
  go_loopg [5] D.L.length (fun kq v5 wr => ∃ i : Nat, v5 = .int .i64 i ∧ Aside0 (i + kq = D.L.length) ∧ Aside0 (i ≤ placeL s.data.toList D.L) ∧ wr = w)
  case atStart => exact ⟨0, rfl, ⟨by omega⟩, ⟨Nat.zero_le _⟩, rfl⟩
  case round =>
    obtain ⟨i, rfl, h1, h2, rfl⟩ := hrel
    obtain ⟨-, c1, -⟩ := ref_cells H.out.head
    by_cases hi : i < D.L.length
    · have e1 : decide ((i : Int) < (D.L.length : Int)) = true := decide_eq_true (by omega)
      have e1' : decide (i < D.L.length) = true := decide_eq_true hi
      have e5 : IntKind.i64.wrap ((i : Int) + 1) = ((i + 1 : Nat) : Int) := by have := HL.out; rw [i64_w]; unfold wrap64; omega
      obtain ⟨f, hf⟩ : ∃ f, D.L[i]? = some f := ⟨_, List.getElem?_eq_getElem hi⟩
      obtain ⟨g, cc, hv, q0, q1, q2⟩ := ref_at H.out hf
      cases hv
      have HI := Aside0.mk hi
      have HF := Aside0.mk hf
      have hlt := less_is f.name s
      clear hf
      by_cases hb : f.name < s.data.toList
      · rw [decide_eq_true hb] at hlt
        have HB := Aside0.mk hb
        clear hb
        go_wp2
        go_roundg (D.L.length - (i + 1))
        case measure => have := HI.out; have := h1.out; omega
        case rel =>
          refine ⟨i + 1, by simp, ⟨by have := HI.out; have := h1.out; omega⟩, ⟨?_⟩, rfl⟩
          have hne : i ≠ placeL s.data.toList D.L := fun e => placeL_at (x := s.data.toList) (L := D.L) (f := f) (by rw [← e]; exact HF.out) HB.out
          have := h2.out
          omega
      · rw [decide_eq_false hb] at hlt
        have HB : Aside0 (placeL s.data.toList D.L = i) := ⟨by
          rcases Nat.lt_or_ge i (placeL s.data.toList D.L) with h9 | h9
          · exact absurd (placeL_lt HF.out h9) hb
          · have := h2.out; omega⟩
        clear hb
        go_wp2
        go_ret
        exact ⟨by rw [HB.out]; rfl, Below.refl _ _⟩
    · have e1 : decide ((i : Int) < (D.L.length : Int)) = false := decide_eq_false (by omega)
      have e1' : decide (i < D.L.length) = false := decide_eq_false hi
      have HB : Aside0 (placeL s.data.toList D.L = i) := ⟨by have := h2.out; have := placeL_le s.data.toList D.L; omega⟩
      clear hi
      go_wp2
      go_ret
      exact ⟨by rw [HB.out]; rfl, Below.refl _ _⟩
end Go.Proofs.YtakhnkkcllfbjaaDoorX
