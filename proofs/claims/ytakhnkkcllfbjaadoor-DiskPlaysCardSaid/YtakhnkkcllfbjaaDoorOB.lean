/- Rows of files and of a script that come in as arguments; no conditions beyond those in each theorem's head. -/
import Derived.Test.YtakhnkkcllfbjaaDoorPAx0
import Derived.Deep.Slices
import Derived.Deep.Fields
import Derived.ChangeSame
import Derived.SizedLaws
import Derived.ChangeSlices
namespace Go.Proofs.YtakhnkkcllfbjaaDoorX
open Go.RowKit Go.Proofs.YtakhnkkcllfbjaaDoorW.PrintWords Go.Proofs.YtakhnkkcllfbjaaDoorW.PrintLast Go.Proofs.YtakhnkkcllfbjaaDoorW.PrintMore
open Go.Proofs.YtakhnkkcllfbjaaDoor.PA (S37 k37 z37 k37_mk S51 k51 z51 k51_mk)
open Go.ChangeShapes Go.WideShapes Go.Deep
set_option linter.unusedVariables false
set_option linter.unusedSimpArgs false
/-- What is known of a script's one that comes in. -/
def Fine51 (x : S51) : Prop := (Lit.int .i64 x.f0).wf = true ∧ (Lit.int .i64 x.f4).wf = true ∧ x.f1.size ≤ maxLen ∧ x.f2.size ≤ maxLen ∧ x.f3.size ≤ maxLen ∧ x.f5.length ≤ maxLen ∧ ∀ n ∈ x.f5, (Lit.int .i64 n).wf = true
/-- What is known of a file that comes in. -/
def Fine37 (x : S37) : Prop := (Lit.int .i64 x.f2).wf = true ∧ x.f0.size ≤ maxLen ∧ x.f1.size ≤ maxLen
/-- A row of whole numbers in a cell. -/
theorem open_row_ints {H : Type} {enc : TypeId × Value → H} {w : World} {base : Nat} {spare : Nat → Bool} {held : Bool} {fuel : Nat} {v : Value} {y : DataW H × List MemPlace} (h : DataW.trod enc Tryd.prog w base spare held fuel 39 [v] = some y) :
    ∃ (A : Option Addr) (c : Nat) (l : List Int), v = .slice A l.length c ∧ l.length ≤ c ∧ l.length ≤ maxLen ∧ (Kd.int .i64).C w A l.length l ∧ ∀ n ∈ l, (Lit.int .i64 n).wf = true := by
  rcases open_ints Tryd.underlying39 Tryd.underlying3 (by kernel_rfl) h with ⟨hcs, _⟩ | ⟨a, len, cap, zs, hcs, _, hl, hm, hz, _, hcell, hw⟩
  · simp only [List.cons.injEq, and_true] at hcs
    subst hcs
    exact ⟨none, 0, [], rfl, Nat.le_refl _, Nat.zero_le _, ⟨rfl, by decide, fun h => absurd h (by decide)⟩, fun n hn => by cases hn⟩
  · simp only [List.cons.injEq, and_true] at hcs
    subst hcs
    have hlz : len ≤ zs.length := by rw [hz]; split <;> omega
    have hlen : (zs.take len).length = len := by rw [List.length_take]; omega
    refine ⟨some a, cap, zs.take len, by rw [hlen], by rw [hlen]; exact hl, by rw [hlen]; omega, ?_, fun n hn => hw n (List.mem_of_mem_take hn)⟩
    rw [hlen]
    refine Kd.C_of_reads (d := (0 : Int)) ⟨hlen, by simp only [maxLen] at hm; omega, fun _ => ⟨a, rfl, fun j hj => ?_⟩⟩
    rw [hcell j (by omega), List.getD_eq_getElem?_getD, List.getD_eq_getElem?_getD, List.getElem?_take, if_pos hj]
def f37F : Array Field := #[{ name := "Name", type := 9, offset := 0, embedded := false, tag := "", pkgPath := "", byteOffset := 0 }, { name := "Data", type := 9, offset := 1, embedded := false, tag := "", pkgPath := "", byteOffset := 16 }, { name := "Safe", type := 3, offset := 2, embedded := false, tag := "", pkgPath := "", byteOffset := 32 }]
theorem f37F_und : Tryd.prog.underlying 37 = some (.struct f37F) := Tryd.underlying37
theorem f37F_one : oneCellFields Tryd.prog f37F = true := by kernel_rfl
theorem f37F_cells : Tryd.prog.cellsOf 37 = f37F.size := by kernel_rfl
theorem f37F_bytes : Tryd.prog.bytesOf 37 = 40 := by kernel_rfl
section
variable {H : Type} {enc : TypeId × Value → H} {w : World} {base : Nat} {spare : Nat → Bool} {held : Bool}
set_option maxRecDepth 100000 in
theorem f37_cells {fuel : Nat} {cs : List Value} {x : DataW H × List MemPlace} (h : DataW.trod enc Tryd.prog w base spare held fuel 37 cs = some x) (hcl : cs.length = 3) : ∃ y : S37, Fine37 y ∧ k37.K w y cs := by
  obtain ⟨ys, n', hn', hy, hlen, hyl, hf⟩ := DataW.trod_struct f37F_und h
  have g : ∀ (j : Nat) (f : Field), f37F[j]? = some f → ∃ (v : Value) (y : DataW H × List MemPlace), cs[j]? = some v ∧ DataW.trod enc Tryd.prog w base spare held n' f.type [v] = some y := by
    intro j f hj
    obtain ⟨ho, hk⟩ := hone_of f37F_one j f hj
    have hj3 : j < 3 := (Array.getElem?_eq_some_iff.1 hj).1
    have hv : cs[j]? = some (cs[j]'(by omega)) := List.getElem?_eq_getElem (by omega)
    have h1 := hf j f hj
    rw [ho, hk] at h1
    have hone' : (cs.drop j).take 1 = [cs[j]'(by omega)] := by
      rw [List.drop_eq_getElem_cons (by omega)]
      rfl
    rw [hone'] at h1
    have hyl3 : ys.length = 3 := hyl
    have hys : ys[j]? = some (ys[j]'(by omega)) := List.getElem?_eq_getElem (by omega)
    exact ⟨_, _, hv, h1.trans hys⟩
  obtain ⟨v0, y0, e0, t0⟩ := g 0 _ rfl
  obtain ⟨v1, y1, e1, t1⟩ := g 1 _ rfl
  obtain ⟨v2, y2, e2, t2⟩ := g 2 _ rfl
  obtain ⟨n0, q0, _, w0⟩ := DataW.trod_string Tryd.underlying9 t0
  obtain ⟨n1, q1, _, w1⟩ := DataW.trod_string Tryd.underlying9 t1
  obtain ⟨n2, q2, _, w2⟩ := DataW.trod_int Tryd.underlying3 t2
  simp only [List.cons.injEq, and_true] at q0 q1 q2
  subst q0
  subst q1
  subst q2
  have hcs : cs = [.string n0, .string n1, .int .i64 n2] := by
    match cs, hcl with
    | [a0, a1, a2], _ =>
      simp only [List.getElem?_cons_zero, List.getElem?_cons_succ, Option.some.injEq] at e0 e1 e2
      rw [e0, e1, e2]
  rw [hcs]
  exact ⟨⟨n0, n1, n2⟩, ⟨w2, w0, w1⟩, k37_mk w ⟨n0, n1, n2⟩⟩
set_option maxRecDepth 100000 in
theorem open_f37 {fuel : Nat} {cs : List Value} {x : DataW H × List MemPlace} (h : DataW.trod enc Tryd.prog w base spare held fuel 32 cs = some x) :
    ∃ (a : Option Addr) (cap : Nat) (l : List S37), cs = [.slice a l.length cap] ∧ Kd.C k37 w a l.length l ∧ l.length ≤ cap ∧ cap ≤ maxLen ∧ (∀ y ∈ l, Fine37 y) ∧ (x.1 = .nil ∧ l = [] ∨ ∃ es sp, x.1 = .slice es sp ∧ es.length = l.length) := by
  rcases open_slice Tryd.underlying32 h with ⟨rfl, rfl⟩ | ⟨a, len, cap, m, n, D, Pl, rfl, hb, hl, hm, hmm, rfl, hi⟩
  · exact ⟨none, 0, [], rfl, ⟨rfl, by simp, fun h0 => absurd h0 (by simp)⟩, Nat.le_refl _, Nat.zero_le _, (fun y hy => by cases hy), .inl ⟨rfl, rfl⟩⟩
  · have hlm : len ≤ m := by rw [hmm]; split <;> omega
    have one : ∀ i, i < len → ∃ y : S37, Fine37 y ∧ ∃ c : List Value, c.length = 3 ∧ k37.K w y c ∧ ∀ j u, c[j]? = some u → w.cell? (a.add (i * 3 + j)) = some u := by
      intro i hil
      obtain ⟨cs', hc, ht'⟩ := hi i (by omega)
      rw [show Tryd.prog.cellsOf 37 = 3 from f37F_cells] at hc
      obtain ⟨_, hcl, hat⟩ := World.cells?_some hc
      obtain ⟨y, hy1, hy2⟩ := f37_cells ht' hcl
      refine ⟨y, hy1, cs', hcl, hy2, fun j u hj => ?_⟩
      have hj3 : j < 3 := by rw [← hcl]; exact (List.getElem?_eq_some_iff.1 hj).1
      rw [← Go.Deep.add_add, hat j hj3]
      exact hj
    obtain ⟨F, hF⟩ := @choose_lt S37 ⟨z37⟩ len _ one
    refine ⟨some a, cap, (List.range len).map F, by simp, ?_, by simpa using hl, hm, fun y hy => ?_, .inr ⟨_, _, rfl, by simp⟩⟩
    · refine ⟨rfl, by simp only [List.length_map, List.length_range]; simp only [maxLen] at hm; omega, fun _ => ⟨a, rfl, fun j p hj => ?_⟩⟩
      have hjl : j < len := by
        have := (List.getElem?_eq_some_iff.1 hj).1
        simpa using this
      have hp : p = F j := by
        rw [List.getElem?_map, List.getElem?_range hjl] at hj
        simpa using hj.symm
      subst hp
      exact (hF j hjl).2
    · obtain ⟨i, hi2, rfl⟩ := List.mem_map.1 hy
      exact (hF i (List.mem_range.1 hi2)).1
end
/-- The argument, with its weight. -/
theorem open_f37_arg {H : Type} {enc : TypeId × Value → H} {W : World} {base : Nat} {spare : Nat → Bool} {held : Bool} {v : Value} {d : DataW H} {ps : List MemPlace} {ts : List TypeId} {ds : List (DataW H)} {j : Nat}
    (hsz : (DataW.weightsEach Tryd.prog ts ds).all (· ≤ reachBytes) = true) (ht : ts[j]? = some 32) (hd : ds[j]? = some d) (hv : ∃ a len cap, v = .slice a len cap) (h : DataW.Trod enc Tryd.prog W base spare held 32 v d ps) :
    ∃ (a : Option Addr) (cap : Nat) (l : List S37), v = .slice a l.length cap ∧ Kd.C k37 W a l.length l ∧ l.length ≤ cap ∧ (∀ y ∈ l, Fine37 y) ∧ l.length * 40 ≤ 140737488351232 := by
  obtain ⟨a0, len0, cap0, rfl⟩ := hv
  obtain ⟨fuel, hf⟩ := h
  obtain ⟨a, cap, l, hcs, hC, hl, hm, hfine, hx⟩ := open_f37 hf
  simp only [Value.cells, List.cons.injEq, and_true] at hcs
  refine ⟨a, cap, l, by simpa [Value.cells] using hcs, hC, hl, hfine, ?_⟩
  rcases hx with ⟨_, rfl⟩ | ⟨es, sp, hx, hlen⟩
  · simp
  · simp only at hx
    subst hx
    have z := sized_slice hsz ht hd Tryd.underlying32
    rw [f37F_bytes] at z
    have : reachBytes = 140737488351232 := by decide
    rw [this] at z
    have : es.length * 40 ≤ (es.length + sp.length) * 40 := Nat.mul_le_mul_right _ (by omega)
    omega
def f51F : Array Field := #[{ name := "What", type := 3, offset := 0, embedded := false, tag := "", pkgPath := "", byteOffset := 0 }, { name := "A", type := 9, offset := 1, embedded := false, tag := "", pkgPath := "", byteOffset := 8 }, { name := "B", type := 9, offset := 2, embedded := false, tag := "", pkgPath := "", byteOffset := 24 }, { name := "Data", type := 9, offset := 3, embedded := false, tag := "", pkgPath := "", byteOffset := 40 }, { name := "N", type := 3, offset := 4, embedded := false, tag := "", pkgPath := "", byteOffset := 56 }, { name := "Keep", type := 39, offset := 5, embedded := false, tag := "", pkgPath := "", byteOffset := 64 }]
theorem f51F_und : Tryd.prog.underlying 51 = some (.struct f51F) := Tryd.underlying51
theorem f51F_one : oneCellFields Tryd.prog f51F = true := by kernel_rfl
theorem f51F_cells : Tryd.prog.cellsOf 51 = f51F.size := by kernel_rfl
theorem f51F_bytes : Tryd.prog.bytesOf 51 = 88 := by kernel_rfl
section
variable {H : Type} {enc : TypeId × Value → H} {w : World} {base : Nat} {spare : Nat → Bool} {held : Bool}
set_option maxRecDepth 100000 in
theorem f51_cells {fuel : Nat} {cs : List Value} {x : DataW H × List MemPlace} (h : DataW.trod enc Tryd.prog w base spare held fuel 51 cs = some x) (hcl : cs.length = 6) : ∃ y : S51, Fine51 y ∧ k51.K w y cs := by
  obtain ⟨ys, n', hn', hy, hlen, hyl, hf⟩ := DataW.trod_struct f51F_und h
  have g : ∀ (j : Nat) (f : Field), f51F[j]? = some f → ∃ (v : Value) (y : DataW H × List MemPlace), cs[j]? = some v ∧ DataW.trod enc Tryd.prog w base spare held n' f.type [v] = some y := by
    intro j f hj
    obtain ⟨ho, hk⟩ := hone_of f51F_one j f hj
    have hj3 : j < 6 := (Array.getElem?_eq_some_iff.1 hj).1
    have hv : cs[j]? = some (cs[j]'(by omega)) := List.getElem?_eq_getElem (by omega)
    have h1 := hf j f hj
    rw [ho, hk] at h1
    have hone' : (cs.drop j).take 1 = [cs[j]'(by omega)] := by
      rw [List.drop_eq_getElem_cons (by omega)]
      rfl
    rw [hone'] at h1
    have hyl3 : ys.length = 6 := hyl
    have hys : ys[j]? = some (ys[j]'(by omega)) := List.getElem?_eq_getElem (by omega)
    exact ⟨_, _, hv, h1.trans hys⟩
  obtain ⟨v0, y0, e0, t0⟩ := g 0 _ rfl
  obtain ⟨v1, y1, e1, t1⟩ := g 1 _ rfl
  obtain ⟨v2, y2, e2, t2⟩ := g 2 _ rfl
  obtain ⟨v3, y3, e3, t3⟩ := g 3 _ rfl
  obtain ⟨v4, y4, e4, t4⟩ := g 4 _ rfl
  obtain ⟨v5, y5, e5, t5⟩ := g 5 _ rfl
  obtain ⟨n0, q0, _, w0⟩ := DataW.trod_int Tryd.underlying3 t0
  obtain ⟨n1, q1, _, w1⟩ := DataW.trod_string Tryd.underlying9 t1
  obtain ⟨n2, q2, _, w2⟩ := DataW.trod_string Tryd.underlying9 t2
  obtain ⟨n3, q3, _, w3⟩ := DataW.trod_string Tryd.underlying9 t3
  obtain ⟨n4, q4, _, w4⟩ := DataW.trod_int Tryd.underlying3 t4
  obtain ⟨A5, c5, n5, rfl, l5, m5, C5, w5⟩ := open_row_ints t5
  simp only [List.cons.injEq, and_true] at q0 q1 q2 q3 q4
  subst q0
  subst q1
  subst q2
  subst q3
  subst q4
  have hcs : cs = [.int .i64 n0, .string n1, .string n2, .string n3, .int .i64 n4, .slice A5 n5.length c5] := by
    match cs, hcl with
    | [a0, a1, a2, a3, a4, a5], _ =>
      simp only [List.getElem?_cons_zero, List.getElem?_cons_succ, Option.some.injEq] at e0 e1 e2 e3 e4 e5
      rw [e0, e1, e2, e3, e4, e5]
  rw [hcs]
  exact ⟨⟨n0, n1, n2, n3, n4, n5⟩, ⟨w0, w4, w1, w2, w3, m5, w5⟩, k51_mk w ⟨n0, n1, n2, n3, n4, n5⟩ l5 C5⟩
set_option maxRecDepth 100000 in
theorem open_f51 {fuel : Nat} {cs : List Value} {x : DataW H × List MemPlace} (h : DataW.trod enc Tryd.prog w base spare held fuel 45 cs = some x) :
    ∃ (a : Option Addr) (cap : Nat) (l : List S51), cs = [.slice a l.length cap] ∧ Kd.C k51 w a l.length l ∧ l.length ≤ cap ∧ cap ≤ maxLen ∧ (∀ y ∈ l, Fine51 y) ∧ (x.1 = .nil ∧ l = [] ∨ ∃ es sp, x.1 = .slice es sp ∧ es.length = l.length) := by
  rcases open_slice Tryd.underlying45 h with ⟨rfl, rfl⟩ | ⟨a, len, cap, m, n, D, Pl, rfl, hb, hl, hm, hmm, rfl, hi⟩
  · exact ⟨none, 0, [], rfl, ⟨rfl, by simp, fun h0 => absurd h0 (by simp)⟩, Nat.le_refl _, Nat.zero_le _, (fun y hy => by cases hy), .inl ⟨rfl, rfl⟩⟩
  · have hlm : len ≤ m := by rw [hmm]; split <;> omega
    have one : ∀ i, i < len → ∃ y : S51, Fine51 y ∧ ∃ c : List Value, c.length = 6 ∧ k51.K w y c ∧ ∀ j u, c[j]? = some u → w.cell? (a.add (i * 6 + j)) = some u := by
      intro i hil
      obtain ⟨cs', hc, ht'⟩ := hi i (by omega)
      rw [show Tryd.prog.cellsOf 51 = 6 from f51F_cells] at hc
      obtain ⟨_, hcl, hat⟩ := World.cells?_some hc
      obtain ⟨y, hy1, hy2⟩ := f51_cells ht' hcl
      refine ⟨y, hy1, cs', hcl, hy2, fun j u hj => ?_⟩
      have hj3 : j < 6 := by rw [← hcl]; exact (List.getElem?_eq_some_iff.1 hj).1
      rw [← Go.Deep.add_add, hat j hj3]
      exact hj
    obtain ⟨F, hF⟩ := @choose_lt S51 ⟨z51⟩ len _ one
    refine ⟨some a, cap, (List.range len).map F, by simp, ?_, by simpa using hl, hm, fun y hy => ?_, .inr ⟨_, _, rfl, by simp⟩⟩
    · refine ⟨rfl, by simp only [List.length_map, List.length_range]; simp only [maxLen] at hm; omega, fun _ => ⟨a, rfl, fun j p hj => ?_⟩⟩
      have hjl : j < len := by
        have := (List.getElem?_eq_some_iff.1 hj).1
        simpa using this
      have hp : p = F j := by
        rw [List.getElem?_map, List.getElem?_range hjl] at hj
        simpa using hj.symm
      subst hp
      exact (hF j hjl).2
    · obtain ⟨i, hi2, rfl⟩ := List.mem_map.1 hy
      exact (hF i (List.mem_range.1 hi2)).1
end
/-- The argument, with its weight. -/
theorem open_f51_arg {H : Type} {enc : TypeId × Value → H} {W : World} {base : Nat} {spare : Nat → Bool} {held : Bool} {v : Value} {d : DataW H} {ps : List MemPlace} {ts : List TypeId} {ds : List (DataW H)} {j : Nat}
    (hsz : (DataW.weightsEach Tryd.prog ts ds).all (· ≤ reachBytes) = true) (ht : ts[j]? = some 45) (hd : ds[j]? = some d) (hv : ∃ a len cap, v = .slice a len cap) (h : DataW.Trod enc Tryd.prog W base spare held 45 v d ps) :
    ∃ (a : Option Addr) (cap : Nat) (l : List S51), v = .slice a l.length cap ∧ Kd.C k51 W a l.length l ∧ l.length ≤ cap ∧ (∀ y ∈ l, Fine51 y) ∧ l.length * 88 ≤ 140737488351232 := by
  obtain ⟨a0, len0, cap0, rfl⟩ := hv
  obtain ⟨fuel, hf⟩ := h
  obtain ⟨a, cap, l, hcs, hC, hl, hm, hfine, hx⟩ := open_f51 hf
  simp only [Value.cells, List.cons.injEq, and_true] at hcs
  refine ⟨a, cap, l, by simpa [Value.cells] using hcs, hC, hl, hfine, ?_⟩
  rcases hx with ⟨_, rfl⟩ | ⟨es, sp, hx, hlen⟩
  · simp
  · simp only at hx
    subst hx
    have z := sized_slice hsz ht hd Tryd.underlying45
    rw [f51F_bytes] at z
    have : reachBytes = 140737488351232 := by decide
    rw [this] at z
    have : es.length * 88 ≤ (es.length + sp.length) * 88 := Nat.mul_le_mul_right _ (by omega)
    omega
end Go.Proofs.YtakhnkkcllfbjaaDoorX
