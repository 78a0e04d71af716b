/- Words of our own for texts laid by wip/gen/xprint.py: the string's append as one step of a region that draws; copy into a row of the call's own; no conditions beyond those in each theorem's head. -/
import Derived.Test.YtmomohljnmopfaaWMore
import Derived.Test.YtmomohljnmopfaaWNEv
import Derived.Laws.CopyOwn
import Derived.Lib.AppendStr
namespace Go.Proofs.YtmomohljnmopfaaX
open Go.RowKit Go.Proofs.YtmomohljnmopfaaW.PrintWords Go.Proofs.YtmomohljnmopfaaW.PrintLast Go.Proofs.YtmomohljnmopfaaW.PrintMore
set_option linter.unusedVariables false
set_option linter.unusedSimpArgs false

section
variable {P : Program} {ops : Array Oper} {rest : List Oper} {o : Oper} {a : Act} {Q : Exit → Act → World → Prop} {Kc : Act → World → Prop}
/-- append(v, s...), s a string, as one step of a region that draws. -/
theorem print_append_str_step {w0 W : World} (base : Nat) (hw : Region.wanted o (yielded ops a.tmps) = true) (s x : Operand) (t u e : TypeId)
    (ho : o.op = .call { callee := .builtin .append, args := #[s, x], argTypes := #[t, u] })
    (ht : P.underlying t = some (.slice e)) (hu : P.underlying u = some .string) (hinfo : (P.info? e).map (fun i => (i.zero, i.size, i.bytes)) = some (some (.int .u8 0), 1, 1))
    (v : Value) (xs : List Int) (y : ByteArray) (hs : a.eval s = v) (hx : a.eval x = .string y)
    (HO : W.ownsRow base e 1 v xs.length (nums .u8 xs)) (HB : Below base w0 W) (hbase : base ≤ W.heap.size) (hl : xs.length + y.size ≤ 140737488355328)
    (h : ∀ v1 w1, w1.ownsRow base e 1 v1 (xs ++ bytesOf y).length (nums .u8 (xs ++ bytesOf y)) → Below base w0 w1 → W.grownBy w1 v.ownBlock → Kc (a.put o.dst v1) w1) :
    if Region.wanted o (yielded ops a.tmps) = true then Oper.wp P o a W Kc Q else Kc (a.put o.dst undef) W := by
  obtain ⟨i0, hi, hzz⟩ := Option.map_eq_some_iff.1 hinfo
  simp only [Prod.mk.injEq] at hzz
  obtain ⟨hz0, hz1, hz2⟩ := hzz
  obtain ⟨v1, w1, hrun, hown, hg, _⟩ := Lib.run_append_own_string (P := P) W base t u o.type e i0 ht hu hi hz0 hz1 hz2 v xs.length (nums .u8 xs) HO y (by simp only [maxLen]; omega) hl hbase
  have hl2 : (xs ++ bytesOf y).length = xs.length + y.size := by rw [List.length_append, bytesOf_length]
  have hc : nums .u8 (xs ++ bytesOf y) = nums .u8 xs ++ Lib.strCells y := by
    rw [nums_append]
    congr 1
    simp [nums, bytesOf, Lib.strCells]
  rw [if_pos hw]
  unfold Oper.wp execOp
  simp only [ho, resolve, invoke, builtin, Sem.run_bind, Sem.run_pure, Result.andThen_ok, List.map_toArray, List.map_cons, List.map_nil, hs, hx, hrun]
  exact h v1 w1 (by rw [hl2, hc]; exact hown) (HB.grown hg hbase (own_base HO)) hg
end

theorem u8_w (n : Int) : IntKind.u8.wrap n = n % 256 := rfl
theorem u32_w (n : Int) : IntKind.u32.wrap n = n % 4294967296 := rfl

theorem same_rounds {α : Type} {g : Nat → Option α} (hm : ∀ k, LeO (g k) (g (k + 1))) {k m : Nat} {r s : α} (h : g k = some r) (h2 : g m = some s) : r = s := by
  have h3 := at_rounds hm (Nat.le_max_left k m) h
  have h4 := at_rounds hm (Nat.le_max_right k m) h2
  exact Option.some.inj (h3.symm.trans h4)

/-- What copy leaves: the first elements are the source's, as many as fit. -/
def cpy {α : Type} (xs ys : List α) : List α := ys.take xs.length ++ xs.drop ys.length
/-- How many elements copy copies. -/
def cpyN {α : Type} (xs ys : List α) : Int := (min ys.length xs.length : Nat)
theorem cpy_length {α : Type} (xs ys : List α) : (cpy xs ys).length = xs.length := by
  unfold cpy
  rw [List.length_append, List.length_take, List.length_drop]
  omega

theorem run_copy_cells {P : Program} (w : World) (dT sT ty elem : TypeId) (i : TypeInfo) (g n cap : Nat) (sp : Option Addr) (m c : Nat) (cur : Array Value) (t : TypeId) (cs : List Value)
    (hu : P.underlying dT = some (.slice elem)) (hi : P.info? elem = some i) (hg : w.heap[g]? = some (.cells cur t (0, 0))) (hn : cs.length = Nat.min m n * i.size)
    (hsrc : 0 < m → ∃ ad, sp = some ad ∧ ∀ j v, cs[j]? = some v → w.cell? (ad.add j) = some v) (hfit : cs.length ≤ cur.size) (h1 : ∀ v ∈ cs, v.oneCell' = true) :
    (Builtin.copy_ #[dT, sT] ty #[.slice (some ⟨g, 0, none⟩) n cap, .slice sp m c]).run P w = .ok (goInt (Nat.min m n)) (w.setRow g (cs ++ cur.toList.drop cs.length).toArray) := by
  have hst := run_storeCells_at P g 0 t cs 0 cur w hg (by simpa using hfit) h1
  simp only [Nat.add_zero, Nat.zero_add, List.take_zero, List.nil_append] at hst
  rcases Nat.eq_zero_or_pos m with h0 | h0
  · subst h0
    obtain rfl : cs = [] := List.eq_nil_of_length_eq_zero (by rw [hn]; simp)
    cases sp with
    | none => simp [Builtin.copy_, run_underlying hu, Builtin.lenOf, Builtin.firstCells, sizeOf, typeInfo, hi, hst]
    | some ad =>
      have hl : (loadCells ad 0).run P w = .ok #[] w := by simpa using run_loadCells_list (P := P) w ad [] (by simp)
      simp [Builtin.copy_, run_underlying hu, Builtin.lenOf, Builtin.firstCells, sizeOf, typeInfo, hi, hl, hst]
  · obtain ⟨ad, rfl, hc⟩ := hsrc h0
    have hl := run_loadCells_list (P := P) w ad cs hc
    rw [hn] at hl
    simp [Builtin.copy_, run_underlying hu, Builtin.lenOf, Builtin.firstCells, sizeOf, typeInfo, hi, hl, hst]

theorem run_copy_nowhere {P : Program} (w : World) (dT sT ty elem : TypeId) (i : TypeInfo) (sp : Option Addr) (m c : Nat)
    (hu : P.underlying dT = some (.slice elem)) (hi : P.info? elem = some i) :
    (Builtin.copy_ #[dT, sT] ty #[.slice none 0 0, .slice sp m c]).run P w = .ok (goInt 0) w := by
  cases sp with
  | none => simp [Builtin.copy_, run_underlying hu, Builtin.lenOf, Builtin.firstCells, sizeOf, typeInfo, hi]
  | some ad =>
    have hl : (loadCells ad 0).run P w = .ok #[] w := by simpa using run_loadCells_list (P := P) w ad [] (by simp)
    simp [Builtin.copy_, run_underlying hu, Builtin.lenOf, Builtin.firstCells, sizeOf, typeInfo, hi, hl]

/-- The elements at the front of a row that is read, as cells. -/
theorem ReadsRow_front {α : Type} {R : α → List Value → Prop} {size : Nat} {w : World} {A : Option Addr} {m : Nat} {ys : List α} (h : ReadsRow R size w A m ys) (k : Nat) (hk : k ≤ m) (hk0 : 0 < k) :
    ∃ ad news, A = some ad ∧ Reps R size (ys.take k) news ∧ ∀ j u, news[j]? = some u → w.cell? (ad.add j) = some u := by
  obtain ⟨ad, rfl, hc⟩ := h.2.2 (by omega)
  have h' : ReadsRow R size w (some ad) k (ys.take k) := by
    refine ⟨by rw [List.length_take, h.1]; omega, by have := h.2.1; omega, fun _ => ⟨ad, rfl, fun j p hj => ?_⟩⟩
    rw [List.getElem?_take] at hj
    split at hj
    · exact hc j p hj
    · cases hj
  obtain ⟨news, h1, h2⟩ := ReadsRow.inner_ h'
  exact ⟨ad, news, rfl, h1, h2⟩

theorem Reps_drop {α : Type} {R : α → List Value → Prop} {size : Nat} {xs : List α} {cs : List Value} (h : Reps R size xs cs) (k : Nat) : Reps R size (xs.drop k) (cs.drop (k * size)) := by
  refine ⟨by rw [List.length_drop, List.length_drop, h.1, Nat.sub_mul], fun j p hj => ?_⟩
  rw [List.getElem?_drop] at hj
  have := h.2 (k + j) p hj
  rw [List.drop_drop, ← Nat.add_mul]
  exact this
theorem Reps_append {α : Type} {R : α → List Value → Prop} {size : Nat} {xs ys : List α} {cs ds : List Value} (h : Reps R size xs cs) (h2 : Reps R size ys ds) : Reps R size (xs ++ ys) (cs ++ ds) := by
  refine ⟨by rw [List.length_append, List.length_append, h.1, h2.1, Nat.add_mul], fun j p hj => ?_⟩
  rcases Nat.lt_or_ge j xs.length with hl | hl
  · rw [List.getElem?_append_left hl] at hj
    have h3 : j * size + size ≤ cs.length := by rw [h.1, ← Nat.succ_mul]; exact Nat.mul_le_mul_right _ hl
    have := h.2 j p hj
    rw [List.drop_append_of_le_length (by omega), List.take_append_of_le_length (by rw [List.length_drop]; omega)]
    exact this
  · rw [List.getElem?_append_right hl] at hj
    have := h2.2 _ p hj
    have e : (cs ++ ds).drop (j * size) = ds.drop ((j - xs.length) * size) := by
      rw [List.drop_append, List.drop_eq_nil_of_le (by rw [h.1]; exact Nat.mul_le_mul_right _ hl), List.nil_append, h.1, Nat.sub_mul]
    rw [e]
    exact this

section
variable {P : Program} {ops : Array Oper} {rest : List Oper} {o : Oper} {a : Act} {Q : Exit → Act → World → Prop} {α : Type}
open Kd in
/-- copy(v, x), v a row of the call's own, x a row that is read; the elements lead to no rows. -/
theorem R_copy (d : Kd α) {w0 W : World} (base : Nat) (hgd : o.guard = none) (s x : Operand) (t e : TypeId) (z : Value) (bytes : Nat)
    (ho : o.op = .call { callee := .builtin .copy, args := #[s, x], argTypes := #[t, t] })
    (ht : P.underlying t = some (.slice e)) (hinfo : (P.info? e).map (fun i => (i.zero, i.size, i.bytes)) = some (some z, d.sz, bytes)) (hs0 : 0 < d.sz)
    (v : Value) (xs ys : List α) (A : Option Addr) (m c : Nat) (ok : Nat → Prop) (hs : a.eval s = v) (hx : a.eval x = .slice A m c)
    (HO : d.R e W base ok v xs) (HR : d.C W A m ys) (hKM : ∀ (w1 : World) (ok' : Nat → Prop) x cs, d.K W x cs → d.M w1 base ok' x cs) (hMM : ∀ (w1 : World) (ok1 ok' : Nat → Prop) x cs, d.M W base ok1 x cs → d.M w1 base ok' x cs) (HB : Below base w0 W)
    (h : ∀ w1, d.R e w1 base ok v (cpy xs ys) → Below base w0 w1 → W.grownBy w1 v.ownBlock → wpList P ops Q rest (a.put o.dst (.int .i64 (cpyN xs ys))) w1) :
    wpList P ops Q (o :: rest) a W := by
  obtain ⟨i0, hi, hzz⟩ := Option.map_eq_some_iff.1 hinfo
  simp only [Prod.mk.injEq] at hzz
  obtain ⟨hz0, hz1, hz2⟩ := hzz
  have hm : ys.length = m := HR.1
  obtain ⟨hok, inner, hown, hr⟩ := HO
  have hrun : ∃ w1, (Builtin.copy_ #[t, t] o.type #[v, .slice A m c]).run P W = .ok (.int .i64 (cpyN xs ys)) w1 ∧ d.R e w1 base ok v (cpy xs ys) ∧ W.grownBy w1 v.ownBlock ∧ Below base w0 w1 := by
    rcases hown.2 with ⟨rfl, hn⟩ | ⟨g, cap, cur, rfl, hbg, hg, hnc, hcm, hcs, htk⟩
    · obtain rfl : xs = [] := List.eq_nil_of_length_eq_zero hn
      refine ⟨W, by simpa [cpyN, goInt] using run_copy_nowhere W t t o.type e i0 A m c ht hi, ?_, World.grownBy.refl W _, HB⟩
      rw [show cpy ([] : List α) ys = [] from by simp [cpy]]
      exact ⟨hok, inner, hown, hr⟩
    · have hk : ∃ cs, Reps (fun x c => d.K W x c) d.sz (ys.take xs.length) cs ∧ (0 < m → ∃ ad, A = some ad ∧ ∀ j u, cs[j]? = some u → W.cell? (ad.add j) = some u) := by
        rcases Nat.eq_zero_or_pos (Nat.min m xs.length) with h0 | h0
        · have e0 : ys.take xs.length = [] := by
            apply List.eq_nil_of_length_eq_zero
            rw [List.length_take, hm]
            have : Nat.min m xs.length = min m xs.length := rfl
            omega
          rw [e0]
          refine ⟨[], Reps.none _ _, fun hp => ?_⟩
          obtain ⟨ad, h1, _⟩ := HR.2.2 hp
          exact ⟨ad, h1, fun j u hj => by simp at hj⟩
        · have hmin : Nat.min m xs.length = min m xs.length := rfl
          obtain ⟨ad, news, h1, h2, h3⟩ := ReadsRow_front HR (Nat.min m xs.length) (by omega) h0
          have e1 : ys.take (Nat.min m xs.length) = ys.take xs.length := by
            rw [hmin, ← hm]
            rcases Nat.le_total ys.length xs.length with hl | hl
            · rw [Nat.min_eq_left hl, List.take_of_length_le hl, List.take_of_length_le (Nat.le_refl _)]
            · rw [Nat.min_eq_right hl]
          rw [e1] at h2
          exact ⟨news, h2, fun _ => ⟨ad, h1, h3⟩⟩
      obtain ⟨cs, hreps, hsrc⟩ := hk
      have hcl : cs.length = Nat.min m xs.length * i0.size := by
        rw [hreps.1, List.length_take, hm, hz1]
        have : Nat.min m xs.length = min m xs.length := rfl
        rw [this, Nat.min_comm]
      have hone : ∀ u ∈ cs, u.oneCell' = true := by
        intro u hu
        obtain ⟨q, hq, rfl⟩ := List.mem_iff_getElem.1 hu
        have hql : q / d.sz < (ys.take xs.length).length := by
          rw [Nat.div_lt_iff_lt_mul hs0, ← hreps.1]
          exact hq
        have hc := hreps.2 (q / d.sz) _ (List.getElem?_eq_getElem hql)
        refine d.K_one hc _ ?_
        rw [List.mem_iff_getElem?]
        refine ⟨q % d.sz, ?_⟩
        rw [List.getElem?_take, if_pos (Nat.mod_lt _ hs0), List.getElem?_drop, Nat.mul_comm, Nat.div_add_mod, List.getElem?_eq_getElem hq]
      have hlen : cs.length ≤ xs.length * d.sz := by
        rw [hreps.1]
        refine Nat.mul_le_mul_right _ ?_
        rw [List.length_take]
        omega
      have hcap : xs.length * d.sz ≤ cap * d.sz := Nat.mul_le_mul_right _ hnc
      have hr1 := run_copy_cells (P := P) W t t o.type e i0 g xs.length cap A m c cur e cs ht hi hg hcl hsrc (by omega) hone
      rw [show goInt (Nat.min m xs.length) = Value.int .i64 (cpyN xs ys) from by simp only [cpyN, hm, goInt]] at hr1
      refine ⟨_, hr1, ?_, ⟨rfl, rfl, rfl, by simp [World.setRow], fun k _ hk => setRow_other W g k _ (fun e => hk (by simp [Value.ownBlock, e]))⟩, below_setRow HB hbg _⟩
      have hx0 : inner = cur.toList.take (xs.length * d.sz) := htk.symm
      have hrM : Reps (d.M (W.setRow g (cs ++ cur.toList.drop cs.length).toArray) base (fun k => ok k ∧ some k ≠ (Value.slice (some ⟨g, 0, none⟩) xs.length cap).ownBlock)) d.sz (cpy xs ys) (cs ++ inner.drop cs.length) := by
        unfold cpy
        refine Reps_append (hreps.imp_ (fun p c hp => hKM _ _ p c hp)) ?_
        have e2 : inner.drop cs.length = inner.drop ((Nat.min m xs.length) * d.sz) := by rw [hcl, hz1]
        have e3 : xs.drop ys.length = xs.drop (Nat.min m xs.length) := by
          rw [hm]
          have hmin : Nat.min m xs.length = min m xs.length := rfl
          rw [hmin]
          rcases Nat.le_total m xs.length with hl | hl
          · rw [Nat.min_eq_left hl]
          · rw [Nat.min_eq_right hl, List.drop_eq_nil_of_le hl, List.drop_eq_nil_of_le (Nat.le_refl _)]
        rw [e2, e3]
        exact (Reps_drop hr _).imp_ (fun p c hp => hMM _ _ _ p c hp)
      refine ⟨hok, cs ++ inner.drop cs.length, ?_, hrM⟩
      rw [cpy_length]
      refine ⟨?_, .inr ⟨g, cap, _, rfl, hbg, setRow_heap W g cur _ e _ hg, hnc, hcm, ?_, ?_⟩⟩
      · have hil := hown.1
        rw [List.length_append, List.length_drop]
        omega
      · simp only [List.size_toArray, List.length_append, List.length_drop, Array.length_toList]
        omega
      · simp only
        rw [hx0, List.take_append, List.take_of_length_le (by omega), List.drop_take]
  obtain ⟨w1, hrun, h2, hg, hb⟩ := hrun
  refine wpList_plain hgd fun K hK => ?_
  unfold Oper.wp execOp
  simp only [ho, resolve, invoke, builtin, Sem.run_bind, Sem.run_pure, Result.andThen_ok, List.map_toArray, List.map_cons, List.map_nil, hs, hx, hrun]
  exact hK _ w1 (h w1 h2 hb hg)
end

/-- Where a string's append leaves the row: where it was, or in a new block. -/
theorem append_str_at {P : Program} (w : World) (base : Nat) (t u ty e : TypeId) (i : TypeInfo) (ht : P.underlying t = some (.slice e)) (hu : P.underlying u = some .string) (hi : P.info? e = some i) (hz : i.zero = some (.int .u8 0))
    (hsize : i.size = 1) (hby : i.bytes = 1) (v : Value) (n : Nat) (xs : List Value) (hown : w.ownsRow base e 1 v n xs) (s : ByteArray) (h63 : n + s.size ≤ maxLen) (hbytes : n + s.size ≤ 140737488355328)
    (v' : Value) (w' : World) (hr : (Builtin.append_ #[t, u] ty #[v, .string s]).run P w = .ok v' w') (hnil : v' = .slice none 0 0 ↔ v = .slice none 0 0 ∧ s.size = 0) :
    v'.ownBlock = v.ownBlock ∨ ∃ b, v'.ownBlock = some b ∧ w.heap.size ≤ b := by
  have hxl : xs.length = n := by simpa using hown.1
  rcases hown.2 with ⟨rfl, rfl⟩ | ⟨g, cap, cur, rfl, hbg, hg, hnc, hcm, hcs, htake⟩
  · by_cases hm : s.size = 0
    · exact .inl (by rw [hnil.2 ⟨rfl, hm⟩])
    · simp only [maxLen] at h63
      have h := run_append_nil_string (P := P) w t u ty e i (.int .u8 0) ht hu hi hz s (by omega) (by omega) (by rw [hby]; omega)
      rw [hr] at h
      injection h with h1 h2
      exact .inr ⟨w.heap.size, by rw [h1]; rfl, Nat.le_refl _⟩
  · by_cases hroom : n + s.size ≤ cap
    · have hcs' : cur.size = cap := by simpa using hcs
      have h := Lib.run_append_room_string (P := P) w t u ty e i ht hu hi hsize g n cap cur hg s hroom (by omega)
      rw [hr] at h
      injection h with h1 h2
      exact .inl (by rw [h1]; rfl)
    · have holds : ∀ j u, xs[j]? = some u → w.cell? ((⟨g, 0, none⟩ : Addr).add j) = some u := hown.cells (g := g) rfl
      simp only [maxLen] at h63
      have h := Lib.run_append_grow_string (P := P) w t u ty e i (.int .u8 0) ht hu hi hz ⟨g, 0, none⟩ n cap xs (by rw [hsize]; simpa using hxl) holds s (by omega) (by omega) (by rw [hby]; exact growslice_fits (by omega) (by omega))
      rw [hr] at h
      injection h with h1 h2
      exact .inr ⟨w.heap.size, by rw [h1]; rfl, Nat.le_refl _⟩
theorem print_append_str_at {P : Program} {ops : Array Oper} {Q : Exit → Act → World → Prop} {rest : List Oper} {o : Oper} {a : Act} {w0 W : World} (base : Nat) (hgd : o.guard = none) (s x : Operand) (t u e : TypeId)
    (ho : o.op = .call { callee := .builtin .append, args := #[s, x], argTypes := #[t, u] })
    (ht : P.underlying t = some (.slice e)) (hu : P.underlying u = some .string) (hinfo : (P.info? e).map (fun i => (i.zero, i.size, i.bytes)) = some (some (.int .u8 0), 1, 1))
    (v : Value) (xs : List Int) (y : ByteArray) (hs : a.eval s = v) (hx : a.eval x = .string y)
    (HO : W.ownsRow base e 1 v xs.length (nums .u8 xs)) (HB : Below base w0 W) (hbase : base ≤ W.heap.size) (hl : xs.length + y.size ≤ 140737488355328)
    (h : ∀ v1 w1, w1.ownsRow base e 1 v1 (xs ++ bytesOf y).length (nums .u8 (xs ++ bytesOf y)) → Below base w0 w1 → W.grownBy w1 v.ownBlock → (v1.ownBlock = v.ownBlock ∨ ∃ b, v1.ownBlock = some b ∧ W.heap.size ≤ b) → wpList P ops Q rest (a.put o.dst v1) w1) :
    wpList P ops Q (o :: rest) a W := by
  obtain ⟨i0, hi, hzz⟩ := Option.map_eq_some_iff.1 hinfo
  simp only [Prod.mk.injEq] at hzz
  obtain ⟨hz0, hz1, hz2⟩ := hzz
  have hm : xs.length + y.size ≤ maxLen := by simp only [maxLen]; omega
  refine wpList_plain hgd fun K hK => ?_
  obtain ⟨v', w', hr, h2, h3, h4⟩ := Lib.run_append_own_string (P := P) W base t u o.type e i0 ht hu hi hz0 hz1 hz2 v xs.length (nums .u8 xs) HO y hm hl hbase
  have hat := append_str_at W base t u o.type e i0 ht hu hi hz0 hz1 hz2 v xs.length (nums .u8 xs) HO y hm hl v' w' hr h4
  unfold Oper.wp execOp
  simp only [ho, resolve, invoke, builtin, Sem.run_bind, Sem.run_pure, Result.andThen_ok, List.map_toArray, List.map_cons, List.map_nil, hs, hx, hr]
  have hl2 : (xs ++ bytesOf y).length = xs.length + y.size := by rw [List.length_append, bytesOf_length]
  have hc : nums .u8 (xs ++ bytesOf y) = nums .u8 xs ++ Lib.strCells y := by
    rw [nums_append]
    congr 1
    simp [nums, bytesOf, Lib.strCells]
  exact hK _ _ (h v' w' (by rw [hl2, hc]; exact h2) (HB.grown h3 hbase (own_base HO)) h3 hat)
/-! short names for the printed texts' rows (bin/short.py) -/
abbrev bN := @blk_drewN
abbrev bD := @blk_drew
abbrev bA := @blk_alloc
abbrev bF := @blk_far
abbrev pA := @below_alloc
abbrev pN := @pw_below_drewN
abbrev pD := @below_drew1
abbrev pS := @below_set
/-! ### words with their proofs inside (bin/compress.py): rows of printed texts whose proofs are always alike -/
section
variable {P : Program} {ops : Array Oper} {rest : List Oper} {Q : Exit → Act → World → Prop}
theorem bel {w W : World} (h : Below w.heap.size w W := by repeat (first | (with_reducible first | exact HB.out | apply pA | apply pN | apply pD | refine pS ?_ (Aside0.out (by assumption))) | exact HB.out)) : Below w.heap.size w W := h
theorem bs {w W w2 : World} (k : Below W.heap.size W w2) (h : Below w.heap.size w W := by repeat (first | (with_reducible first | exact HB.out | apply pA | apply pN | apply pD | refine pS ?_ (Aside0.out (by assumption))) | exact HB.out)) : Aside0 (Below w.heap.size w w2) := ⟨below_step h k⟩
theorem bz {w W : World} {gb : Nat} (hg : gb = W.heap.size) (h : Below w.heap.size w W := by repeat (first | (with_reducible first | exact HB.out | apply pA | apply pN | apply pD | refine pS ?_ (Aside0.out (by assumption))) | exact HB.out)) : Aside0 (w.heap.size ≤ gb) := ⟨by rw [hg]; exact below_size h⟩
theorem bv {w W w1 : World} (hw : w1 = W) (h : Below w.heap.size w W := by repeat (first | (with_reducible first | exact HB.out | apply pA | apply pN | apply pD | refine pS ?_ (Aside0.out (by assumption))) | exact HB.out)) : Aside0 (Below w.heap.size w w1) := ⟨by rw [hw]; exact h⟩
theorem bb {w0 W w2 : World} {g : Nat} {o : Obj} (h : Aside0 (w0.heap[g]? = some o)) (k : Below W.heap.size W w2) (e : W.heap[g]? = some o := by repeat (with_reducible first | exact Aside0.out (by assumption) | apply bN | apply bD | apply bA | refine bF ?_ (Aside0.out (by assumption)) _)) : Aside0 (w2.heap[g]? = some o) := ⟨blk_below e k⟩
theorem bw {w0 W w2 : World} {g : Nat} {o : Obj} (h : Aside0 (w0.heap[g]? = some o)) (hw : w2 = W) (e : W.heap[g]? = some o := by repeat (with_reducible first | exact Aside0.out (by assumption) | apply bN | apply bD | apply bA | refine bF ?_ (Aside0.out (by assumption)) _)) : Aside0 (w2.heap[g]? = some o) := ⟨by rw [hw]; exact e⟩
theorem bl {w0 W : World} {g gb : Nat} {o : Obj} (h : Aside0 (w0.heap[g]? = some o)) (hg : gb = W.heap.size) (e : W.heap[g]? = some o := by repeat (with_reducible first | exact Aside0.out (by assumption) | apply bN | apply bD | apply bA | refine bF ?_ (Aside0.out (by assumption)) _)) : Aside0 (g ≠ gb) := ⟨by rw [hg]; exact Nat.ne_of_lt (blk_lt e)⟩
theorem bg {w0 W : World} {g gb : Nat} {o : Obj} (h : Aside0 (w0.heap[g]? = some o)) (hg : gb = W.heap.size) (e : W.heap[g]? = some o := by repeat (with_reducible first | exact Aside0.out (by assumption) | apply bN | apply bD | apply bA | refine bF ?_ (Aside0.out (by assumption)) _)) : Aside0 (gb ≠ g) := ⟨by rw [hg]; exact Nat.ne_of_gt (blk_lt e)⟩
theorem bF2 {w : World} {g : Nat} {t : TypeId} {cs : Array Value} {p : Addr} {u : Value} (hp : Aside0 (g ≠ p.block)) (h : w.heap[g]? = some (.cells cs t (0, 0))) : (w.setCell p u).heap[g]? = some (.cells cs t (0, 0)) := blk_far h hp.out u
theorem bp {w0 W w2 : World} {g : Nat} {o o' : Obj} (h : Aside0 (w0.heap[g]? = some o)) (hw : w2 = W) (e : W.heap[g]? = some o' := by
    repeat (with_reducible first | exact Aside0.out (by assumption) | apply bN | apply bD | apply bA | apply bF2 (by assumption) | apply blk_put)
    all_goals rfl) : Aside0 (w2.heap[g]? = some o') := ⟨by rw [hw]; exact e⟩
theorem bk {w0 W : World} {g : Nat} {o o' : Obj} (h : Aside0 (w0.heap[g]? = some o)) (e : W.heap[g]? = some o' := by
    repeat (with_reducible first | exact Aside0.out (by assumption) | apply bN | apply bD | apply bA | apply bF2 (by assumption) | apply blk_put)
    all_goals rfl) : Aside0 (W.heap[g]? = some o') := ⟨e⟩
theorem fa {W : World} {p : Addr} {v : Value} {g b : Nat} (hw : W.cell? p = some v) (G : W.heap.size ≤ g) (e : b = p.block) : b ≠ g := by
  subst e; exact Nat.ne_of_lt (Nat.lt_of_lt_of_le (World.block_lt_of_cell? _ _ hw) G)
theorem gL {oi : Oper} {a : Act} {w : World} (N : Option Tmp) {f : FuncId} {fn : Func} {as : Array Operand} {ts : Array TypeId} (hf : P.funcs[f]? = some fn) (args : Array Value)
    (h : Calls P f args w fun e w' => ∃ v, e = .returned v ∧ wpList P ops Q rest (a.put N v) w') (hd : oi.dst = N := by exact rfl) (hg : oi.guard = none := by exact rfl) (hname : (fn.name == "runtime.NumGoroutine") = false := by kernel_rfl) (hb : fn.body.isSome = true := by exact rfl)
    (hop : oi.op = .call { callee := .value (.func f), args := as, argTypes := ts } := by exact rfl) (hargs : as.map a.eval = args := by (try simp only [List.map_toArray, List.map_cons, List.map_nil]); first | done | rfl | (simp only [List.length_drop, List.length_take]; rfl)) : wpList P ops Q (oi :: rest) a w :=
  goesL_ N hd hg hf hname hb args hop hargs h
end
end Go.Proofs.YtmomohljnmopfaaX
