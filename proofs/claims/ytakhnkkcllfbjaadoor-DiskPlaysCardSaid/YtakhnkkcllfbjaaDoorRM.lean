/- Several texts in one (merge.py): R5, R7, R8; no conditions beyond those in each theorem's head. -/
import Derived.Test.YtakhnkkcllfbjaaDoorR4
import Derived.Deep.QuietTactic
import Derived.BigQuiet
section
namespace Go.Proofs.YtakhnkkcllfbjaaDoorX
open Go.RowKit
set_option linter.unusedVariables false
set_option linter.unusedSimpArgs false
theorem place_find {x : Nm} {f : AF} : ∀ {L : List AF}, Rising L → findL x L = some f → L[placeL x L]? = some f
  | [], _, h => by cases h
  | g :: r, hr, h => by
    unfold findL at h
    unfold placeL
    split at h
    · rename_i hx
      cases h
      rw [if_neg (by rw [hx]; exact nm_irrefl x)]
      rfl
    · rename_i hx
      obtain ⟨h1, h2⟩ := findL_name h
      rw [if_pos (by rw [← h1]; exact rising_head hr f h2), List.getElem?_cons_succ]
      exact place_find (rising_tail hr) h
theorem find_place {x : Nm} {f : AF} {L : List AF} (hr : Rising L) (h : L[placeL x L]? = some f) (hx : f.name = x) : findL x L = some f := by
  have h9 := findL_mem hr (List.mem_of_getElem? h)
  rwa [hx] at h9
theorem place_none {x : Nm} {L : List AF} (h : findL x L = none) : ∀ f, L[placeL x L]? = some f → f.name ≠ x := fun f hf => findL_none.1 h f (List.mem_of_getElem? hf)
theorem ins_front {g : AF} {r : List AF} (h : ∀ q ∈ r, g.name < q.name) : insL g r = g :: r := by
  cases r with
  | nil => rfl
  | cons q r =>
    unfold insL
    rw [if_neg (fun h1 => nm_irrefl _ (nm_trans h1 (h q (by simp))))]
theorem ins_del {x : Nm} {f : AF} : ∀ {L : List AF}, Rising L → findL x L = some f → insL f (delL x L) = L
  | [], _, h => by cases h
  | g :: r, hr, h => by
    unfold findL at h
    unfold delL
    split at h
    · rename_i hx
      cases h
      rw [if_pos hx, delL_of_not (fun k hk e => (nm_ne (rising_head hr k hk)) (hx.trans e.symm)), ins_front (rising_head hr)]
    · rename_i hx
      obtain ⟨h1, h2⟩ := findL_name h
      rw [if_neg hx]
      unfold insL
      rw [if_pos (rising_head hr f h2), ins_del (rising_tail hr) h]
theorem putR_cons_lt {g f : AF} {r : List AF} (h : f.name < g.name) : putR g (f :: r) = f :: putR g r := by
  unfold putR
  have e : placeL g.name (f :: r) = placeL g.name r + 1 := by rw [placeL, if_pos h]
  rw [e, List.getElem?_cons_succ]
  cases r[placeL g.name r]? with
  | none => simp
  | some q =>
    simp only
    split <;> simp
theorem delL_ne {x : Nm} {f : AF} {r : List AF} (h : f.name ≠ x) : delL x (f :: r) = f :: delL x r := by rw [delL, if_neg h]
theorem putR_rising {g : AF} : ∀ {L : List AF}, Rising L → putR g L = insL g (delL g.name L)
  | [], _ => rfl
  | f :: r, hr => by
    by_cases h1 : f.name < g.name
    · rw [putR_cons_lt h1, putR_rising (rising_tail hr), delL_ne (nm_ne h1), insL, if_pos h1]
    · have e : placeL g.name (f :: r) = 0 := by rw [placeL, if_neg h1]
      unfold putR
      rw [e]
      show (if f.name = g.name then (f :: r).set 0 g else _) = _
      by_cases h2 : f.name = g.name
      · rw [if_pos h2]
        unfold delL
        rw [if_pos h2, delL_of_not (fun k hk e => (nm_ne (rising_head hr k hk)) (h2.trans e.symm)), ins_front (fun q hq => by rw [← h2]; exact rising_head hr q hq)]
        rfl
      · rw [if_neg h2]
        have h3 := nm_tri h1 h2
        rw [delL_of_not (fun k hk => by
          rcases List.mem_cons.1 hk with rfl | hk
          · exact h2
          · exact (nm_ne (nm_trans h3 (rising_head hr k hk))).symm), ins_front (fun q hq => by
          rcases List.mem_cons.1 hq with rfl | hq
          · exact h3
          · exact nm_trans h3 (rising_head hr q hq))]
        rfl
theorem delL_comm (x y : Nm) : ∀ L : List AF, delL x (delL y L) = delL y (delL x L)
  | [] => rfl
  | f :: r => by
    have ih := delL_comm x y r
    by_cases h1 : f.name = x
    · by_cases h2 : f.name = y
      · simp only [delL, if_pos h1, if_pos h2, ih]
      · simp only [delL, if_pos h1, if_neg h2, ih]
    · by_cases h2 : f.name = y
      · simp only [delL, if_neg h1, if_pos h2, ih]
      · simp only [delL, if_neg h1, if_neg h2, ih]
theorem ren_is {D : AD} (hr : Rising D.L) {x y : Nm} {f : AF} (hf : findL x D.L = some f) : putR { f with name := y } (delL x D.L) = D.renL x y := by
  unfold AD.renL
  by_cases h : x = y
  · subst h
    rw [if_pos rfl]
    have e : ({ f with name := x } : AF) = f := by
      have h1 := (findL_name hf).1
      cases f; simp only at h1; subst h1; rfl
    rw [e, putR_new (fun q hq => by rw [(findL_name hf).1]; exact (mem_delL.1 hq).2), ins_del hr hf]
  · rw [if_neg h, hf]
    show _ = insL { f with name := y } (delL x (delL y D.L))
    rw [putR_rising (delL_rising hr), delL_comm]
theorem set_upd {x : Nm} {f : AF} {g : AF → AF} : ∀ {L : List AF}, Rising L → findL x L = some f → L.set (placeL x L) (g f) = updL x g L
  | [], _, h => by cases h
  | q :: r, hr, h => by
    unfold findL at h
    unfold placeL updL
    split at h
    · rename_i hx
      cases h
      have h2 : ∀ {M : List AF}, (∀ q ∈ M, q.name ≠ x) → updL x g M = M := by
        intro M
        induction M with
        | nil => intro _; rfl
        | cons q M ih => intro hq; unfold updL; rw [if_neg (hq q (by simp)), ih (fun z hz => hq z (by simp [hz]))]
      rw [if_neg (by rw [hx]; exact nm_irrefl x), if_pos hx, List.set_cons_zero, h2 (fun k hk e => (nm_ne (rising_head hr k hk)) (hx.trans e.symm))]
    · rename_i hx
      obtain ⟨h1, h2⟩ := findL_name h
      rw [if_pos (by rw [← h1]; exact rising_head hr f h2), if_neg hx, List.set_cons_succ, set_upd (rising_tail hr) h]
theorem putR_upd {x : Nm} {f f' : AF} {g : AF → AF} {L : List AF} (hr : Rising L) (hf : findL x L = some f) (hg : g f = f') (hn : f'.name = x) : putR f' L = updL x g L := by
  unfold putR
  rw [hn, place_find hr hf]
  show (if f.name = x then _ else _) = _
  rw [if_pos (findL_name hf).1, ← hg, set_upd hr hf]
/-- The error of a name that must be a file's. -/
def AD.knownE (D : AD) (x : Nm) : Int := if named x = false then 40 else if (findL x D.L).isNone = true then 41 else 0
theorem findE_known (D : AD) (x : Nm) : D.findE x = if D.down = true then 3 else D.knownE x := rfl
theorem knownE_cases (D : AD) (x : Nm) : D.knownE x = 40 ∨ D.knownE x = 41 ∨ (D.knownE x = 0 ∧ ∃ f, findL x D.L = some f) := by
  unfold AD.knownE
  split
  · exact .inl rfl
  · split
    · exact .inr (.inl rfl)
    · rename_i h
      refine .inr (.inr ⟨rfl, ?_⟩)
      cases hf : findL x D.L with
      | none => rw [hf] at h; exact absurd rfl h
      | some f => exact ⟨f, rfl⟩
/-- A step, its own error told. -/
def AD.stepO (D : AD) (own : Int) : AD × Int := if D.down = true then (D, 3) else if own ≠ 0 then (D, own) else if D.armed = 0 then (D.fall, 3) else (D.tick, 0)
theorem stepO_L (D : AD) (own : Int) : (D.stepO own).1.L = D.L := by
  unfold AD.stepO
  repeat' split
  all_goals rfl
def AD.thenL (p : AD × Int) (L : List AF) : AD × Int := if p.2 = 0 then ({ p.1 with L := L }, 0) else p
theorem sync_is (D : AD) (x : Nm) : D.sync x = AD.thenL (D.stepO (D.knownE x)) (updL x safeF D.L) := by
  unfold AD.sync AD.thenL AD.stepO
  rw [findE_known]
  by_cases h1 : D.down = true
  · simp [h1]
  · by_cases h2 : D.knownE x = 0
    · by_cases h3 : D.armed = 0
      · simp [h1, h2, h3]
      · simp [h1, h2, h3]
    · simp [h1, h2]
theorem remove_is (D : AD) (x : Nm) : D.remove x = AD.thenL (D.stepO (D.knownE x)) (delL x D.L) := by
  unfold AD.remove AD.thenL AD.stepO
  rw [findE_known]
  by_cases h1 : D.down = true
  · simp [h1]
  · by_cases h2 : D.knownE x = 0
    · by_cases h3 : D.armed = 0
      · simp [h1, h2, h3]
      · simp [h1, h2, h3]
    · simp [h1, h2]
def AD.renO (D : AD) (x y : Nm) : Int := if named y = false then 40 else D.knownE x
theorem rename_is (D : AD) (x y : Nm) : D.rename x y = AD.thenL (D.stepO (D.renO x y)) (D.renL x y) := by
  unfold AD.rename AD.thenL AD.stepO AD.renE AD.renO
  rw [findE_known]
  by_cases h1 : D.down = true
  · simp [h1]
  · by_cases h4 : named y = false
    · have h5 : ¬ D.knownE x = 3 := by rcases knownE_cases D x with h | h | ⟨h, _⟩ <;> rw [h] <;> decide
      simp [h1, h4, h5]
    · by_cases h2 : D.knownE x = 0
      · by_cases h3 : D.armed = 0
        · simp [h1, h2, h3, h4]
        · simp [h1, h2, h3, h4]
      · simp [h1, h2, h4]
def AD.appO (D : AD) (x : Nm) (s : ByteArray) : Int := if named x = false then 40 else if D.free < (s.size : Int) ∨ (findL x D.L = none ∧ D.L.length = 64) then 42 else 0
theorem append_is (D : AD) (x : Nm) (s : ByteArray) : D.append x s = AD.thenL (D.stepO (D.appO x s)) (D.putL x s) := by
  unfold AD.append AD.thenL AD.stepO AD.appO
  rw [findE_known]
  by_cases h1 : D.down = true
  · simp [h1]
  · unfold AD.knownE
    by_cases h4 : named x = false
    · simp [h1, h4]
    · by_cases h5 : (findL x D.L).isNone = true
      · by_cases h6 : D.free < (s.size : Int) ∨ (findL x D.L = none ∧ D.L.length = 64)
        · simp [h1, h4, h5, h6]
        · by_cases h3 : D.armed = 0
          · simp [h1, h4, h5, h6, h3]
          · simp [h1, h4, h5, h6, h3]
      · by_cases h6 : D.free < (s.size : Int) ∨ (findL x D.L = none ∧ D.L.length = 64)
        · simp [h1, h4, h5, h6]
        · by_cases h3 : D.armed = 0
          · simp [h1, h4, h5, h6, h3]
          · simp [h1, h4, h5, h6, h3]
theorem read_is (D : AD) (x : Nm) : D.read x = if D.down = true then (⟨#[]⟩, 3) else if D.knownE x ≠ 0 then (⟨#[]⟩, D.knownE x) else match findL x D.L with
  | none => (⟨#[]⟩, 0)
  | some f => (f.data, 0) := by
  unfold AD.read
  rw [findE_known]
  by_cases h1 : D.down = true
  · simp [h1]
  · cases findL x D.L <;> simp [h1]
theorem totL_take_lt {L : List AF} {i : Nat} {f : AF} (h : L[i]? = some f) : totL (L.take (i + 1)) = totL (L.take i) + f.data.size := by
  rw [List.take_add_one, h]
  rw [totL_app]
  rfl
theorem totL_take_le (L : List AF) (i : Nat) : totL (L.take i) ≤ totL L := by
  have h := totL_app (L.take i) (L.drop i)
  rw [List.take_append_drop] at h
  omega
theorem delL_take {x : Nm} {L : List AF} {i : Nat} {f : AF} (h : L[i]? = some f) : delL x (L.take (i + 1)) = if f.name = x then delL x (L.take i) else delL x (L.take i) ++ [f] := by
  have e : ∀ (A : List AF) (g : AF), delL x (A ++ [g]) = if g.name = x then delL x A else delL x A ++ [g] := by
    intro A g
    induction A with
    | nil => show (if g.name = x then _ else _) = _; rfl
    | cons q A ih =>
      rw [List.cons_append]
      unfold delL
      by_cases h1 : q.name = x
      · rw [if_pos h1, if_pos h1, ih]
      · rw [if_neg h1, if_neg h1, ih]
        by_cases h2 : g.name = x
        · rw [if_pos h2, if_pos h2]
        · rw [if_neg h2, if_neg h2]; rfl
  rw [List.take_add_one, h]
  exact e _ _
end Go.Proofs.YtakhnkkcllfbjaaDoorX
end
section
namespace Go.Proofs.YtakhnkkcllfbjaaDoorX
open Go.RowKit Go.Proofs.YtakhnkkcllfbjaaDoorW.PrintWords Go.Proofs.YtakhnkkcllfbjaaDoorW.PrintLast Go.Proofs.YtakhnkkcllfbjaaDoorW.PrintMore
open Go.Proofs.YtakhnkkcllfbjaaDoor.PA (S37 k37 z37 k37_open k37_openM k37_mk k37_mkM rd_T37 at_T37)
set_option linter.unusedVariables false
set_option linter.unusedSimpArgs false
theorem RefAt.turn {w w' : World} {r : Nat} {v : Value} {D D' : AD} (h : RefAt w r v D) (hh : w'.heap[r]? = some (.cells #[.int .i64 D'.size, v, .int .i64 D'.armed, .bool D'.down, .int .i64 D'.steps] 79 (0, 0))) (hf : Fr [r] w w') (hL : D'.L = D.L) : RefAt w' r v D' :=
  ⟨hh, by rw [hL]; exact h.row.step (fun k hk => hf.block k (h.row.lt k hk) (by simp only [List.mem_singleton]; exact fun e => h.apart (e ▸ hk)))⟩
theorem placeN {w : World} {r : Nat} {v : Value} {D : AD} (h : RefAt w r v D) (x : Nm) : Calls Tryd.prog 54 #[.pointer (some ⟨r, 0, none⟩), .string ⟨x.toArray⟩] w fun e w' => e = .returned (.int .i64 (placeL x D.L)) ∧ Below w.heap.size w w' := place_calls h ⟨x.toArray⟩
theorem rnameN (x : Nm) (hx : x.length ≤ maxLen) (w : World) : Calls Tryd.prog 34 #[.string ⟨x.toArray⟩] w fun e w' => e = .returned (.bool (named x)) ∧ Below w.heap.size w w' := rname_calls ⟨x.toArray⟩ hx w
set_option maxRecDepth 100000 in
theorem there_calls {w : World} {r : Nat} {v : Value} {D : AD} (h : RefAt w r v D) (hr : Rising D.L) (x : Nm) :
    Calls Tryd.prog 55 #[.pointer (some ⟨r, 0, none⟩), .string ⟨x.toArray⟩] w fun e w' => e = .returned (.bool (findL x D.L).isSome) ∧ Below w.heap.size w w' := by
  have H := Aside0.mk h
  have cP := placeN h x
  obtain ⟨A, c, rfl, hc, hL⟩ := ref_shape h
  have HR := Aside0.mk hr
  obtain ⟨i, hi⟩ : ∃ i, placeL x D.L = i := ⟨_, rfl⟩
  have HI := Aside0.mk hi
  rw [hi] at cP
  clear h hc hL hr hi
  by_cases hil : i < D.L.length
  · have e1 : decide ((i : Int) < (D.L.length : Int)) = true := decide_eq_true (by omega)
    have e1' : decide (i < D.L.length) = true := decide_eq_true hil
    obtain ⟨f, hf⟩ : ∃ f, D.L[i]? = some f := ⟨_, List.getElem?_eq_getElem hil⟩
    by_cases hn : f.name = x
    · have e2 : (f.name == x) = true := by rw [beq_iff_eq]; exact hn
      have e2' : (x == x) = true := by simp
      have HE : Aside0 ((findL x D.L).isSome = true) := ⟨by rw [find_place HR.out (by rw [HI.out]; exact hf) hn]; rfl⟩
      have HF := Aside0.mk hf
      clear hf
      go_enter Tryd.func55, Tryd.ntmps55
      go_upto_region 2 with (go_at_call 54; refine cP.mono ?_; rintro e w1 ⟨rfl, hb1⟩; have B1 := Aside0.mk hb1; clear hb1 cP)
      have R1 := Aside0.mk (H.out.below B1.out)
      obtain ⟨-, c1, -⟩ := ref_cells R1.out.head
      obtain ⟨g, cc, hv, q0, q1, q2⟩ := ref_at R1.out HF.out
      cases hv
      go_wp2
      go_ret
      exact ⟨by rw [HE.out]; rfl, B1.out⟩
    · have e2 : (f.name == x) = false := by rw [beq_eq_false_iff_ne]; exact hn
      have HE : Aside0 ((findL x D.L).isSome = false) := ⟨by
        cases hq : findL x D.L with
        | none => rfl
        | some q =>
          have h9 := place_find HR.out hq
          rw [HI.out, hf] at h9
          obtain rfl := Option.some.inj h9
          exact absurd (findL_name hq).1 hn⟩
      have HF := Aside0.mk hf
      clear hf hn
      go_enter Tryd.func55, Tryd.ntmps55
      go_upto_region 2 with (go_at_call 54; refine cP.mono ?_; rintro e w1 ⟨rfl, hb1⟩; have B1 := Aside0.mk hb1; clear hb1 cP)
      have R1 := Aside0.mk (H.out.below B1.out)
      obtain ⟨-, c1, -⟩ := ref_cells R1.out.head
      obtain ⟨g, cc, hv, q0, q1, q2⟩ := ref_at R1.out HF.out
      cases hv
      go_wp2
      go_ret
      exact ⟨by rw [HE.out]; rfl, B1.out⟩
  · have e1 : decide ((i : Int) < (D.L.length : Int)) = false := decide_eq_false (by omega)
    have e1' : decide (i < D.L.length) = false := decide_eq_false hil
    have HE : Aside0 ((findL x D.L).isSome = false) := ⟨by
      cases hq : findL x D.L with
      | none => rfl
      | some q =>
        have h9 := place_find HR.out hq
        rw [HI.out] at h9
        exact absurd (List.getElem?_eq_some_iff.1 h9).1 hil⟩
    clear hil
    go_enter Tryd.func55, Tryd.ntmps55
    go_upto_region 2 with (go_at_call 54; refine cP.mono ?_; rintro e w1 ⟨rfl, hb1⟩; have B1 := Aside0.mk hb1; clear hb1 cP)
    have R1 := Aside0.mk (H.out.below B1.out)
    obtain ⟨-, c1, -⟩ := ref_cells R1.out.head
    go_wp2
    go_ret
    exact ⟨by rw [HE.out]; rfl, B1.out⟩
theorem rfree_calls {w : World} {r : Nat} {v : Value} {D : AD} (h : RefAt w r v D) (hok : D.Ok) :
    Calls Tryd.prog 45 #[.pointer (some ⟨r, 0, none⟩)] w fun e w' => e = .returned (.int .i64 D.free) ∧ Below w.heap.size w w' := by
  have H := Aside0.mk h
  obtain ⟨A, c, rfl, hc, hL⟩ := ref_shape h
  have OK := Aside0.mk hok
  obtain ⟨c0, c1, -⟩ := ref_cells h.head
  clear h hc hL hok
  go_enter Tryd.func45, Tryd.ntmps45
  go_wp2
  go_loopg [3, 4] D.L.length (fun kq v3 v4 wr => ∃ i : Nat, v3 = .int .i64 (D.size - totL (D.L.take i)) ∧ v4 = .int .i64 i ∧ Aside0 (i + kq = D.L.length) ∧ wr = w)
  case atStart => exact ⟨0, by rw [List.take_zero]; show Value.int .i64 D.size = .int .i64 (D.size - ((0 : Nat) : Int)); rw [Int.natCast_zero, Int.sub_zero], rfl, ⟨by omega⟩, rfl⟩
  case round =>
    obtain ⟨i, rfl, rfl, h1, rfl⟩ := hrel
    by_cases hi : i < D.L.length
    · have e1 : decide ((i : Int) < (D.L.length : Int)) = true := decide_eq_true (by omega)
      have e1' : decide (i < D.L.length) = true := decide_eq_true hi
      have e2 : (i : Int) < (D.L.length : Int) := by omega
      have e5 : IntKind.i64.wrap ((i : Int) + 1) = ((i + 1 : Nat) : Int) := by have := OK.out.many; rw [i64_w]; unfold wrap64; omega
      obtain ⟨f, hf⟩ : ∃ f, D.L[i]? = some f := ⟨_, List.getElem?_eq_getElem hi⟩
      obtain ⟨g, cc, hv, q0, q1, q2⟩ := ref_at H.out hf
      cases hv
      have e6 : IntKind.i64.wrap (D.size - (totL (D.L.take i) : Int) - (f.data.size : Int)) = D.size - (totL (D.L.take (i + 1)) : Int) := by
        have a1 := totL_take_lt hf
        have a2 := totL_take_le D.L (i + 1)
        have a3 := OK.out.used
        have a4 := OK.out.size0
        have a5 := OK.out.size1
        unfold AD.used at a3
        rw [i64_w]
        unfold wrap64
        omega
      have HI := Aside0.mk hi
      clear hf
      go_wp2
      go_roundg (D.L.length - (i + 1))
      case measure => have := HI.out; have := h1.out; omega
      case rel => exact ⟨i + 1, rfl, by simp, ⟨by have := HI.out; have := h1.out; omega⟩, rfl⟩
    · have e1 : decide ((i : Int) < (D.L.length : Int)) = false := decide_eq_false (by omega)
      have e1' : decide (i < D.L.length) = false := decide_eq_false hi
      have HE : Aside0 (D.size - (totL (D.L.take i) : Int) = D.free) := ⟨by rw [List.take_of_length_le (by omega)]; rfl⟩
      clear hi
      go_wp2
      go_ret
      exact ⟨by rw [HE.out]; rfl, Below.refl _ _⟩
/-- A step of the reference's, its own error told. -/
theorem rstep_calls {w : World} {r : Nat} {v : Value} {D : AD} (h : RefAt w r v D) (hok : D.Ok) (own : Int) :
    Calls Tryd.prog 56 #[.pointer (some ⟨r, 0, none⟩), .int .i64 own] w fun e w' => e = .returned (.int .i64 (D.stepO own).2) ∧ RefAt w' r v (D.stepO own).1 ∧ Fr [r] w w' := by
  have H := Aside0.mk h
  obtain ⟨c0, c1, c2, c3, c4⟩ := ref_cells h.head
  have f2 := blk_frozen h.head 2
  have f3 := blk_frozen h.head 3
  have f4 := blk_frozen h.head 4
  have OK := Aside0.mk hok
  clear h hok c0 c1
  by_cases h1 : D.down = true
  · have E : Aside0 (D.stepO own = (D, 3)) := ⟨if_pos h1⟩
    rw [h1] at c3
    clear h1
    go_enter Tryd.func56, Tryd.ntmps56
    go_wp2
    go_ret
    rw [E.out]
    exact ⟨rfl, H.out, Fr.refl _ _⟩
  · have h1' : D.down = false := by simpa using h1
    rw [h1'] at c3
    by_cases h2 : own = 0
    · have e2 : (own != 0) = false := by rw [h2]; rfl
      by_cases h3 : D.armed = 0
      · have E : Aside0 (D.stepO own = (D.fall, 3)) := ⟨(if_neg h1).trans ((if_neg (fun h => h h2)).trans (if_pos h3))⟩
        have e3 : (D.armed == 0) = true := by rw [h3]; rfl
        subst h2
        clear h1 h1' h3
        go_enter Tryd.func56, Tryd.ntmps56
        go_wp2
        go_ret
        rw [E.out]
        exact ⟨rfl, H.out.turn (D' := D.fall) (blk_put H.out.head 3 _ rfl) ((Fr.refl _ _).setCell (.inl (by simp)) _) rfl, (Fr.refl _ _).setCell (.inl (by simp)) _⟩
      · have E : Aside0 (D.stepO own = (D.tick, 0)) := ⟨(if_neg h1).trans ((if_neg (fun h => h h2)).trans (if_neg h3))⟩
        have e3 : (D.armed == 0) = false := by rw [beq_eq_false_iff_ne]; exact h3
        subst h2
        have W' : Aside0 (wrap64 (D.steps + 1) = IntKind.i64.wrap (D.steps + 1)) := ⟨(i64_w _).symm⟩
        by_cases hp : 0 < D.armed
        · have e4 : decide (0 < D.armed) = true := decide_eq_true hp
          have HP := Aside0.mk hp
          have e5 : IntKind.i64.wrap (D.armed - 1) = D.armed - 1 := by have := OK.out.armed1; rw [i64_w]; unfold wrap64; omega
          clear hp h1 h1' h3
          go_enter Tryd.func56, Tryd.ntmps56
          go_wp2
          go_ret
          rw [E.out]
          refine ⟨rfl, H.out.turn (D' := D.tick) (blk_put (blk_put H.out.head 2 _ rfl) 4 _ ?_) (((Fr.refl _ _).setCell (.inl (by simp)) _).setCell (.inl (by simp)) _) rfl, ((Fr.refl _ _).setCell (.inl (by simp)) _).setCell (.inl (by simp)) _⟩
          simp only [AD.tick, if_pos HP.out, W'.out]
          rfl
        · have e4 : decide (0 < D.armed) = false := decide_eq_false hp
          have HP : Aside0 (¬ 0 < D.armed) := ⟨hp⟩
          clear hp h1 h1' h3
          go_enter Tryd.func56, Tryd.ntmps56
          go_wp2
          go_ret
          rw [E.out]
          refine ⟨rfl, H.out.turn (D' := D.tick) (blk_put H.out.head 4 _ ?_) ((Fr.refl _ _).setCell (.inl (by simp)) _) rfl, (Fr.refl _ _).setCell (.inl (by simp)) _⟩
          simp only [AD.tick, if_neg (show ¬ 0 < D.armed by have := HP.out; omega), W'.out]
          rfl
    · have E : Aside0 (D.stepO own = (D, own)) := ⟨(if_neg h1).trans (if_pos h2)⟩
      have e2 : (own != 0) = true := by rw [bne, beq_eq_false_iff_ne.2 h2]; rfl
      clear h1 h1' h2
      go_enter Tryd.func56, Tryd.ntmps56
      go_wp2
      go_ret
      rw [E.out]
      exact ⟨rfl, H.out, Fr.refl _ _⟩
theorem known_calls {w : World} {r : Nat} {v : Value} {D : AD} (h : RefAt w r v D) (hr : Rising D.L) (x : Nm) (hx : x.length ≤ maxLen) :
    Calls Tryd.prog 57 #[.pointer (some ⟨r, 0, none⟩), .string ⟨x.toArray⟩] w fun e w' => e = .returned (.int .i64 (D.knownE x)) ∧ Below w.heap.size w w' := by
  have cN := rnameN x hx w
  have cT : Aside0 (∀ w1, Below w.heap.size w w1 → Calls Tryd.prog 55 #[.pointer (some ⟨r, 0, none⟩), .string ⟨x.toArray⟩] w1 fun e w' => e = .returned (.bool (findL x D.L).isSome) ∧ Below w1.heap.size w1 w') := ⟨fun w1 hb => there_calls (h.below hb) hr x⟩
  clear h hr hx
  cases hn : named x with
  | false =>
    have E : Aside0 (D.knownE x = 40) := ⟨if_pos hn⟩
    rw [hn] at cN
    clear hn
    go_enter Tryd.func57, Tryd.ntmps57
    go_wp2_with (go_at_call 34; refine cN.mono ?_; rintro e w1 ⟨rfl, hb1⟩; have B1 := Aside0.mk hb1; clear hb1 cN)
    go_ret
    exact ⟨by rw [E.out]; rfl, B1.out⟩
  | true =>
    rw [hn] at cN
    cases hf : findL x D.L with
    | none =>
      have E : Aside0 (D.knownE x = 41) := ⟨by unfold AD.knownE; rw [hn, hf]; rfl⟩
      rw [hf] at cT
      clear hn hf
      go_enter Tryd.func57, Tryd.ntmps57
      go_wp2_with (first
        | (go_at_call 34; refine cN.mono ?_; rintro e w1 ⟨rfl, hb1⟩; have B1 := Aside0.mk hb1; clear hb1 cN)
        | (go_at_call 55; refine (cT.out _ B1.out).mono ?_; rintro e w2 ⟨rfl, hb2⟩; have B2 := Aside0.mk (B1.out.trans (hb2.mono B1.out.size)); clear hb2 cT))
      go_ret
      exact ⟨by rw [E.out]; rfl, B2.out⟩
    | some q =>
      have E : Aside0 (D.knownE x = 0) := ⟨by unfold AD.knownE; rw [hn, hf]; rfl⟩
      rw [hf] at cT
      clear hn hf
      go_enter Tryd.func57, Tryd.ntmps57
      go_wp2_with (first
        | (go_at_call 34; refine cN.mono ?_; rintro e w1 ⟨rfl, hb1⟩; have B1 := Aside0.mk hb1; clear hb1 cN)
        | (go_at_call 55; refine (cT.out _ B1.out).mono ?_; rintro e w2 ⟨rfl, hb2⟩; have B2 := Aside0.mk (B1.out.trans (hb2.mono B1.out.size)); clear hb2 cT))
      go_ret
      exact ⟨by rw [E.out]; rfl, B2.out⟩
theorem RDid.head {w w' : World} {r : Nat} {v : Value} {D : AD} (h : RefAt w' r v D) (hf : Fr [r] w w') : RDid w w' r v D := ⟨v, h, hf.mono (fun x hx => by simp at hx; simp [hx]), fun k hk => .inl hk⟩
theorem rarm_calls {w : World} {r : Nat} {v : Value} {D : AD} (h : RefAt w r v D) (n : Int) :
    Calls Tryd.prog 42 #[.pointer (some ⟨r, 0, none⟩), .int .i64 n] w fun e w' => e = .returned (.int .i64 (D.arm n).2) ∧ RDid w w' r v (D.arm n).1 := by
  have H := Aside0.mk h
  obtain ⟨c0, c1, c2, c3, c4⟩ := ref_cells h.head
  have f2 := blk_frozen h.head 2
  clear h c0 c1 c4
  by_cases h1 : n < -1
  · have e1 : decide (n < -1) = true := decide_eq_true h1
    have E : Aside0 (D.arm n = (D, 1)) := ⟨if_pos h1⟩
    clear h1
    go_enter Tryd.func42, Tryd.ntmps42
    go_wp2
    go_ret
    rw [E.out]
    exact ⟨rfl, RDid.head H.out (Fr.refl _ _)⟩
  · have e1 : decide (n < -1) = false := decide_eq_false h1
    by_cases h2 : D.down = true
    · have E : Aside0 (D.arm n = (D, 3)) := ⟨(if_neg h1).trans (if_pos h2)⟩
      rw [h2] at c3
      clear h1 h2
      go_enter Tryd.func42, Tryd.ntmps42
      go_wp2
      go_ret
      rw [E.out]
      exact ⟨rfl, RDid.head H.out (Fr.refl _ _)⟩
    · have E : Aside0 (D.arm n = ({ D with armed := n }, 0)) := ⟨(if_neg h1).trans (if_neg h2)⟩
      have h3 : D.down = false := by simpa using h2
      rw [h3] at c3
      clear h1 h2 h3
      go_enter Tryd.func42, Tryd.ntmps42
      go_wp2
      go_ret
      rw [E.out]
      exact ⟨rfl, RDid.head (H.out.turn (D' := { D with armed := n }) (blk_put H.out.head 2 _ rfl) ((Fr.refl _ _).setCell (.inl (by simp)) _) rfl) ((Fr.refl _ _).setCell (.inl (by simp)) _)⟩
end Go.Proofs.YtakhnkkcllfbjaaDoorX
end
section
namespace Go.Proofs.YtakhnkkcllfbjaaDoorX
open Go.RowKit Go.Proofs.YtakhnkkcllfbjaaDoorW.PrintWords Go.Proofs.YtakhnkkcllfbjaaDoorW.PrintLast Go.Proofs.YtakhnkkcllfbjaaDoorW.PrintMore
open Go.Proofs.YtakhnkkcllfbjaaDoor.PA (S37 k37 z37 k37_open k37_openM k37_mk k37_mkM rd_T37 at_T37)
set_option linter.unusedVariables false
set_option linter.unusedSimpArgs false
set_option maxRecDepth 100000 in
theorem place_still {w : World} {r : Nat} {v : Value} {D : AD} (h : RefAt w r v D) (s : ByteArray) : Calls Tryd.prog 54 #[.pointer (some ⟨r, 0, none⟩), .string s] w fun e w' => e = .returned (.int .i64 (placeL s.data.toList D.L)) ∧ w' = w := by
  have H := Aside0.mk h
  obtain ⟨A, c, rfl, hc, hL⟩ := ref_shape h
  have HL := Aside0.mk hL
  clear h hc hL
  go_enter Tryd.func54, Tryd.ntmps54
  go_wp2
  go_loopg [5] D.L.length (fun kq v5 wr => ∃ i : Nat, v5 = .int .i64 i ∧ Aside0 (i + kq = D.L.length) ∧ Aside0 (i ≤ placeL s.data.toList D.L) ∧ wr = w)
  case atStart => exact ⟨0, rfl, ⟨by omega⟩, ⟨Nat.zero_le _⟩, rfl⟩
  case round =>
    obtain ⟨i, rfl, h1, h2, rfl⟩ := hrel
    obtain ⟨-, c1, -⟩ := ref_cells H.out.head
    by_cases hi : i < D.L.length
    · have e1 : decide ((i : Int) < (D.L.length : Int)) = true := decide_eq_true (by omega)
      have e1' : decide (i < D.L.length) = true := decide_eq_true hi
      have e5 : IntKind.i64.wrap ((i : Int) + 1) = ((i + 1 : Nat) : Int) := by have := HL.out; rw [i64_w]; unfold wrap64; omega
      obtain ⟨f, hf⟩ : ∃ f, D.L[i]? = some f := ⟨_, List.getElem?_eq_getElem hi⟩
      obtain ⟨g, cc, hv, q0, q1, q2⟩ := ref_at H.out hf
      cases hv
      have HI := Aside0.mk hi
      have HF := Aside0.mk hf
      have hlt := less_is f.name s
      clear hf
      by_cases hb : f.name < s.data.toList
      · rw [decide_eq_true hb] at hlt
        have HB := Aside0.mk hb
        clear hb
        go_wp2
        go_roundg (D.L.length - (i + 1))
        case measure => have := HI.out; have := h1.out; omega
        case rel =>
          refine ⟨i + 1, by simp, ⟨by have := HI.out; have := h1.out; omega⟩, ⟨?_⟩, rfl⟩
          have hne : i ≠ placeL s.data.toList D.L := fun e => placeL_at (x := s.data.toList) (L := D.L) (f := f) (by rw [← e]; exact HF.out) HB.out
          have := h2.out
          omega
      · rw [decide_eq_false hb] at hlt
        have HB : Aside0 (placeL s.data.toList D.L = i) := ⟨by
          rcases Nat.lt_or_ge i (placeL s.data.toList D.L) with h9 | h9
          · exact absurd (placeL_lt HF.out h9) hb
          · have := h2.out; omega⟩
        clear hb
        go_wp2
        go_ret
        exact ⟨by rw [HB.out]; rfl, rfl⟩
    · have e1 : decide ((i : Int) < (D.L.length : Int)) = false := decide_eq_false (by omega)
      have e1' : decide (i < D.L.length) = false := decide_eq_false hi
      have HB : Aside0 (placeL s.data.toList D.L = i) := ⟨by have := h2.out; have := placeL_le s.data.toList D.L; omega⟩
      clear hi
      go_wp2
      go_ret
      exact ⟨by rw [HB.out]; rfl, rfl⟩
theorem placeS {w : World} {r : Nat} {v : Value} {D : AD} (h : RefAt w r v D) (x : Nm) : Calls Tryd.prog 54 #[.pointer (some ⟨r, 0, none⟩), .string ⟨x.toArray⟩] w fun e w' => e = .returned (.int .i64 (placeL x D.L)) ∧ w' = w := place_still h ⟨x.toArray⟩
set_option maxRecDepth 100000 in
theorem takes_calls {w : World} {r : Nat} {v : Value} {D : AD} (h : RefAt w r v D) (hm : D.L.length ≤ 64) (x : Nm) :
    Calls Tryd.prog 58 #[.pointer (some ⟨r, 0, none⟩), .string ⟨x.toArray⟩] w fun e w' => e = .returned (.tuple #[]) ∧ RDid w w' r v { D with L := delL x D.L } := by
  have hu := Tryd.underlying37
  have H := Aside0.mk h
  obtain ⟨A, c, rfl, hc, hL⟩ := ref_shape h
  have HL := Aside0.mk hm
  clear h hc hL hm
  go_enter Tryd.func58, Tryd.ntmps58
  go_wp2
  go_loopg [4, 5] D.L.length (fun kq v4 v5 wr => ∃ (i : Nat) (u : Value), v4 = u ∧ v5 = .int .i64 i ∧ Aside0 (i + kq = D.L.length) ∧ Aside0 (Kd.R k37 37 wr w.heap.size (fun _ => True) u (filesT (delL x (D.L.take i)))) ∧ Aside0 (Below w.heap.size w wr))
  case atStart => exact ⟨0, _, rfl, rfl, ⟨by omega⟩, ⟨R_nil0⟩, ⟨Below.refl _ _⟩⟩
  case round =>
    obtain ⟨i, u4, rfl, rfl, h1, h2, h3⟩ := hrel
    have H3 := Aside0.mk (H.out.below h3.out)
    obtain ⟨-, c1, -⟩ := ref_cells H3.out.head
    by_cases hi : i < D.L.length
    · have e1 : decide ((i : Int) < (D.L.length : Int)) = true := decide_eq_true (by omega)
      have e1' : decide (i < D.L.length) = true := decide_eq_true hi
      have e2 : (i : Int) < (D.L.length : Int) := by omega
      have e5 : IntKind.i64.wrap ((i : Int) + 1) = ((i + 1 : Nat) : Int) := by have := HL.out; rw [i64_w]; unfold wrap64; omega
      obtain ⟨f, hf⟩ : ∃ f, D.L[i]? = some f := ⟨_, List.getElem?_eq_getElem hi⟩
      obtain ⟨g, cc, hv, q0, q1, q2⟩ := ref_at H3.out hf
      cases hv
      have NX := Aside0.mk (delL_take (x := x) hf)
      have HI := Aside0.mk hi
      clear hf
      by_cases hn : f.name = x
      · have HN := Aside0.mk hn
        have e3 : (f.name != x) = false := by rw [bne, beq_iff_eq.2 hn]; rfl
        have e3' : (f.name == x) = true := beq_iff_eq.2 hn
        clear hn
        go_wp2
        go_roundg (D.L.length - (i + 1))
        case measure => have := HI.out; have := h1.out; omega
        case rel => exact ⟨i + 1, _, rfl, by simp, ⟨by have := HI.out; have := h1.out; omega⟩, ⟨by rw [NX.out, if_pos HN.out]; exact h2.out⟩, h3⟩
      · have HN := Aside0.mk hn
        have e3 : (f.name != x) = true := by rw [bne, beq_eq_false_iff_ne.2 hn]; rfl
        have e3' : (f.name == x) = false := beq_eq_false_iff_ne.2 hn
        have aL : Aside0 (((filesT (delL x (D.L.take i))).length + 1) * 40 ≤ 140737488355328) := ⟨by
          have h8 := (delL_sub x (D.L.take i)).length_le
          have h7 := HL.out
          simp only [filesT, List.length_map, List.length_take] at *
          omega⟩
        clear hn
        go_upto_region 3 with (((with_reducible refine gate_dst (N := 34) rfl ?_); refine Kd.R_append k37 (w0 := w) w.heap.size rfl (.tmp 25) (.tmp 33) 32 37 _ 40 rfl Tryd.underlying32 info37r rfl (by decide) (by decide) _ (filesT (delL x (D.L.take i))) (fileT f) [.string ⟨f.name.toArray⟩, .string f.data, .int .i64 f.safe] (fun _ => True) (fun _ => False) rfl rfl (k37_mkM _ _ _ (fileT f)) (fun _ hk => hk.elim) (fun _ _ => trivial) h2.out h3.out h3.out.size aL.out ?_; intro v1 w3 hR1 hB1 hg1 hat1; have RR := Aside0.mk hR1; have BB := Aside0.mk hB1; clear hR1 hB1 hg1 hat1))
        go_wp2
        go_roundg (D.L.length - (i + 1))
        case measure => have := HI.out; have := h1.out; omega
        case rel => exact ⟨i + 1, _, rfl, by simp, ⟨by have := HI.out; have := h1.out; omega⟩, ⟨by rw [NX.out, if_neg HN.out]; simp only [filesT, List.map_append]; exact RR.out⟩, BB⟩
    · have e1 : decide ((i : Int) < (D.L.length : Int)) = false := decide_eq_false (by omega)
      have e1' : decide (i < D.L.length) = false := decide_eq_false hi
      have HE : Aside0 (D.L.take i = D.L) := ⟨List.take_of_length_le (by omega)⟩
      have z1 := blk_frozen H3.out.head 1
      have h9 := h2.out
      rw [HE.out] at h9
      have hb : ∀ k ∈ u4.ownBlock.toList, w.heap.size ≤ k := fun k hk => Kd.R_base h9 k (by simpa using hk)
      have hrl := blk_lt H.out.head
      have H9 := Aside0.mk (And.intro h9 (And.intro hb hrl))
      obtain ⟨A4, c4, hv4⟩ := Kd.R_slice h9
      clear hi h2 h9 hb hrl
      subst hv4
      go_wp2
      go_end0
      obtain ⟨h9, hb, hrl⟩ := H9.out
      refine ⟨rfl, _, ⟨blk_put H3.out.head 1 _ rfl, ?_⟩, (Fr.of_below h3.out _).setCell (p := ⟨r, 1, none⟩) (.inl (by simp)) _, fun k hk => .inr (hb k hk)⟩
      exact Row37.step (Kd.R_lower h9 (Nat.zero_le _)) (fun k hk => Below.heap_setCell _ _ _ _ (by show k ≠ r; have := hb k hk; omega))
/-- The files told lie in a row of their own. -/
theorem rfiles_calls {w : World} {r : Nat} {v : Value} {D : AD} (h : RefAt w r v D) (hm : D.L.length ≤ 64) :
    Calls Tryd.prog 44 #[.pointer (some ⟨r, 0, none⟩)] w fun e w' => ∃ u, e = .returned u ∧ Row37 w' u (filesT D.L) ∧ (∀ k ∈ u.ownBlock.toList, w.heap.size ≤ k) ∧ Below w.heap.size w w' := by
  have hu := Tryd.underlying37
  have H := Aside0.mk h
  obtain ⟨A, c, hv, hc, HC⟩ := h.row.reads
  rw [show (filesT D.L).length = D.L.length by rw [filesT, List.length_map]] at hv HC
  subst hv
  have HC' := Aside0.mk HC
  obtain ⟨c0, c1, -⟩ := ref_cells h.head
  have aL : Aside0 ((([] : List S37).length + D.L.length) * 40 ≤ 140737488355328) := ⟨by simp only [List.length_nil]; omega⟩
  have hK : Aside0 (∀ (x : S37) (cs : List Value), k37.K w x cs → k37.M w w.heap.size (fun _ => False) x cs) := ⟨fun x cs hk => by rw [k37_open hk]; exact k37_mkM _ _ _ x⟩
  clear h hc HC hm c0
  go_enter Tryd.func44, Tryd.ntmps44
  go_upto_region 3 with (((with_reducible refine gate_dst (N := 9) rfl ?_); refine Kd.R_append_rows k37 (Rr := fun x cs => k37.K w x cs) (w0 := w) w.heap.size rfl (.tmp 4) (.tmp 8) 32 37 _ 40 rfl Tryd.underlying32 info37r rfl (by decide) (by decide) _ [] (filesT D.L) A D.L.length c (fun _ => True) (fun _ => False) rfl rfl R_nil0 HC'.out hK.out (fun _ hk => hk.elim) (fun _ _ => trivial) (Below.refl _ _) (Nat.le_refl _) aL.out ?_; intro v1 w3 hR1 hB1 hg1 hat1; have RR := Aside0.mk hR1; have BB := Aside0.mk hB1; clear hR1 hB1 hg1 hat1))
  go_wp2
  go_ret
  exact ⟨_, rfl, Kd.R_lower RR.out (Nat.zero_le _), fun k hk => Kd.R_base RR.out k (by simpa using hk), BB.out⟩
set_option maxRecDepth 100000 in
theorem rread_calls {w : World} {r : Nat} {v : Value} {D : AD} (h : RefAt w r v D) (hr : Rising D.L) (x : Nm) (hx : x.length ≤ maxLen) :
    Calls Tryd.prog 41 #[.pointer (some ⟨r, 0, none⟩), .string ⟨x.toArray⟩] w fun e w' => e = .returned (.tuple #[.string (D.read x).1, .int .i64 (D.read x).2]) ∧ Below w.heap.size w w' := by
  have H := Aside0.mk h
  have cK := known_calls h hr x hx
  have cP : Aside0 (∀ w1, RefAt w1 r v D → Calls Tryd.prog 54 #[.pointer (some ⟨r, 0, none⟩), .string ⟨x.toArray⟩] w1 fun e w' => e = .returned (.int .i64 (placeL x D.L)) ∧ w' = w1) := ⟨fun w1 h1 => placeS h1 x⟩
  obtain ⟨A, c, rfl, hc, hL⟩ := ref_shape h
  have HR := Aside0.mk hr
  obtain ⟨c0, c1, c2, c3, c4⟩ := ref_cells h.head
  have ER := read_is D x
  clear h hc hL hr hx c0 c1 c2 c4
  by_cases h1 : D.down = true
  · have E : Aside0 (D.read x = (⟨#[]⟩, 3)) := ⟨ER.trans (if_pos h1)⟩
    rw [h1] at c3
    clear h1 ER
    go_enter Tryd.func41, Tryd.ntmps41
    go_wp2
    go_ret2
    rw [E.out]
    exact ⟨rfl, Below.refl _ _⟩
  · rw [if_neg h1] at ER
    have h1' : D.down = false := by simpa using h1
    rw [h1'] at c3
    by_cases h2 : D.knownE x = 0
    · rw [if_neg (fun h => h h2)] at ER
      obtain ⟨f, hf⟩ : ∃ f, findL x D.L = some f := by
        rcases knownE_cases D x with h | h | ⟨_, h⟩
        · rw [h2] at h; cases h
        · rw [h2] at h; cases h
        · exact h
      rw [hf] at ER
      have E : Aside0 (D.read x = (f.data, 0)) := ⟨ER⟩
      rw [h2] at cK
      have hat := place_find HR.out hf
      obtain ⟨i, hi⟩ : ∃ i, placeL x D.L = i := ⟨_, rfl⟩
      rw [hi] at cP hat
      have hil := (List.getElem?_eq_some_iff.1 hat).1
      have e2 : (i : Int) < (D.L.length : Int) := by omega
      have HA := Aside0.mk hat
      clear h1 h1' h2 ER hf hi hat
      go_enter Tryd.func41, Tryd.ntmps41
      go_upto_region 6 with (go_at_call 57; refine cK.mono ?_; rintro e w1 ⟨rfl, hb1⟩; have B1 := Aside0.mk hb1; clear hb1 cK)
      have R1 := Aside0.mk (H.out.below B1.out)
      obtain ⟨-, c1, -⟩ := ref_cells R1.out.head
      obtain ⟨g, cc, hv, q0, q1, q2⟩ := ref_at R1.out HA.out
      cases hv
      have cP1 : Aside0 (∀ W, RefAt W r (.slice (some ⟨g, 0, none⟩) D.L.length c) D → Calls Tryd.prog 54 #[.pointer (some ⟨r, 0, none⟩), .string ⟨x.toArray⟩] W fun e w' => e = .returned (.int .i64 i) ∧ ∃ n, w' = W.drewN n) := ⟨fun W hW => (cP.out W hW).mono (fun e w' hh => ⟨hh.1, 0, hh.2⟩)⟩
      have cQ : Aside0 (∀ n, Calls Tryd.prog 54 #[.pointer (some ⟨r, 0, none⟩), .string ⟨x.toArray⟩] (w1.drewN n) fun e w' => e = .returned (.int .i64 i) ∧ ∃ m, w' = w1.drewN m) := ⟨fun n => (cP.out (w1.drewN n) (R1.out.step (fun _ _ => rfl))).mono (fun e w' hh => ⟨hh.1, n, hh.2⟩)⟩
      clear cP cP1
      go_quiet ((go_at_call 54; exact cQ.out _))
      go_wp2
      go_ret2
      rw [E.out]
      exact ⟨rfl, pw_below_drewN B1.out _⟩
    · rw [if_pos h2] at ER
      have E : Aside0 (D.read x = (⟨#[]⟩, D.knownE x)) := ⟨ER⟩
      have e2 : (D.knownE x != 0) = true := by rw [bne, beq_eq_false_iff_ne.2 h2]; rfl
      generalize D.knownE x = own at cK E e2
      clear h1 h1' h2 ER
      go_enter Tryd.func41, Tryd.ntmps41
      go_wp2_with (go_at_call 57; refine cK.mono ?_; rintro e w1 ⟨rfl, hb1⟩; have B1 := Aside0.mk hb1; clear hb1 cK)
      go_ret2
      rw [E.out]
      exact ⟨rfl, B1.out⟩
/-- One cell of an element is turned. -/
theorem Row37.put1 {w : World} {g c : Nat} {l : List S37} (h : Row37 w (.slice (some ⟨g, 0, none⟩) l.length c) l) {i : Nat} {x : S37} (hi : l[i]? = some x) (j : Nat) (hj : j < 3) (u : Value) (x' : S37) (hx : (cells37 x).set j u = cells37 x') :
    Row37 (w.setCell ⟨g, i * 3 + j, none⟩ u) (.slice (some ⟨g, 0, none⟩) l.length c) (l.set i x') := by
  have hl := (List.getElem?_eq_some_iff.1 hi).1
  obtain ⟨cc, hcl, hM, hcc, _⟩ := Kd.R_elem h z37 (i : Int) (by omega) (by omega)
  rw [Int.toNat_natCast] at hM hcc
  have hx9 : l.getD i z37 = x := by rw [List.getD_eq_getElem?_getD, hi]; rfl
  rw [hx9] at hM
  have hcells := k37_openM hM
  have h9 := (Kd.R_seg h (i : Int) (by omega) (by omega) (c := cc) (seg := [u]) (j := j) (okp := fun _ => True ∧ _) (x' := x') hcl (by rw [Int.toNat_natCast]; exact hcc) (by show j + 1 ≤ 3; omega) (by
    have e : cc.take j ++ [u] ++ cc.drop (j + [u].length) = cells37 x' := by
      rw [← hx, hcells]
      rcases j with _ | _ | _ | j
      · rfl
      · rfl
      · rfl
      · omega
    rw [e]
    exact k37_mkM _ _ _ x') (fun k hk => hk)).1
  rw [Int.toNat_natCast] at h9
  exact h9
end Go.Proofs.YtakhnkkcllfbjaaDoorX
end
