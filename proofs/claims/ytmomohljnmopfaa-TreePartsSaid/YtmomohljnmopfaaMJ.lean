/- Several texts in one: WA, WB, WC; no conditions beyond those in each theorem's head. -/
import Derived.Test.YtmomohljnmopfaaMF
import Derived.Test.YtmomohljnmopfaaPK
section
namespace Go.Proofs.YtmomohljnmopfaaX
open Go.RowKit Go.Lib Go.Proofs.YtmomohljnmopfaaW.PrintWords Go.Proofs.YtmomohljnmopfaaW.PrintLast Go.Proofs.YtmomohljnmopfaaW.PrintMore
set_option linter.unusedVariables false
set_option linter.unusedSimpArgs false
/-- The reference's tree that has these pairs. -/
def RefT (w : World) (rb : Nat) (m : Int) (l : List KV) (S : List Nat) : Prop :=
  ∃ v, w.heap[rb]? = some (.cells #[.int .i64 m, v] 67 (0, 0)) ∧ RowP w v l ∧ S = rb :: v.ownBlock.toList ∧ rb ∉ v.ownBlock.toList
theorem ref_lt {w : World} {rb : Nat} {m : Int} {l : List KV} {S : List Nat} (h : RefT w rb m l S) : ∀ k ∈ S, k < w.heap.size := by
  obtain ⟨v, h1, h2, rfl, h3⟩ := h
  intro k hk
  rcases List.mem_cons.1 hk with rfl | hk
  · exact blk_lt h1
  · exact RowC.lt h2 k hk
theorem ref_step {w w' : World} {rb : Nat} {m : Int} {l : List KV} {S : List Nat} (h : RefT w rb m l S) (hb : ∀ k ∈ S, w'.heap[k]? = w.heap[k]?) : RefT w' rb m l S := by
  obtain ⟨v, h1, h2, rfl, h3⟩ := h
  exact ⟨v, (hb rb (by simp)).trans h1, RowC.step h2 (fun k hk => hb k (by simp [hk])), rfl, h3⟩
theorem ref_below {w w' : World} {rb : Nat} {m : Int} {l : List KV} {S : List Nat} (h : RefT w rb m l S) (hb : Below w.heap.size w w') : RefT w' rb m l S := ref_step h (fun k hk => hb.block k (ref_lt h k hk))
/-- Where a key stands, or would. -/
def PlaceAt (l : List KV) (k : Nm) (i : Nat) : Prop := i ≤ l.length ∧ ∀ (j : Nat) (p : KV), l[j]? = some p → (j < i ↔ p.1 < k)
theorem place_lo {l : List KV} (hl : Rises l) {k : Nm} {i j : Nat} {p q : KV} (hi : l[i]? = some p) (hj : l[j]? = some q) (h : j ≤ i) (hp : p.1 < k) : q.1 < k := by
  rcases Nat.eq_or_lt_of_le h with rfl | h
  · rw [hi] at hj; cases hj; exact hp
  · have h9 := List.pairwise_iff_getElem.1 hl j i (List.getElem?_eq_some_iff.1 hj).1 (List.getElem?_eq_some_iff.1 hi).1 h
    rw [(List.getElem?_eq_some_iff.1 hi).2, (List.getElem?_eq_some_iff.1 hj).2] at h9
    exact nm_trans h9 hp
theorem half_lt {a b : Nat} (h : a < b) : a ≤ (a + b) / 2 ∧ (a + b) / 2 < b := by omega
theorem half_int (a b : Nat) : Int.tdiv ((a : Int) + (b : Int)) 2 = (((a + b) / 2 : Nat) : Int) := by
  rw [show (a : Int) + (b : Int) = ((a + b : Nat) : Int) by omega]
  exact (Int.ofNat_tdiv _ _).symm
theorem wadd {a b : Nat} (ha : a ≤ 4294967296) (hb : b ≤ 4294967296) : wrap64 ((a : Int) + (b : Int)) = (a : Int) + (b : Int) := by unfold wrap64; omega
theorem wnat {a : Nat} (ha : a ≤ 4294967296) : wrap64 (a : Int) = (a : Int) := by unfold wrap64; omega
set_option maxRecDepth 100000 in
set_option maxHeartbeats 8000000 in
theorem place_calls {w : World} {rb : Nat} {m : Int} {l : List KV} {S : List Nat} (k : Nm) (hl : l.length ≤ 4294967296) (hr : Rises l) (hT : RefT w rb m l S) :
    Calls Try.prog 38 #[.pointer (some ⟨rb, 0, none⟩), .string ⟨k.toArray⟩] w fun e w' => (∃ i : Nat, e = .returned (.int .i64 i) ∧ PlaceAt l k i) ∧ ∃ n, w' = w.drewN n := by
  obtain ⟨v, h1, h2, -, -⟩ := hT
  obtain ⟨A, c, rfl, hc, -⟩ := RowC.shape h2
  obtain ⟨n, hn⟩ : ∃ n, l.length = n := ⟨_, rfl⟩
  rw [hn] at h1 h2 hl
  have c1 : w.cell? ⟨rb, 1, none⟩ = some (.slice A n c) := (blk_cell h1 1).trans rfl
  have HR := Aside0.mk (And.intro hr (And.intro h2 (And.intro hn hl)))
  have HB := Aside0.mk h1
  clear hr h2 hn h1 hl hc
  go_enter Try.func38, Try.ntmps38
  go_wp2
  go_loopg [5, 6] n (fun kq v5 v6 wr => ∃ (a b j : Nat), v5 = .int .i64 a ∧ v6 = .int .i64 b ∧ wr = w.drewN j ∧ Aside0 (a ≤ b ∧ b ≤ n ∧ b - a ≤ kq) ∧ Aside0 ((∀ (j : Nat) (p : KV), l[j]? = some p → j < a → p.1 < k) ∧ ∀ (j : Nat) (p : KV), l[j]? = some p → b ≤ j → ¬ p.1 < k))
  case atStart => exact ⟨0, n, 0, by simp, by simp, rfl, ⟨by omega⟩, ⟨fun j p _ h => absurd h (Nat.not_lt_zero _), fun j p hj h => by have := (List.getElem?_eq_some_iff.1 hj).1; have := HR.out.2.2.1; omega⟩⟩
  case round =>
    obtain ⟨a, b, j, rfl, rfl, rfl, h1, h2⟩ := hrel
    have c1' : (w.drewN j).cell? ⟨rb, 1, none⟩ = some (.slice A n c) := (blk_cell (show (w.drewN j).heap[rb]? = _ by simp; exact HB.out) 1).trans rfl
    by_cases hab : a < b
    · have d1 : decide ((a : Int) < (b : Int)) = true := decide_eq_true (by omega)
      have d2 : decide (a < b) = true := decide_eq_true hab
      obtain ⟨e, he⟩ : ∃ e, (a + b) / 2 = e := ⟨_, rfl⟩
      obtain ⟨t1, t2⟩ := half_lt hab
      rw [he] at t1 t2
      have hbn := h1.out
      have hnn := HR.out.2.2
      obtain ⟨p, hp⟩ : ∃ p, l[e]? = some p := ⟨_, List.getElem?_eq_getElem (by omega)⟩
      obtain ⟨g, c', hv, z0, z1, zf⟩ := RowP.at (show RowP (w.drewN j) (.slice A n c) l from RowC.step (w := w) HR.out.2.1 (fun q _ => by simp)) hp
      simp only [Value.slice.injEq] at hv
      obtain ⟨rfl, -, rfl⟩ := hv
      have e1 : (e : Int) < (n : Int) := by omega
      have e2 : e < n := by omega
      have q1 : a ≤ 4294967296 := by omega
      have q2 : b ≤ 4294967296 := by omega
      have q3 : e ≤ 4294967296 := by omega
      have HE := Aside0.mk (And.intro t1 (And.intro t2 (And.intro he (And.intro hp q3))))
      clear hbn hnn hab
      have f0 : Int.tdiv ((a : Int) + (b : Int)) 2 = (e : Int) := by rw [half_int, he]
      have f1 : wrap64 ((a : Int) + (b : Int)) = (a : Int) + (b : Int) := wadd q1 q2
      have f2 : wrap64 (e : Int) = (e : Int) := wnat q3
      have f1' : IntKind.i64.wrap ((a : Int) + (b : Int)) = (a : Int) + (b : Int) := by rw [i64w]; exact f1
      have f2' : IntKind.i64.wrap (e : Int) = (e : Int) := by rw [i64w]; exact f2
      have f3 : wrap64 ((e : Int) + 1) = ((e + 1 : Nat) : Int) := w64j q3
      have f3' : IntKind.i64.wrap ((e : Int) + 1) = ((e + 1 : Nat) : Int) := by rw [i64w]; exact f3
      clear q1 q2 q3 t1 t2 he hp zf z1
      by_cases hlt : p.1 < k
      · have d7 : Op.bytesLess p.1 k = true := by rw [nlt_eq]; exact decide_eq_true hlt
        have HLT := Aside0.mk hlt
        clear hlt
        go_wp2
        go_roundg (gk - 1)
        case measure => have := h1.out; have := HE.out; omega
        case rel => exact ⟨e + 1, b, j, by simp, by simp, rfl, ⟨by have := h1.out; have := HE.out; omega⟩, ⟨fun q r hq hle => place_lo HR.out.1 HE.out.2.2.2.1 hq (by omega) HLT.out, h2.out.2⟩⟩
      · have d7 : Op.bytesLess p.1 k = false := by rw [nlt_eq]; exact decide_eq_false hlt
        have HLT : Aside0 (¬ p.1 < k) := ⟨hlt⟩
        clear hlt
        go_wp2
        go_roundg (gk - 1)
        case measure => have := h1.out; have := HE.out; omega
        case rel => exact ⟨a, e, j, by simp, by simp, rfl, ⟨by have := h1.out; have := HE.out; omega⟩, ⟨h2.out.1, fun q r hq hle h9 => HLT.out (place_lo HR.out.1 hq HE.out.2.2.2.1 hle h9)⟩⟩
    · have d1 : decide ((a : Int) < (b : Int)) = false := decide_eq_false (by omega)
      have d2 : decide (a < b) = false := decide_eq_false hab
      have HAB := Aside0.mk hab
      clear hab
      go_wp2
      go_ret
      refine ⟨⟨a, rfl, by have := h1.out; have := HR.out.2.2.1; omega, fun q p hq => ⟨fun h9 => h2.out.1 q p hq h9, fun h9 => ?_⟩⟩, _, rfl⟩
      by_cases h8 : q < a
      · exact h8
      · exact absurd h9 (h2.out.2 q p hq (by have := h1.out; have := HAB.out; omega))
theorem place_get {l : List KV} {k : Nm} {i : Nat} {p : KV} (h : PlaceAt l k i) (hi : l[i]? = some p) (hk : p.1 = k) : getF k l = some p.2 := by
  have e : l = l.take i ++ p :: l.drop (i + 1) := by
    have h9 := (List.getElem?_eq_some_iff.1 hi)
    rw [← h9.2, ← List.drop_eq_getElem_cons h9.1, List.take_append_drop]
  rw [e, getF_app_r (fun q hq => ?_)]
  · rw [getF, if_pos hk]
  · obtain ⟨j, hj⟩ := List.mem_iff_getElem?.1 hq
    rw [List.getElem?_take] at hj
    split at hj
    · rename_i hji
      exact fun h8 => nm_irrefl k (by have := (h.2 j q hj).1 hji; rw [h8] at this; exact this)
    · cases hj
theorem place_none {l : List KV} {k : Nm} {i : Nat} (hr : Rises l) (h : PlaceAt l k i) (hi : ∀ p, l[i]? = some p → p.1 ≠ k) : getF k l = none := getF_none (fun q hq h8 => by
  obtain ⟨j, hj⟩ := List.mem_iff_getElem?.1 hq
  have h7 : ¬ j < i := fun h6 => nm_irrefl k (by have := (h.2 j q hj).1 h6; rw [h8] at this; exact this)
  by_cases h5 : j = i
  · subst h5; exact hi q hj h8
  · have hjl := (List.getElem?_eq_some_iff.1 hj)
    obtain ⟨hj2, -⟩ := hjl
    have hjl := (List.getElem?_eq_some_iff.1 hj)
    have h9 := List.pairwise_iff_getElem.1 hr i j (by omega) hjl.1 (by omega)
    rw [hjl.2, h8] at h9
    have := (h.2 i _ (List.getElem?_eq_getElem (by omega))).2 h9
    omega)
set_option maxRecDepth 100000 in
set_option maxHeartbeats 8000000 in
theorem getRef_calls {w : World} {rb : Nat} {m : Int} {l : List KV} {S : List Nat} (k : Nm) (hl : l.length ≤ 4294967296) (hr : Rises l) (hT : RefT w rb m l S) :
    Calls Try.prog 37 #[.pointer (some ⟨rb, 0, none⟩), .string ⟨k.toArray⟩] w fun e w' => e = .returned (ansG (getF k l)) ∧ ∃ n, w' = w.drewN n := by
  have cP := place_calls k hl hr hT
  obtain ⟨v, h1, h2, -, -⟩ := hT
  obtain ⟨A, c, rfl, hc, -⟩ := RowC.shape h2
  obtain ⟨n, hn⟩ : ∃ n, l.length = n := ⟨_, rfl⟩
  rw [hn] at h1 h2 hl
  have HR := Aside0.mk (And.intro hr (And.intro h2 (And.intro hn hl)))
  have c1 : ∀ j, (w.drewN j).cell? ⟨rb, 1, none⟩ = some (.slice A n c) := fun j => (blk_cell (show (w.drewN j).heap[rb]? = _ by simp; exact h1) 1).trans rfl
  clear hr h2 hn h1 hl hc
  go_enter Try.func37, Try.ntmps37
  go_upto_region 2 with (go_at_call 38; refine cP.mono ?_; rintro e w1 ⟨⟨i, rfl, hp⟩, j, rfl⟩; have HP := Aside0.mk hp; clear hp)
  have c1' := c1 j
  by_cases hin : i < n
  · obtain ⟨p, hp⟩ : ∃ p, l[i]? = some p := ⟨_, List.getElem?_eq_getElem (by have := HR.out.2.2; omega)⟩
    obtain ⟨g, c', hv, z0, z1, zf⟩ := RowP.at (show RowP (w.drewN j) (.slice A n c) l from RowC.step (w := w) HR.out.2.1 (fun q _ => by simp)) hp
    simp only [Value.slice.injEq] at hv
    obtain ⟨rfl, -, rfl⟩ := hv
    have d1 : decide ((i : Int) < (n : Int)) = true := decide_eq_true (by omega)
    have d2 : decide (i < n) = true := decide_eq_true hin
    have d3 : (i : Int) < (n : Int) := by omega
    have HI := Aside0.mk hp
    clear hp cP zf
    by_cases hk : p.1 = k
    · have d7 : (decide ((⟨p.1.toArray⟩ : ByteArray) = ⟨k.toArray⟩)) = true := decide_eq_true (by rw [hk])
      have HK := Aside0.mk hk
      subst hk
      go_wp2
      go_ret2
      rw [place_get HP.out HI.out rfl]
      exact ⟨rfl, _, rfl⟩
    · have d6 : ¬ p.1.toArray = k.toArray := fun h9 => hk (by simpa using h9)
      have d7 : (decide ((⟨p.1.toArray⟩ : ByteArray) = ⟨k.toArray⟩)) = false := decide_eq_false (by simpa using hk)
      have d9 : (p.1 == k) = false := beq_eq_false_iff_ne.2 hk
      have HK : Aside0 (¬ p.1 = k) := ⟨hk⟩
      go_wp2
      go_ret2
      rw [place_none HR.out.1 HP.out (fun q hq => by rw [HI.out] at hq; cases hq; exact HK.out)]
      exact ⟨rfl, _, rfl⟩
  · have d1 : decide ((i : Int) < (n : Int)) = false := decide_eq_false (by omega)
    have d2 : decide (i < n) = false := decide_eq_false hin
    have HIN : Aside0 (¬ i < n) := ⟨hin⟩
    clear cP hin
    go_wp2
    go_ret2
    rw [place_none HR.out.1 HP.out (fun q hq => by have := (List.getElem?_eq_some_iff.1 hq).1; have := HR.out.2.2; have := HIN.out; omega)]
    exact ⟨rfl, _, rfl⟩
end Go.Proofs.YtmomohljnmopfaaX
end
section
namespace Go.Proofs.YtmomohljnmopfaaX
open Go.RowKit Go.Lib Go.Proofs.YtmomohljnmopfaaW.PrintWords Go.Proofs.YtmomohljnmopfaaW.PrintLast Go.Proofs.YtmomohljnmopfaaW.PrintMore
set_option linter.unusedVariables false
set_option linter.unusedSimpArgs false
theorem take_cons_drop {α : Type} {l : List α} {i : Nat} {p : α} (h : l[i]? = some p) : l.drop i = p :: l.drop (i + 1) := by
  have h9 := List.getElem?_eq_some_iff.1 h
  rw [← h9.2]; exact List.drop_eq_getElem_cons h9.1
theorem place_take {l : List KV} {k : Nm} {i : Nat} (h : PlaceAt l k i) : ∀ p ∈ l.take i, p.1 < k := fun q hq => by
  obtain ⟨j, hj⟩ := List.mem_iff_getElem?.1 hq
  rw [List.getElem?_take] at hj
  split at hj
  · rename_i hji
    exact (h.2 j q hj).1 hji
  · cases hj
theorem place_had {l : List KV} {k : Nm} {i : Nat} (hr : Rises l) (h : PlaceAt l k i) (hs : (getF k l).isSome = true) : ∃ p, l[i]? = some p ∧ p.1 = k := by
  by_cases hi : ∃ p, l[i]? = some p ∧ p.1 = k
  · exact hi
  · rw [place_none hr h (fun p hp he => hi ⟨p, hp, he⟩)] at hs
    cases hs
theorem put_new {l : List KV} {k : Nm} {v : ByteArray} {i : Nat} (hr : Rises l) (h : PlaceAt l k i) (hs : (getF k l).isSome = false) : putF k v l = l.take i ++ (k, v) :: l.drop i := by
  have e := List.take_append_drop i l
  have h1 : putF k v l = l.take i ++ putF k v (l.drop i) := by
    have h9 := putF_app_r (v := v) (b := l.drop i) (place_take h)
    rw [e] at h9
    exact h9
  rw [h1]
  cases hd : l.drop i with
  | nil => rfl
  | cons q r =>
    have hq : l[i]? = some q := by
      have h9 : (l.drop i)[0]? = some q := by rw [hd]; rfl
      rw [List.getElem?_drop] at h9
      exact h9
    have h2 : ¬ q.1 < k := fun h9 => Nat.lt_irrefl i ((h.2 i q hq).2 h9)
    have h3 : ¬ q.1 = k := fun h9 => by rw [place_get h hq h9] at hs; cases hs
    rw [putF, if_neg h2, if_neg h3]
theorem put_had {l : List KV} {k : Nm} {v : ByteArray} {i : Nat} {p : KV} (hr : Rises l) (h : PlaceAt l k i) (hp : l[i]? = some p) (hk : p.1 = k) : putF k v l = l.set i (k, v) := by
  have e := List.take_append_drop i l
  have h1 : putF k v l = l.take i ++ putF k v (l.drop i) := by
    have h9 := putF_app_r (v := v) (b := l.drop i) (place_take h)
    rw [e] at h9
    exact h9
  rw [h1, take_cons_drop hp, putF, if_neg (by rw [hk]; exact nm_irrefl k), if_pos hk]
  rw [List.set_eq_take_append_cons_drop, if_pos (List.getElem?_eq_some_iff.1 hp).1]
theorem del_place {l : List KV} {k : Nm} {i : Nat} {p : KV} (hr : Rises l) (h : PlaceAt l k i) (hp : l[i]? = some p) (hk : p.1 = k) : delF k l = l.take i ++ l.drop (i + 1) := by
  have e := List.take_append_drop i l
  have h1 : delF k l = l.take i ++ delF k (l.drop i) := by
    have h9 := delF_app_r (b := l.drop i) (fun q hq => fun h8 => nm_irrefl k (by have := place_take h q hq; rw [h8] at this; exact this))
    rw [e] at h9
    exact h9
  rw [h1, take_cons_drop hp, delF, if_pos hk]
/-- One step of a shift to the right. -/
theorem shift_right {l : List KV} {q : Nat} {X p : KV} (hq : l[q]? = some p) : (l.take (q + 1) ++ X :: l.drop (q + 1)).set (q + 1) p = l.take q ++ p :: l.drop q := by
  have h9 := (List.getElem?_eq_some_iff.1 hq).1
  have hl : (l.take (q + 1)).length = q + 1 := by rw [List.length_take]; omega
  rw [List.set_append_right _ _ (by omega), hl, Nat.sub_self, List.set_cons_zero, take_cons_drop hq, take_one hq, List.append_assoc]
  rfl
theorem shift_at {l : List KV} {q : Nat} {X p : KV} (hq : l[q]? = some p) : (l.take (q + 1) ++ X :: l.drop (q + 1))[q]? = some p := by
  have h9 := (List.getElem?_eq_some_iff.1 hq).1
  rw [List.getElem?_append_left (by rw [List.length_take]; omega), List.getElem?_take, if_pos (Nat.lt_succ_self q)]
  exact hq
theorem shift_len {l : List KV} {q : Nat} {X : KV} (hq : q ≤ l.length) : (l.take q ++ X :: l.drop q).length = l.length + 1 := by
  rw [List.length_append, List.length_cons, List.length_take, List.length_drop]; omega
/-- What a change leaves. -/
def RDid (m : Int) (w w' : World) (rb : Nat) (S : List Nat) (l' : List KV) : Prop := ∃ S', RefT w' rb m l' S' ∧ Fr S w w' ∧ ∀ k ∈ S', k ∈ S ∨ w.heap.size ≤ k
theorem pair_fr (W : World) (g i : Nat) (a b : Value) : Fr [g] W ((W.setCell ⟨g, i * 2, none⟩ a).setCell ⟨g, i * 2 + 1, none⟩ b) := ((Fr.refl _ _).setCell (p := ⟨g, i * 2, none⟩) (.inl (by simp)) _).setCell (p := ⟨g, i * 2 + 1, none⟩) (.inl (by simp)) _
theorem ref_set {m : Int} {w W : World} {rb g c i : Nat} {L : List KV} {S : List Nat} (k : Nm) (u : ByteArray) (hrb : W.heap[rb]? = some (.cells #[.int .i64 m, .slice (some ⟨g, 0, none⟩) L.length c] 67 (0, 0))) (hrow : RowP W (.slice (some ⟨g, 0, none⟩) L.length c) L) (hne : rb ≠ g) (hf : Fr S w W) (hg : g ∈ S ∨ w.heap.size ≤ g) (hS : rb ∈ S) (hi : i < L.length) :
    RDid m w ((W.setCell ⟨g, i * 2, none⟩ (.string ⟨k.toArray⟩)).setCell ⟨g, i * 2 + 1, none⟩ (.string u)) rb S (L.set i (k, u)) := by
  have f1 := pair_fr W g i (.string ⟨k.toArray⟩) (.string u)
  have h1 := RowP.put hrow hi (k, u)
  refine ⟨rb :: [g], ⟨.slice (some ⟨g, 0, none⟩) L.length c, f1.blk hrb (by simpa using hne), h1, rfl, by simpa [Value.ownBlock] using hne⟩, hf.trans f1 (fun x hx => by simp only [List.mem_singleton] at hx; rw [hx]; exact hg), fun x hx => ?_⟩
  simp only [List.mem_cons, List.not_mem_nil, or_false] at hx
  rcases hx with rfl | rfl
  · exact .inl hS
  · exact hg
/-- The reference's tree while its row is moved about. -/
def RefG (m : Int) (w W : World) (rb : Nat) (S : List Nat) (g c : Nat) (L : List KV) : Prop := W.heap[rb]? = some (.cells #[.int .i64 m, .slice (some ⟨g, 0, none⟩) L.length c] 67 (0, 0)) ∧ RowP W (.slice (some ⟨g, 0, none⟩) L.length c) L ∧ Fr S w W
theorem refG_put {m : Int} {w W : World} {rb g c q : Nat} {S : List Nat} {L : List KV} {p : KV} (h : RefG m w W rb S g c L) (hne : rb ≠ g) (hg : g ∈ S ∨ w.heap.size ≤ g) (hq : q < L.length) : RefG m w ((W.setCell ⟨g, q * 2, none⟩ (.string ⟨p.1.toArray⟩)).setCell ⟨g, q * 2 + 1, none⟩ (.string p.2)) rb S g c (L.set q p) := by
  have f1 := pair_fr W g q (.string ⟨p.1.toArray⟩) (.string p.2)
  refine ⟨?_, ?_, h.2.2.trans f1 (fun x hx => by simp only [List.mem_singleton] at hx; rw [hx]; exact hg)⟩
  · rw [List.length_set]; exact f1.blk h.1 (by simpa using hne)
  · have h9 := RowP.put h.2.1 hq p
    rw [List.length_set]; exact h9
set_option maxRecDepth 100000 in
set_option maxHeartbeats 8000000 in
theorem putRef_calls {w : World} {rb : Nat} {m : Int} {l : List KV} {S : List Nat} (k : Nm) (u : ByteArray) (hl : l.length ≤ 2147483648) (hr : Rises l) (hT : RefT w rb m l S) :
    Calls Try.prog 22 #[.pointer (some ⟨rb, 0, none⟩), .string ⟨k.toArray⟩, .string u] w fun e w' => e = .returned (ansG (getF k l)) ∧ RDid m w w' rb S (putF k u l) := by
  have cG := getRef_calls k (by omega) hr hT
  have cP : Aside0 (∀ j, Calls Try.prog 38 #[.pointer (some ⟨rb, 0, none⟩), .string ⟨k.toArray⟩] (w.drewN j) fun e w' => (∃ i : Nat, e = .returned (.int .i64 i) ∧ PlaceAt l k i) ∧ ∃ n, w' = w.drewN n) := ⟨fun j => (place_calls k (by omega) hr (ref_step hT (w' := w.drewN j) (fun q _ => by simp))).mono (fun e w' ⟨h1, n, h2⟩ => ⟨h1, j + n, by rw [h2, World.drewN_drewN]⟩)⟩
  obtain ⟨v, h1, h2, rfl, h3⟩ := hT
  have HT := Aside0.mk (And.intro h1 (And.intro h2 (And.intro h3 (And.intro hl hr))))
  clear h1 h2 h3 hl hr
  unfold ansG at cG ⊢
  go_enter Try.func22, Try.ntmps22
  go_upto_region 3 with (first | (go_at_call 37; refine cG.mono ?_; rintro e w1 ⟨rfl, j0, rfl⟩) | (go_at_call 38; refine (cP.out _).mono ?_; rintro e w1 ⟨⟨i, rfl, hp⟩, j, rfl⟩; have HP := Aside0.mk hp; clear hp))
  obtain ⟨W, hW⟩ : ∃ W, w.drewN j = W := ⟨_, rfl⟩
  have HW : Aside0 (W.heap[rb]? = some (.cells #[.int .i64 m, v] 67 (0, 0)) ∧ RowP W v l ∧ Below w.heap.size w W) := ⟨by rw [← hW]; exact ⟨by simp; exact HT.out.1, RowC.step (w := w) HT.out.2.1 (fun q _ => by simp), pw_below_drewN (Below.refl _ _) _⟩⟩
  rw [hW]
  clear hW cG cP
  obtain ⟨A, c, rfl, hc, -⟩ := RowC.shape HW.out.2.1
  cases hs : (getF k l).isSome with
  | true =>
    obtain ⟨p, hp, hk⟩ := place_had HT.out.2.2.2.2 HP.out hs
    obtain ⟨g, c', hv, z0, z1, zf⟩ := RowP.at HW.out.2.1 hp
    simp only [Value.slice.injEq] at hv
    obtain ⟨rfl, -, rfl⟩ := hv
    have hin := (List.getElem?_eq_some_iff.1 hp).1
    have c1 : W.cell? ⟨rb, 1, none⟩ = some (.slice (some ⟨g, 0, none⟩) l.length c) := (blk_cell HW.out.1 1).trans rfl
    have d1 : (i : Int) < (l.length : Int) := by omega
    have HI := Aside0.mk (And.intro hp (And.intro hk hin))
    have zf0 := zf (i * 2)
    have zf1 := zf (i * 2 + 1)
    clear hp hk hin hc zf
    go_wp2
    go_ret2
    refine ⟨by rw [hs]; rfl, ?_⟩
    rw [put_had HT.out.2.2.2.2 HP.out HI.out.1 HI.out.2.1]
    exact ref_set k u HW.out.1 HW.out.2.1 (fun e => HT.out.2.2.1 (by rw [e]; simp [Value.ownBlock])) (Fr.of_below HW.out.2.2 _) (.inl (by simp [Value.ownBlock])) (by simp) HI.out.2.2
  | false =>
    have c1 : W.cell? ⟨rb, 1, none⟩ = some (.slice A l.length c) := (blk_cell HW.out.1 1).trans rfl
    have c1a := fun o => cell_alloc c1 o
    have hll := HT.out.2.2.2.1
    have NO : Aside0 (some rb ≠ (Value.slice A l.length c).ownBlock) := ⟨fun e => HT.out.2.2.1 (own_mem.2 e)⟩
    clear hc
    go_upto_region 5 with ((with_reducible refine gate_dst (N := 30) rfl ?_); refine wp_rowp_append (l := l) (ys := [([], ⟨#[]⟩)]) rfl (.tmp 27) (.tmp 29) rfl rfl (RowC.below HW.out.2.1 (below_alloc (Below.refl _ _) _)) (src_pair (vb := W.heap.size) (blk_new _ _)) (by simp) (by simp; omega) rfl rfl ?_; rintro g c' w1 hr1 hg hgg; have HG := Aside0.mk (And.intro hr1 (And.intro hg hgg)); have hrb1 := blk_grown (blk_alloc HW.out.1 _) hg NO.out; have d0 := (blk_cell hrb1 1).trans rfl; have df := blk_frozen hrb1 1; clear hr1 hg hgg)
    have hgn : rb ≠ g := fun e => by
      rcases HG.out.2.2 with h9 | h9
      · exact HT.out.2.2.1 (by rw [e]; exact own_mem.2 h9.symm)
      · have := blk_lt HW.out.1; simp at h9; omega
    have hgS : g ∈ rb :: (Value.slice A l.length c).ownBlock.toList ∨ w.heap.size ≤ g := by
      rcases HG.out.2.2 with h9 | h9
      · exact .inl (List.mem_cons_of_mem _ (own_mem.2 h9.symm))
      · right; have := HW.out.2.2.size; simp at h9; omega
    have HGN := Aside0.mk (And.intro hgn hgS)
    obtain ⟨W2, hW2⟩ : ∃ W2, w1.setCell ⟨rb, 1, none⟩ (.slice (some ⟨g, 0, none⟩) (l.length + 1) c') = W2 := ⟨_, rfl⟩
    obtain ⟨n, hn⟩ : ∃ n, l.length = n := ⟨_, rfl⟩
    have HGN9 : Aside0 (rb ≠ g ∧ (g ∈ rb :: (Value.slice A n c).ownBlock.toList ∨ w.heap.size ≤ g)) := ⟨hgn, by rw [← hn]; exact hgS⟩
    have HRG : Aside0 (RefG m w W2 rb (rb :: (Value.slice A n c).ownBlock.toList) g c' (l.take n ++ (([], ⟨#[]⟩) : KV) :: l.drop n)) := ⟨by
      have f1 : Fr [rb] w1 W2 := by rw [← hW2]; exact (Fr.refl _ _).setCell (p := ⟨rb, 1, none⟩) (.inl (by simp)) _
      have e1 : l.take n ++ (([], ⟨#[]⟩) : KV) :: l.drop n = l ++ [([], ⟨#[]⟩)] := by rw [List.take_of_length_le (by omega), List.drop_eq_nil_of_le (by omega)]
      have e2 : (l ++ [(([], ⟨#[]⟩) : KV)]).length = l.length + 1 := by simp
      rw [e1]
      refine ⟨?_, ?_, ?_⟩
      · rw [e2, ← hW2]; exact blk_put hrb1 1 _ rfl
      · rw [e2]; exact RowC.fr HG.out.1 f1 (fun q hq hx => hgn (by simp only [List.mem_singleton] at hx; simp [Value.ownBlock] at hq; rw [← hx, hq]))
      · rw [← hn]
        exact (((Fr.of_below HW.out.2.2 _).alloc _).grown HG.out.2.1 (fun q hq => .inl (List.mem_cons_of_mem _ (own_mem.2 hq.symm)))).trans f1 (fun x hx => .inl (by simp only [List.mem_singleton] at hx; rw [hx]; simp))⟩
    rw [hW2]
    have c2 : W2.cell? ⟨rb, 1, none⟩ = some (.slice (some ⟨g, 0, none⟩) (n + 1) c') := by
      have h9 := HRG.out.1
      rw [shift_len (by omega), hn] at h9
      exact (blk_cell h9 1).trans rfl
    have hiN : i ≤ n := by rw [← hn]; exact HP.out.1
    have hnn : n ≤ 2147483648 := by omega
    have HN := Aside0.mk (And.intro hn (And.intro hiN hnn))
    rw [hn]
    clear hrb1 d0 df hgn hgS HG hW2 c1 c1a NO hll hn hiN
    have f1 : wrap64 ((n : Int) + 1) = ((n + 1 : Nat) : Int) := w64j (by omega)
    have f2 : wrap64 (n : Int) = (n : Int) := wnat (by omega)
    clear hnn
    go_wp2
    go_loopg [11] n (fun kq v11 wr => ∃ (q : Nat) (X : KV), v11 = .int .i64 q ∧ Aside0 (i ≤ q ∧ q ≤ n ∧ q ≤ i + kq) ∧ Aside0 (RefG m w wr rb (rb :: (Value.slice A n c).ownBlock.toList) g c' (l.take q ++ X :: l.drop q)))
    case atStart => exact ⟨n, _, by simp [f2], ⟨by have := HN.out; omega⟩, HRG⟩
    case round =>
      obtain ⟨q, X, rfl, h1, h2⟩ := hrel
      clear c2 f1 f2
      have c2 : wr.cell? ⟨rb, 1, none⟩ = some (.slice (some ⟨g, 0, none⟩) (n + 1) c') := by
        have h9 := h2.out.1
        rw [shift_len (by have := h1.out; have := HN.out; omega), HN.out.1] at h9
        exact (blk_cell h9 1).trans rfl
      by_cases hiq : i < q
      · have d1 : decide ((i : Int) < (q : Int)) = true := decide_eq_true (by omega)
        have d2 : decide (i < q) = true := decide_eq_true hiq
        obtain ⟨q0, hq0⟩ : ∃ q0, q = q0 + 1 := ⟨q - 1, by omega⟩
        subst hq0
        have hq9 := h1.out
        have hn9 := HN.out
        obtain ⟨p, hp⟩ : ∃ p, l[q0]? = some p := ⟨_, List.getElem?_eq_getElem (by omega)⟩
        have hlen : (l.take (q0 + 1) ++ X :: l.drop (q0 + 1)).length = n + 1 := by rw [shift_len (by omega), hn9.1]
        obtain ⟨g', c9, hv, z0, z1, zf⟩ := RowP.at h2.out.2.1 (shift_at (X := X) hp)
        simp only [Value.slice.injEq, Option.some.injEq, Addr.mk.injEq] at hv
        obtain ⟨⟨rfl, -⟩, -, rfl⟩ := hv
        have zf0 := zf ((q0 + 1) * 2)
        have zf1 := zf ((q0 + 1) * 2 + 1)
        have hX : (l.take (q0 + 1) ++ X :: l.drop (q0 + 1))[q0 + 1]? = some X := by
          have htl : (l.take (q0 + 1)).length = q0 + 1 := by rw [List.length_take]; omega
          rw [List.getElem?_append_right (by omega), htl, Nat.sub_self]; rfl
        obtain ⟨g', c9, hv, y0, y1, -⟩ := RowP.at h2.out.2.1 hX
        simp only [Value.slice.injEq, Option.some.injEq, Addr.mk.injEq] at hv
        obtain ⟨⟨rfl, -⟩, -, -⟩ := hv
        clear hX
        have d3 : ((q0 + 1 : Nat) : Int) < (n : Int) + 1 := by omega
        have d3' : (q0 : Int) + 1 < (n : Int) + 1 := by omega
        have d4 : (q0 : Int) < (n : Int) + 1 := by omega
        have d5 : q0 + 1 < n + 1 := by omega
        have d6 : q0 < n + 1 := by omega
        have d7 : (0 : Int) ≤ (q0 : Int) + 1 := by omega
        have d9 : (i : Int) < (q0 : Int) + 1 := by omega
        have d10 : decide ((i : Int) < (q0 : Int) + 1) = true := decide_eq_true d9
        have d11 : i < q0 + 1 := by omega
        have d8 : ((q0 : Int) + 1).toNat = q0 + 1 := by omega
        have qb : q0 ≤ 4294967296 := by omega
        have HQ := Aside0.mk (And.intro hp (And.intro hlen qb))
        have w1' : wrap64 ((q0 : Int) + 1 - 1) = (q0 : Int) := by rw [show (q0 : Int) + 1 - 1 = (q0 : Int) by omega]; exact wnat qb
        have w2' : wrap64 (q0 : Int) = (q0 : Int) := wnat qb
        clear hq9 hn9 hp hlen zf hiq qb
        go_upto_region 8 with fail
        refine start_ (n := 15) (S := fun w' => w'.cell? ⟨rb, 1, none⟩ = some (.slice (some ⟨g, 0, none⟩) (n + 1) c') ∧ w'.cell? ⟨g, q0 * 2, none⟩ = some (.string ⟨p.1.toArray⟩) ∧ w'.cell? ⟨g, q0 * 2 + 1, none⟩ = some (.string p.2)) (ds := [14]) (mK 15 0) (by kernel_rfl) rfl rfl ⟨c2, z0, z1⟩ (fun hHeld => ?_)
        refine with_tabW (T := (true, [([], []), ([0], [0]), ([1], [1]), ([2], [2]), ([], []), ([], []), ([5], [5]), ([6], [6]), ([7], [7]), ([], []), ([9], [9]), ([8, 10], [8, 10]), ([11], [11]), ([3, 4, 0, 1, 2, 3, 4, 5, 6, 7, 8, 9, 10, 11, 12], [3, 4]), ([13, 12, 0, 1, 2, 3, 4, 5, 6, 7, 8, 9, 10, 11, 12], [12, 13])])) (B := [0, 1, 3, 7, 0, 0, 32, 96, 224, 0, 512, 2016, 4064, 8191, 16383]) (by kernel_rfl) (by kernel_rfl) (fun HT_ HW_ => ?_)
        refine pK 0 44 (mK 15 1) rfl rfl HT_ ?_
        refine pK 1 45 (mK 15 3) rfl rfl HT_ ?_
        refine pK 2 46 (mK 15 7) rfl rfl HT_ ?_
        refine pK 4 48 (mK 15 23) rfl rfl HT_ ?_
        refine pK 5 49 (mK 15 55) rfl rfl HT_ ?_
        refine pK 6 50 (mK 15 119) rfl rfl HT_ ?_
        refine pK 7 51 (mK 15 247) rfl rfl HT_ ?_
        refine pK 9 53 (mK 15 759) rfl rfl HT_ ?_
        refine pK 10 54 (mK 15 1783) rfl rfl HT_ ?_
        refine take_ (i := 3) (N := some 47) (v := ?_) (a' := ?_) (mK 15 1791) rfl rfl (take_ofW HT_.out HW_.out (by kernel_rfl)) (fun _ _ _ h => h) (Or.inl ⟨by rfl, ?_⟩) hHeld ?_ ?_
        rotate_left; focus (rintro w' ⟨s0, s1, s2⟩; go_simp; with_reducible rfl; done)
        rotate_left; focus (first | (simp only [Act.put, List.setIfInBounds_toArray, List.set_cons_zero, List.set_cons_succ, i64_w, i32_w]; rfl; done) | (rfl; done))
        refine take_ (i := 8) (N := some 52) (v := ?_) (a' := ?_) (mK 15 2047) rfl rfl (take_ofW HT_.out HW_.out (by kernel_rfl)) (fun _ _ _ h => h) (Or.inl ⟨by rfl, ?_⟩) hHeld ?_ ?_
        rotate_left; focus (rintro w' ⟨s0, s1, s2⟩; go_simp; with_reducible rfl; done)
        rotate_left; focus (first | (simp only [Act.put, List.setIfInBounds_toArray, List.set_cons_zero, List.set_cons_succ, i64_w, i32_w]; rfl; done) | (rfl; done))
        refine pK 11 55 (mK 15 4095) rfl rfl HT_ ?_
        refine take_ (i := 12) (N := some 56) (v := ?_) (a' := ?_) (mK 15 8191) rfl rfl (take_ofW HT_.out HW_.out (by kernel_rfl)) (fun _ _ _ h => h) (Or.inl ⟨by rfl, ?_⟩) hHeld ?_ ?_
        rotate_left; focus (rintro w' ⟨s0, s1, s2⟩; go_simp; with_reducible rfl; done)
        rotate_left; focus (first | (simp only [Act.put, List.setIfInBounds_toArray, List.set_cons_zero, List.set_cons_succ, i64_w, i32_w]; rfl; done) | (rfl; done))
        refine pK 13 57 (mK 15 16383) rfl rfl HT_ ?_
        refine last_ (i := 14) (N := none) (mK 15 32767) rfl rfl (one_of HT_.out (by kernel_rfl)) (by decide) (fun K hK => ?_)
        focus
         go_simp
         (skip)
         refine hK.out _ _ ?_
         clear hK K
         refine done_ (done_of HT_.out (by kernel_rfl)) ?_
        all_goals
          go_wp2
          have hnew := refG_put (q := q0 + 1) (p := p) h2.out HGN9.out.1 HGN9.out.2 (by rw [HQ.out.2.1]; omega)
          rw [shift_right HQ.out.1] at hnew
          go_roundg (gk - 1)
          case measure => have := h1.out; omega
          case rel => exact ⟨q0, p, by simp [w2'], ⟨by have := h1.out; omega⟩, ⟨hnew.1, hnew.2.1, hnew.2.2.drew⟩⟩
      · have d1 : decide ((i : Int) < (q : Int)) = false := decide_eq_false (by omega)
        have d2 : decide (i < q) = false := decide_eq_false hiq
        have d3 : (i : Int) < (n : Int) + 1 := by have := HN.out; omega
        have d4 : i < n + 1 := by have := HN.out; omega
        obtain rfl : q = i := by have := h1.out; omega
        have hlen : (l.take q ++ X :: l.drop q).length = n + 1 := by rw [shift_len (by have := h1.out; have := HN.out; omega), HN.out.1]
        have htl : (l.take q).length = q := by rw [List.length_take]; have := h1.out; have := HN.out; omega
        have hX : (l.take q ++ X :: l.drop q)[q]? = some X := by rw [List.getElem?_append_right (by omega), htl, Nat.sub_self]; rfl
        obtain ⟨g', c9, hv, z0, z1, zf⟩ := RowP.at h2.out.2.1 hX
        simp only [Value.slice.injEq, Option.some.injEq, Addr.mk.injEq] at hv
        obtain ⟨⟨rfl, -⟩, -, rfl⟩ := hv
        have zf0 := zf (q * 2)
        have zf1 := zf (q * 2 + 1)
        have HX := Aside0.mk (And.intro hlen (And.intro htl hX))
        clear hlen htl hX zf hiq
        go_wp2
        go_ret2
        refine ⟨by rw [hs]; rfl, ?_⟩
        have e9 : (l.take q ++ X :: l.drop q).set q (k, u) = l.take q ++ (k, u) :: l.drop q := by
          rw [List.set_append_right _ _ (by have := HX.out.2.1; omega), HX.out.2.1, Nat.sub_self, List.set_cons_zero]
        rw [put_new HT.out.2.2.2.2 HP.out hs, ← e9, HN.out.1]
        exact ref_set k u h2.out.1 h2.out.2.1 HGN.out.1 h2.out.2.2 (by have := HGN.out.2; rw [HN.out.1] at this; exact this) (by simp) (by rw [HX.out.1]; have := HN.out; omega)
/-- One step of a shift to the left. -/
theorem shl_len {l E : List KV} {q : Nat} (hE : E.length + 1 = l.length) (hq : q < l.length) : (E.take q ++ l.drop q).length = l.length := by
  rw [List.length_append, List.length_take, List.length_drop]; omega
theorem shl_at {l E : List KV} {q r : Nat} (hE : E.length + 1 = l.length) (hq : q < l.length) (hr : q ≤ r) : (E.take q ++ l.drop q)[r]? = l[r]? := by
  have hl : (E.take q).length = q := by rw [List.length_take]; omega
  rw [List.getElem?_append_right (by omega), hl, List.getElem?_drop]
  congr 1; omega
theorem shl_step {l E : List KV} {q : Nat} {p : KV} (hE : E.length + 1 = l.length) (hq : q + 1 < l.length) (hp : E[q]? = some p) : (E.take q ++ l.drop q).set q p = E.take (q + 1) ++ l.drop (q + 1) := by
  have hl : (E.take q).length = q := by rw [List.length_take]; omega
  obtain ⟨r, hr⟩ : ∃ r, l[q]? = some r := ⟨_, List.getElem?_eq_getElem (by omega)⟩
  rw [List.set_append_right _ _ (by omega), hl, Nat.sub_self, take_cons_drop hr, List.set_cons_zero, take_one hp, List.append_assoc]
  rfl
theorem era_at {l : List KV} {i q : Nat} (hi : i ≤ q) (hq : q + 1 < l.length) : (l.take i ++ l.drop (i + 1))[q]? = l[q + 1]? := by
  have hl : (l.take i).length = i := by rw [List.length_take]; omega
  rw [List.getElem?_append_right (by omega), hl, List.getElem?_drop]
  congr 1; omega
end Go.Proofs.YtmomohljnmopfaaX
end
section
namespace Go.Proofs.YtmomohljnmopfaaX
open Go.RowKit Go.Lib Go.Proofs.YtmomohljnmopfaaW.PrintWords Go.Proofs.YtmomohljnmopfaaW.PrintLast Go.Proofs.YtmomohljnmopfaaW.PrintMore
set_option linter.unusedVariables false
set_option linter.unusedSimpArgs false
theorem getF_some {k : Nm} : ∀ {l : List KV} {p : KV}, p ∈ l → p.1 = k → (getF k l).isSome = true
  | q :: l, p, hp, hk => by
    rw [getF]
    split
    · rfl
    · rename_i hq
      rcases List.mem_cons.1 hp with rfl | hp
      · exact absurd hk hq
      · exact getF_some hp hk
set_option maxRecDepth 100000 in
set_option maxHeartbeats 8000000 in
theorem delRef_calls {w : World} {rb : Nat} {m : Int} {l : List KV} {S : List Nat} (k : Nm) (hl : l.length ≤ 2147483648) (hr : Rises l) (hT : RefT w rb m l S) :
    Calls Try.prog 23 #[.pointer (some ⟨rb, 0, none⟩), .string ⟨k.toArray⟩] w fun e w' => e = .returned (ansG (getF k l)) ∧ RDid m w w' rb S (delF k l) := by
  have cG := getRef_calls k (by omega) hr hT
  have cP : Aside0 (∀ j, Calls Try.prog 38 #[.pointer (some ⟨rb, 0, none⟩), .string ⟨k.toArray⟩] (w.drewN j) fun e w' => (∃ i : Nat, e = .returned (.int .i64 i) ∧ PlaceAt l k i) ∧ ∃ n, w' = w.drewN n) := ⟨fun j => (place_calls k (by omega) hr (ref_step hT (w' := w.drewN j) (fun q _ => by simp))).mono (fun e w' ⟨h1, n, h2⟩ => ⟨h1, j + n, by rw [h2, World.drewN_drewN]⟩)⟩
  have HS := Aside0.mk hT
  obtain ⟨v, h1, h2, rfl, h3⟩ := hT
  have HT := Aside0.mk (And.intro h1 (And.intro h2 (And.intro h3 (And.intro hl hr))))
  clear h1 h2 h3 hl hr
  unfold ansG at cG ⊢
  obtain ⟨b, hs⟩ : ∃ b, (getF k l).isSome = b := ⟨_, rfl⟩
  cases b with
  | false =>
    rw [hs] at cG ⊢
    have hd : delF k l = l := delF_none (fun p hp he => by
      rw [getF_some hp he] at hs
      cases hs)
    rw [hd]
    clear cP
    go_enter Try.func23, Try.ntmps23
    go_wp2_with (go_at_call 37; refine cG.mono ?_; rintro e w1 ⟨rfl, j0, rfl⟩)
    go_ret2
    exact ⟨rfl, _, ref_step HS.out (fun q _ => by simp), (Fr.refl _ _).drewN _, fun q hq => .inl hq⟩
  | true =>
    rw [hs] at cG ⊢
    go_enter Try.func23, Try.ntmps23
    go_upto_region 4 with (first | (go_at_call 37; refine cG.mono ?_; rintro e w1 ⟨rfl, j0, rfl⟩) | (go_at_call 38; refine (cP.out _).mono ?_; rintro e w1 ⟨⟨i, rfl, hp⟩, j, rfl⟩; have HP := Aside0.mk hp; clear hp))
    obtain ⟨W, hW⟩ : ∃ W, w.drewN j = W := ⟨_, rfl⟩
    have HW : Aside0 (W.heap[rb]? = some (.cells #[.int .i64 m, v] 67 (0, 0)) ∧ RowP W v l ∧ Below w.heap.size w W) := ⟨by rw [← hW]; exact ⟨by simp; exact HT.out.1, RowC.step (w := w) HT.out.2.1 (fun q _ => by simp), pw_below_drewN (Below.refl _ _) _⟩⟩
    rw [hW]
    clear hW cG cP
    obtain ⟨p, hp, hk⟩ := place_had HT.out.2.2.2.2 HP.out hs
    obtain ⟨g, c, rfl, -, -, -⟩ := RowP.at HW.out.2.1 hp
    obtain ⟨n, hn⟩ : ∃ n, l.length = n := ⟨_, rfl⟩
    have hin := (List.getElem?_eq_some_iff.1 hp).1
    have hgn : rb ≠ g := fun e => HT.out.2.2.1 (by rw [e]; simp [Value.ownBlock])
    obtain ⟨E, hE⟩ : ∃ E, l.take i ++ l.drop (i + 1) = E := ⟨_, rfl⟩
    have hEl : E.length + 1 = n := by rw [← hE, List.length_append, List.length_take, List.length_drop]; omega
    have hdel : delF k l = E := by rw [← hE]; exact del_place HT.out.2.2.2.2 HP.out hp hk
    have HI := Aside0.mk (And.intro hn (And.intro (hn ▸ hin) (And.intro hgn (And.intro hEl (And.intro hdel hE)))))
    have HRG : Aside0 (RefG m w W rb (rb :: (Value.slice (some ⟨g, 0, none⟩) l.length c).ownBlock.toList) g c (E.take i ++ l.drop i)) := ⟨by
      have e1 : E.take i ++ l.drop i = l := by
        rw [← hE, List.take_append_of_le_length (by rw [List.length_take]; omega), List.take_take, Nat.min_self, List.take_append_drop]
      rw [e1]
      exact ⟨HW.out.1, HW.out.2.1, Fr.of_below HW.out.2.2 _⟩⟩
    clear hp hk hn hin hgn hE hEl hdel
    go_loopg [8] n (fun kq v8 wr => ∃ (q : Nat), v8 = .int .i64 q ∧ Aside0 (i ≤ q ∧ q < n ∧ n ≤ q + kq) ∧ Aside0 (RefG m w wr rb (rb :: (Value.slice (some ⟨g, 0, none⟩) l.length c).ownBlock.toList) g c (E.take q ++ l.drop q)))
    case atStart => exact ⟨i, by simp, ⟨by have := HI.out.2.1; omega⟩, HRG⟩
    case round =>
      obtain ⟨q, rfl, h1, h2⟩ := hrel
      have hi9 := HI.out
      have h19 := h1.out
      have hn9 := HT.out.2.2.2.1
      have hlen : (E.take q ++ l.drop q).length = n := (shl_len (by omega) (by omega)).trans hi9.1
      have c2 : wr.cell? ⟨rb, 1, none⟩ = some (.slice (some ⟨g, 0, none⟩) n c) := by
        have h9 := h2.out.1
        rw [hlen] at h9
        exact (blk_cell h9 1).trans rfl
      have qb : q ≤ 4294967296 := by omega
      by_cases hq : q + 1 < n
      · obtain ⟨r, hr⟩ : ∃ r, l[q + 1]? = some r := ⟨_, List.getElem?_eq_getElem (by omega)⟩
        obtain ⟨x, hx⟩ : ∃ x, l[q]? = some x := ⟨_, List.getElem?_eq_getElem (by omega)⟩
        obtain ⟨g', c9, hv, z0, z1, zf⟩ := RowP.at h2.out.2.1 ((shl_at (q := q) (r := q + 1) (by omega) (by omega) (by omega)).trans hr)
        simp only [Value.slice.injEq, Option.some.injEq, Addr.mk.injEq] at hv
        obtain ⟨⟨rfl, -⟩, -, -⟩ := hv
        obtain ⟨g', c9, hv, y0, y1, -⟩ := RowP.at h2.out.2.1 ((shl_at (q := q) (r := q) (by omega) (by omega) (by omega)).trans hx)
        simp only [Value.slice.injEq, Option.some.injEq, Addr.mk.injEq] at hv
        obtain ⟨⟨rfl, -⟩, -, -⟩ := hv
        have zf0 := zf (q * 2)
        have zf1 := zf (q * 2 + 1)
        have hEq : E[q]? = some r := by rw [← hi9.2.2.2.2.2]; exact (era_at h19.1 (by omega)).trans hr
        have hstep := shl_step (l := l) (E := E) (q := q) (by omega) (by omega) hEq
        have hnew := refG_put (q := q) (p := r) h2.out hi9.2.2.1 (.inl (by simp [Value.ownBlock])) (by rw [hlen]; omega)
        rw [hstep] at hnew
        have HN := Aside0.mk hnew
        have d1 : decide ((q : Int) + 1 < (n : Int)) = true := decide_eq_true (by omega)
        have d2 : decide (q + 1 < n) = true := decide_eq_true hq
        have d3 : (q : Int) + 1 < (n : Int) := by omega
        have d4 : (q : Int) < (n : Int) := by omega
        have d5 : q < n := by omega
        have d6 : ((q : Int) + 1).toNat = q + 1 := by omega
        have d7 : (0 : Int) ≤ (q : Int) + 1 := by omega
        have w1 : wrap64 ((q : Int) + 1) = (q : Int) + 1 := (w64j qb).trans (Int.natCast_succ q)
        have w1' : IntKind.i64.wrap ((q : Int) + 1) = (q : Int) + 1 := by rw [i64w]; exact w1
        clear hi9 h19 hn9 hlen hr hx zf hEq hstep hnew qb
        go_upto_region 6 with fail
        refine start_ (n := 15) (S := fun w' => w'.cell? ⟨rb, 1, none⟩ = some (.slice (some ⟨g, 0, none⟩) n c) ∧ w'.cell? ⟨g, (q + 1) * 2, none⟩ = some (.string ⟨r.1.toArray⟩) ∧ w'.cell? ⟨g, (q + 1) * 2 + 1, none⟩ = some (.string r.2)) (ds := [14]) (mK 15 0) (by kernel_rfl) rfl rfl ⟨c2, z0, z1⟩ (fun hHeld => ?_)
        refine with_tabW (T := (true, [([], []), ([0], [0]), ([1], [1]), ([2], [2]), ([], []), ([], []), ([5], [5]), ([6], [6]), ([7], [7]), ([], []), ([9], [9]), ([8, 10], [8, 10]), ([11], [11]), ([3, 4, 0, 1, 2, 3, 4, 5, 6, 7, 8, 9, 10, 11, 12], [3, 4]), ([13, 12, 0, 1, 2, 3, 4, 5, 6, 7, 8, 9, 10, 11, 12], [12, 13])])) (B := [0, 1, 3, 7, 0, 0, 32, 96, 224, 0, 512, 2016, 4064, 8191, 16383]) (by kernel_rfl) (by kernel_rfl) (fun HT_ HW_ => ?_)
        refine pK 0 29 (mK 15 1) rfl rfl HT_ ?_
        refine pK 1 30 (mK 15 3) rfl rfl HT_ ?_
        refine pK 2 31 (mK 15 7) rfl rfl HT_ ?_
        refine pK 4 33 (mK 15 23) rfl rfl HT_ ?_
        refine pK 5 34 (mK 15 55) rfl rfl HT_ ?_
        refine pK 6 35 (mK 15 119) rfl rfl HT_ ?_
        refine pK 7 36 (mK 15 247) rfl rfl HT_ ?_
        refine pK 9 38 (mK 15 759) rfl rfl HT_ ?_
        refine pK 10 39 (mK 15 1783) rfl rfl HT_ ?_
        refine take_ (i := 3) (N := some 32) (v := ?_) (a' := ?_) (mK 15 1791) rfl rfl (take_ofW HT_.out HW_.out (by kernel_rfl)) (fun _ _ _ h => h) (Or.inl ⟨by rfl, ?_⟩) hHeld ?_ ?_
        rotate_left; focus (rintro w' ⟨s0, s1, s2⟩; go_simp; with_reducible rfl; done)
        rotate_left; focus (first | (simp only [Act.put, List.setIfInBounds_toArray, List.set_cons_zero, List.set_cons_succ, i64_w, i32_w]; rfl; done) | (rfl; done))
        refine take_ (i := 8) (N := some 37) (v := ?_) (a' := ?_) (mK 15 2047) rfl rfl (take_ofW HT_.out HW_.out (by kernel_rfl)) (fun _ _ _ h => h) (Or.inl ⟨by rfl, ?_⟩) hHeld ?_ ?_
        rotate_left; focus (rintro w' ⟨s0, s1, s2⟩; go_simp; with_reducible rfl; done)
        rotate_left; focus (first | (simp only [Act.put, List.setIfInBounds_toArray, List.set_cons_zero, List.set_cons_succ, i64_w, i32_w]; rfl; done) | (rfl; done))
        refine pK 11 40 (mK 15 4095) rfl rfl HT_ ?_
        refine take_ (i := 12) (N := some 41) (v := ?_) (a' := ?_) (mK 15 8191) rfl rfl (take_ofW HT_.out HW_.out (by kernel_rfl)) (fun _ _ _ h => h) (Or.inl ⟨by rfl, ?_⟩) hHeld ?_ ?_
        rotate_left; focus (rintro w' ⟨s0, s1, s2⟩; go_simp; with_reducible rfl; done)
        rotate_left; focus (first | (simp only [Act.put, List.setIfInBounds_toArray, List.set_cons_zero, List.set_cons_succ, i64_w, i32_w]; rfl; done) | (rfl; done))
        refine pK 13 42 (mK 15 16383) rfl rfl HT_ ?_
        refine last_ (i := 14) (N := none) (mK 15 32767) rfl rfl (one_of HT_.out (by kernel_rfl)) (by decide) (fun K hK => ?_)
        focus
         go_simp
         (skip)
         refine hK.out _ _ ?_
         clear hK K
         refine done_ (done_of HT_.out (by kernel_rfl)) ?_
        all_goals
          go_wp2
          go_roundg (gk - 1)
          case measure => have := h1.out; omega
          case rel => exact ⟨q + 1, by simp, ⟨by have := h1.out; omega⟩, ⟨HN.out.1, HN.out.2.1, HN.out.2.2.drew⟩⟩
      · have d1 : decide ((q : Int) + 1 < (n : Int)) = false := decide_eq_false (by omega)
        have d2 : decide (q + 1 < n) = false := decide_eq_false hq
        have hqn : n = q + 1 := by omega
        subst hqn
        have e0 : (E.take q ++ l.drop q).take q = E := by
          rw [List.take_append_of_le_length (by rw [List.length_take]; omega), List.take_take, Nat.min_self, List.take_of_length_le (by omega)]
        have hcut := RowP.cut h2.out.2.1 rfl (q := q) (by rw [hlen]; omega)
        rw [e0] at hcut
        have hrb := h2.out.1
        have fr0 := blk_frozen hrb 1
        have HF := Aside0.mk (And.intro hcut (And.intro hrb (And.intro h2.out.2.2 (And.intro hi9.2.2.1 hi9.2.2.2.2.1))))
        have w1 : wrap64 ((q : Int) + 1) = (q : Int) + 1 := (w64j qb).trans (Int.natCast_succ q)
        have w2 : wrap64 (q : Int) = (q : Int) := wnat qb
        have w1' : IntKind.i64.wrap ((q : Int) + 1) = (q : Int) + 1 := by rw [i64w]; exact w1
        have hcc : q + 1 ≤ c := by
          obtain ⟨_, _, h8, h9, _⟩ := RowC.shape h2.out.2.1
          simp only [Value.slice.injEq] at h8
          rw [hlen] at h9
          omega
        clear hi9 h19 hn9 hlen e0 hcut hrb qb hq
        have w3 : wrap64 ((q : Int) + 1 - 1) = (q : Int) := by rw [show (q : Int) + 1 - 1 = (q : Int) by omega]; exact w2
        have w4 : (q : Int) ≤ (c : Int) := by omega
        go_upto_region 7 with fail
        refine start_ (n := 15) (S := fun w' => w'.cell? ⟨rb, 1, none⟩ = some (.slice (some ⟨g, 0, none⟩) (q + 1) c)) (ds := [14]) (mK 15 0) (by kernel_rfl) rfl rfl c2 (fun hHeld => ?_)
        refine with_tabW (T := (true, [([], []), ([], []), ([1], [1]), ([2], [2]), ([3], [3]), ([], []), ([5], [5]), ([6], [6]), ([7], [7]), ([8], [8]), ([9], [9]), ([4, 10], [4, 10]), ([0, 0, 1, 2, 3, 4, 5, 6, 7, 8, 9, 10, 11], [0]), ([12, 0, 1, 2, 3, 4, 5, 6, 7, 8, 9, 10, 11], [12]), ([13, 11, 0, 1, 2, 3, 4, 5, 6, 7, 8, 9, 10, 11], [11, 13])])) (B := [0, 0, 2, 6, 14, 0, 32, 96, 224, 480, 992, 2046, 4095, 8191, 16383]) (by kernel_rfl) (by kernel_rfl) (fun HT_ HW_ => ?_)
        refine pK 0 43 (mK 15 1) rfl rfl HT_ ?_
        refine pK 1 44 (mK 15 3) rfl rfl HT_ ?_
        refine pK 2 45 (mK 15 7) rfl rfl HT_ ?_
        refine pK 3 46 (mK 15 15) rfl rfl HT_ ?_
        refine pK 5 48 (mK 15 47) rfl rfl HT_ ?_
        refine pK 6 49 (mK 15 111) rfl rfl HT_ ?_
        refine pK 7 50 (mK 15 239) rfl rfl HT_ ?_
        refine take_ (i := 4) (N := some 47) (v := ?_) (a' := ?_) (mK 15 255) rfl rfl (take_ofW HT_.out HW_.out (by kernel_rfl)) (fun _ _ _ h => h) (Or.inl ⟨by rfl, ?_⟩) hHeld ?_ ?_
        rotate_left; focus (rintro w' s0; go_simp; with_reducible rfl; done)
        rotate_left; focus (first | (simp only [Act.put, List.setIfInBounds_toArray, List.set_cons_zero, List.set_cons_succ, i64_w, i32_w]; rfl; done) | (rfl; done))
        refine take_ (i := 8) (N := some 51) (v := ?_) (a' := ?_) (mK 15 511) rfl rfl (take_ofW HT_.out HW_.out (by kernel_rfl)) (fun _ _ _ h => h) (Or.inl ⟨by rfl, ?_⟩) hHeld ?_ ?_
        rotate_left; focus (rintro w' s0; go_simp; with_reducible rfl; done)
        rotate_left; focus (first | (simp only [Act.put, List.setIfInBounds_toArray, List.set_cons_zero, List.set_cons_succ, i64_w, i32_w]; rfl; done) | (rfl; done))
        refine pK 9 52 (mK 15 1023) rfl rfl HT_ ?_
        refine pK 10 53 (mK 15 2047) rfl rfl HT_ ?_
        refine pK 11 54 (mK 15 4095) rfl rfl HT_ ?_
        refine pK 12 55 (mK 15 8191) rfl rfl HT_ ?_
        refine pK 13 56 (mK 15 16383) rfl rfl HT_ ?_
        refine last_ (i := 14) (N := none) (mK 15 32767) rfl rfl (one_of HT_.out (by kernel_rfl)) (by decide) (fun K hK => ?_)
        focus
         go_simp
         (skip)
         refine hK.out _ _ ?_
         clear hK K
         refine done_ (done_of HT_.out (by kernel_rfl)) ?_
        all_goals
          go_wp2
          go_ret2
          refine ⟨rfl, ?_⟩
          rw [HF.out.2.2.2.2]
          have hfr : Fr [rb] wr (wr.setCell ⟨rb, 1, none⟩ (.slice (some ⟨g, 0, none⟩) q c)) := (Fr.refl _ _).setCell (p := ⟨rb, 1, none⟩) (.inl (by simp)) _
          have hEq : E.length = q := by have := HI.out.2.2.2.1; omega
          have hc9 : RowP wr (.slice (some ⟨g, 0, none⟩) q c) E := HF.out.1
          have hc8 : RowP (wr.setCell ⟨rb, 1, none⟩ (.slice (some ⟨g, 0, none⟩) q c)) (.slice (some ⟨g, 0, none⟩) q c) E := RowC.fr hc9 hfr (fun y hy hx => HF.out.2.2.2.1 (by simp only [List.mem_singleton] at hx; simp [Value.ownBlock] at hy; rw [← hx, hy]))
          refine ⟨rb :: [g], ⟨.slice (some ⟨g, 0, none⟩) q c, blk_put HF.out.2.1 1 _ rfl, hc8, rfl, by simpa [Value.ownBlock] using HF.out.2.2.2.1⟩, (HF.out.2.2.1.trans hfr (fun x hx => .inl (by simp only [List.mem_singleton] at hx; rw [hx]; simp))).drew, fun x hx => .inl (by simpa [Value.ownBlock] using hx)⟩
end Go.Proofs.YtmomohljnmopfaaX
end
