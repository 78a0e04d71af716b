/- Several texts in one: VF, VG, VH, VI, VJ, VK, VL, VM, VO, VP, VQ, WD; no conditions beyond those in each theorem's head. -/
import Derived.Test.YtmomohljnmopfaaMD
import Derived.OrdersIn
import Derived.OwnWalkIn
import Derived.RangeFuncNested
import Derived.RangeFuncLeaves
import Derived.RangeFuncBound
import Derived.RangeFuncCalls
import Derived.WalkKit
import Derived.TacticsInMore
import Derived.LoopNIn
import Derived.LoopIn
import Derived.RegionIn
import Derived.BigRegionIn
import Derived.Stop.RegionWithIn
import Derived.Laws.Cover1
import Derived.Control
section
namespace Go.Proofs.YtmomohljnmopfaaX
open Go.RowKit Go.Lib Go.Proofs.YtmomohljnmopfaaW.PrintWords Go.Proofs.YtmomohljnmopfaaW.PrintLast Go.Proofs.YtmomohljnmopfaaW.PrintMore
set_option linter.unusedVariables false
set_option linter.unusedSimpArgs false
/-- How many keys or kids each node of a level has, and of all below. -/
def levF : (h : Nat) → List (T h) → List (List Nat)
  | 0, cs => [cs.map (sizeT 0)]
  | h + 1, cs => cs.map (sizeT (h + 1)) :: levF h (List.flatMap (fun c : List Nm × List (T h) => c.2) cs)
theorem flat_pos {m : Nat} (hm : 4 ≤ m) : ∀ {h : Nat} {t : T h} {lo hi : Option Nm}, Ok m h t lo hi → 1 ≤ sizeT h t → 1 ≤ (flat h t).length
  | 0, t, lo, hi, _, h => h
  | h + 1, (ks, cs), lo, hi, hk, _ => by
    have hL : OkL (Kid m h) ks cs lo hi := hk.2
    have hl := okL_len hL
    match cs, hl, hL with
    | c :: cs, hl, hL =>
      obtain ⟨lo9, hi9, h9⟩ := okL_all hL c (by simp)
      have := flat_pos hm h9.1 (by have := h9.2.1; omega)
      show 1 ≤ (flats (c :: cs)).length
      rw [flats_cons, List.length_append]; omega
    | [], hl, _ => simp at hl
theorem height_kid {m : Nat} (hm : 4 ≤ m) : ∀ {h : Nat} {t : T h} {lo hi : Option Nm}, Ok m h t lo hi → 2 ≤ sizeT h t → h + 1 ≤ (flat h t).length
  | 0, t, lo, hi, _, h => Nat.le_trans (by omega) h
  | h + 1, (ks, cs), lo, hi, hk, h2 => by
    have hL : OkL (Kid m h) ks cs lo hi := hk.2
    have h2 : 2 ≤ cs.length := h2
    match cs, h2, hL with
    | c :: d :: cs, _, hL =>
      obtain ⟨lo9, hi9, h9⟩ := okL_all hL c (by simp)
      obtain ⟨lo8, hi8, h8⟩ := okL_all hL d (by simp)
      have := height_kid hm h9.1 (by have := h9.2.1; omega)
      have := height_kid hm h8.1 (by have := h8.2.1; omega)
      show h + 1 + 1 ≤ (flats (c :: d :: cs)).length
      rw [flats_cons, flats_cons, List.length_append, List.length_append]; omega
    | [c], h2, _ => simp at h2
    | [], h2, _ => simp at h2
theorem height_le {m h : Nat} {t : T h} (hm : 4 ≤ m) (hR : Right m h t) : h ≤ (flat h t).length := by
  cases h with
  | zero => exact Nat.zero_le _
  | succ h => have := height_kid hm hR.1 (hR.2.2 (Nat.succ_pos _)); omega
theorem flats_many {m h : Nat} (hm : 4 ≤ m) : ∀ {cs : List (T h)}, (∀ c ∈ cs, ∃ lo hi, Kid m h c lo hi) → cs.length ≤ (flats cs).length
  | [], _ => Nat.zero_le _
  | c :: cs, hc => by
    obtain ⟨lo, hi, h1⟩ := hc c (by simp)
    have h2 := flat_pos hm h1.1 (by have := h1.2.1; omega)
    have h3 := flats_many hm (cs := cs) (fun d hd => hc d (by simp [hd]))
    rw [flats_cons, List.length_append, List.length_cons]; omega
theorem flats_down {h : Nat} : ∀ {cs : List (T (h + 1))}, flats (List.flatMap (fun c : List Nm × List (T h) => c.2) cs) = flats cs
  | [] => rfl
  | c :: cs => by
    have e := flats_down (cs := cs)
    rw [flats_cons, ← e]
    exact flats_app (h := h) c.2 _
/-- The level below: each a kid as it may be. -/
theorem kids_down {m h : Nat} {cs : List (T (h + 1))} (hc : ∀ c ∈ cs, ∃ lo hi, Ok m (h + 1) c lo hi) : ∀ d ∈ List.flatMap (fun c : List Nm × List (T h) => c.2) cs, ∃ lo hi, Kid m h d lo hi := fun d hd => by
  obtain ⟨c, hcm, hd⟩ := List.mem_flatMap.1 hd
  obtain ⟨lo, hi, hk⟩ := hc c hcm
  have hL : OkL (Kid m h) c.1 c.2 lo hi := hk.2
  exact okL_all hL d hd
/-! ### rows of rows of numbers -/
def encI (n : Nat) : Value := .int .i64 n
def RowsAt (w : World) : List Value → List (List Nat) → List Nat → Prop
  | [], [], S => S = []
  | v :: vs, l :: L, S => ∃ S2, RowV 3 w v (l.map encI) ∧ RowsAt w vs L S2 ∧ S = v.ownBlock.toList ++ S2
  | _, _, _ => False
theorem rowsAt_len {w : World} : ∀ {vs : List Value} {L : List (List Nat)} {S : List Nat}, RowsAt w vs L S → vs.length = L.length
  | [], [], _, _ => rfl
  | v :: vs, l :: L, S, ⟨S2, _, h, _⟩ => by rw [List.length_cons, List.length_cons, rowsAt_len h]
  | [], l :: L, _, h => h.elim
  | v :: vs, [], _, h => h.elim
theorem rowsAt_step {w w' : World} : ∀ {vs : List Value} {L : List (List Nat)} {S : List Nat}, RowsAt w vs L S → (∀ k ∈ S, w'.heap[k]? = w.heap[k]?) → RowsAt w' vs L S
  | [], [], _, h, _ => h
  | v :: vs, l :: L, S, ⟨S2, h1, h2, h3⟩, hb => ⟨S2, h1.step (fun k hk => hb k (by rw [h3]; exact List.mem_append_left _ hk)), rowsAt_step h2 (fun k hk => hb k (by rw [h3]; exact List.mem_append_right _ hk)), h3⟩
  | [], l :: L, _, h, _ => h.elim
  | v :: vs, [], _, h, _ => h.elim
theorem rowsAt_app {w : World} {v : Value} {l : List Nat} (hv : RowV 3 w v (l.map encI)) : ∀ {vs : List Value} {L : List (List Nat)} {S : List Nat}, RowsAt w vs L S → RowsAt w (vs ++ [v]) (L ++ [l]) (S ++ v.ownBlock.toList)
  | [], [], S, h => ⟨[], hv, rfl, by rw [show S = [] from h]; simp⟩
  | u :: vs, k :: L, S, ⟨S2, h1, h2, h3⟩ => ⟨S2 ++ v.ownBlock.toList, h1, rowsAt_app hv h2, by rw [h3, List.append_assoc]⟩
  | [], l :: L, _, h => h.elim
  | v :: vs, [], _, h => h.elim
theorem rowsAt_lt {w : World} : ∀ {vs : List Value} {L : List (List Nat)} {S : List Nat}, RowsAt w vs L S → ∀ k ∈ S, k < w.heap.size
  | [], [], S, h, k, hk => by rw [show S = [] from h] at hk; cases hk
  | v :: vs, l :: L, S, ⟨S2, h1, h2, h3⟩, k, hk => by
    rw [h3] at hk
    rcases List.mem_append.1 hk with hk | hk
    · exact h1.lt k hk
    · exact rowsAt_lt h2 k hk
  | [], l :: L, _, h, _, _ => h.elim
  | v :: vs, [], _, h, _, _ => h.elim
theorem rowsAt_get {w : World} : ∀ {vs : List Value} {L : List (List Nat)} {S : List Nat} {i : Nat} {l : List Nat}, RowsAt w vs L S → L[i]? = some l → ∃ v, vs[i]? = some v ∧ RowV 3 w v (l.map encI) ∧ ∀ k ∈ v.ownBlock.toList, k ∈ S
  | [], [], S, i, l, _, hi => by simp at hi
  | v :: vs, l :: L, S, 0, l', ⟨S2, h1, h2, h3⟩, hi => by cases hi; exact ⟨v, rfl, h1, fun k hk => by rw [h3]; exact List.mem_append_left _ hk⟩
  | v :: vs, l :: L, S, i + 1, l', ⟨S2, h1, h2, h3⟩, hi => by
    obtain ⟨u, g1, g2, g3⟩ := rowsAt_get (i := i) h2 (by simpa using hi)
    exact ⟨u, by simpa using g1, g2, fun k hk => by rw [h3]; exact List.mem_append_right _ (g3 k hk)⟩
  | [], l :: L, _, _, _, h, _ => h.elim
  | v :: vs, [], _, _, _, h, _ => h.elim
/-- Rows of rows, all their blocks apart. -/
def RowsI (base : Nat) (w : World) (v : Value) (L : List (List Nat)) : Prop := ∃ vs S, RowV 43 w v vs ∧ RowsAt w vs L S ∧ (v.ownBlock.toList ++ S).Nodup ∧ ∀ k ∈ v.ownBlock.toList ++ S, base ≤ k
/-- A node's row of kids. -/
def KidsOf (w : World) (b : Nat) (B : List Nat) : Prop := ∃ x y A c, w.heap[b]? = some (.cells #[x, y, .slice A B.length c] 74 (0, 0)) ∧ SrcV w A (B.map encP)
/-- A level's nodes, and the rows of their kids. -/
theorem level_split {w : World} : ∀ {h : Nat} {bs : List Nat} {cs : List (T h)} {S : List Nat}, KidsAt (NodeAt h w) bs cs S →
    ∃ Bs : List (List Nat), (∀ (i b : Nat), bs[i]? = some b → ∃ (c : T h) (B S' : List Nat), cs[i]? = some c ∧ Bs[i]? = some B ∧ NodeAt h w b c S' ∧ (∀ w', (∀ k ∈ S', w'.heap[k]? = w.heap[k]?) → KidsOf w' b B) ∧ b ∈ S ∧ ∀ k ∈ S', k ∈ S) ∧ Bs.length = bs.length ∧
      (h = 0 → Bs.flatten = []) ∧ ∀ g (e : h = g + 1), ∃ S', KidsAt (NodeAt g w) Bs.flatten (List.flatMap (fun c : List Nm × List (T g) => c.2) (e ▸ cs : List (T (g + 1)))) S' ∧ ∀ k ∈ S', k ∈ S
  | h, [], [], S, hk => ⟨[], fun i b hb => by simp at hb, rfl, fun _ => rfl, fun g e => by subst e; exact ⟨[], rfl, fun k hk => by cases hk⟩⟩
  | 0, b :: bs, c :: cs, S, ⟨S1, S2, h1, h2, h3⟩ => by
    obtain ⟨Bs, g1, g2, g3, -⟩ := level_split h2
    refine ⟨[] :: Bs, fun i b' hb' => ?_, by rw [List.length_cons, List.length_cons, g2], fun _ => by rw [List.flatten_cons, g3 rfl]; rfl, fun g e => by cases e⟩
    cases i with
    | zero =>
      cases hb'
      have H := h1
      obtain ⟨kv, vv, q1, -⟩ := h1
      refine ⟨c, [], S1, rfl, rfl, H, (fun w' hw => ⟨kv, vv, none, 0, (hw b (node_own H)).trans q1, fun hne => absurd rfl hne⟩), by rw [h3]; exact List.mem_append_left _ (node_own H), fun k hk => by rw [h3]; exact List.mem_append_left _ hk⟩
    | succ i =>
      obtain ⟨c', B, S', q1, q2, q3, q4, q5, q6⟩ := g1 i b' (by simpa using hb')
      exact ⟨c', B, S', by simpa using q1, by simpa using q2, q3, q4, by rw [h3]; exact List.mem_append_right _ q5, fun k hk => by rw [h3]; exact List.mem_append_right _ (q6 k hk)⟩
  | h + 1, b :: bs, c :: cs, S, ⟨S1, S2, h1, h2, h3⟩ => by
    obtain ⟨Bs, g1, g2, -, g4⟩ := level_split h2
    have H := h1
    obtain ⟨kv, cv, B, SB, q1, q2, q3, q4, q5, q6, -⟩ := h1
    obtain ⟨A, cap, rfl, -, -⟩ := q3.shape
    rw [List.length_map] at q1
    refine ⟨B :: Bs, fun i b' hb' => ?_, by rw [List.length_cons, List.length_cons, g2], (fun e => by cases e), fun g e => ?_⟩
    · cases i with
      | zero =>
        cases hb'
        exact ⟨c, B, S1, rfl, rfl, H, (fun w' hw => ⟨kv, _, A, cap, (hw b (node_own H)).trans q1, (q3.step (fun k hk => hw k (by rw [q6]; simp only [List.mem_cons, List.mem_append]; exact .inr (.inr (.inl hk))))).src rfl⟩), by rw [h3]; exact List.mem_append_left _ (node_own H), fun k hk => by rw [h3]; exact List.mem_append_left _ hk⟩
      | succ i =>
        obtain ⟨c', B', S', r1, r2, r3, r4, r5, r6⟩ := g1 i b' (by simpa using hb')
        exact ⟨c', B', S', by simpa using r1, by simpa using r2, r3, r4, by rw [h3]; exact List.mem_append_right _ r5, fun k hk => by rw [h3]; exact List.mem_append_right _ (r6 k hk)⟩
    · cases e
      obtain ⟨S', r1, r2⟩ := g4 h rfl
      refine ⟨SB ++ S', kids_app q4 r1, fun k hk => ?_⟩
      rw [h3]
      rcases List.mem_append.1 hk with hk | hk
      · exact List.mem_append_left _ (by rw [q6]; simp [hk])
      · exact List.mem_append_right _ (r2 k hk)
  | _, [], c :: cs, _, h => h.elim
  | _, b :: bs, [], _, h => h.elim
theorem flat_len_le {α : Type} : ∀ {Bs : List (List α)} {i : Nat} {B : List α}, Bs[i]? = some B → (Bs.take i).flatten.length + B.length ≤ Bs.flatten.length
  | [], i, B, h => by simp at h
  | A :: Bs, 0, B, h => by cases h; simp
  | A :: Bs, i + 1, B, h => by
    have := flat_len_le (Bs := Bs) (i := i) (by simpa using h)
    simp only [List.take_succ_cons, List.flatten_cons, List.length_append]; omega
theorem take_one {α : Type} {l : List α} {i : Nat} {x : α} (h : l[i]? = some x) : l.take (i + 1) = l.take i ++ [x] := by
  rw [List.take_add_one, h]; rfl
theorem lev_open {m g base : Nat} {w : World} {bs : List Nat} {cs : List (T g)} {S : List Nat} (h4 : 4 ≤ m) (hk : KidsAt (NodeAt g w) bs cs S) (hS : ∀ k ∈ S, k < base) (hOk : ∀ c ∈ cs, ∃ lo hi, Ok m g c lo hi) (hne : bs ≠ []) :
    ∃ Bs : List (List Nat), Bs.length = bs.length ∧ (∀ (i b : Nat), bs[i]? = some b → ∃ (c : T g) (B S' : List Nat), cs[i]? = some c ∧ Bs[i]? = some B ∧ NodeAt g w b c S' ∧ (∀ w', (∀ k ∈ S', w'.heap[k]? = w.heap[k]?) → KidsOf w' b B) ∧ ∀ k ∈ S', k < base) ∧ Bs.flatten.length ≤ (flats cs).length ∧
      ((Bs.flatten = [] ∧ levF g cs = [cs.map (sizeT g)]) ∨ ∃ (g' : Nat) (cs' : List (T g')) (S' : List Nat), g = g' + 1 ∧ Bs.flatten ≠ [] ∧ KidsAt (NodeAt g' w) Bs.flatten cs' S' ∧ (∀ k ∈ S', k < base) ∧ (∀ c ∈ cs', ∃ lo hi, Ok m g' c lo hi) ∧ cs'.length ≤ (flats cs).length ∧ flats cs' = flats cs ∧ levF g cs = cs.map (sizeT g) :: levF g' cs') := by
  obtain ⟨Bs, h1, h2, h3, h5⟩ := level_split hk
  refine ⟨Bs, h2, fun i b hb => ?_, ?_⟩
  · obtain ⟨c, B, S', q1, q2, q3, q4, q5, q6⟩ := h1 i b hb
    exact ⟨c, B, S', q1, q2, q3, q4, fun k hk => hS k (q6 k hk)⟩
  · cases g with
    | zero => exact ⟨by rw [h3 rfl]; exact Nat.zero_le _, .inl ⟨h3 rfl, rfl⟩⟩
    | succ g =>
      obtain ⟨S', q1, q2⟩ := h5 g rfl
      have hK := kids_down (m := m) hOk
      have hl := kids_len q1
      have hmany := flats_many h4 hK
      rw [flats_down] at hmany
      refine ⟨by rw [hl]; exact hmany, .inr ⟨g, _, S', rfl, fun e => ?_, q1, fun k hk => hS k (q2 k hk), fun c hc => by obtain ⟨lo, hi, h9⟩ := hK c hc; exact ⟨lo, hi, h9.1⟩, hmany, flats_down, rfl⟩⟩
      have hcl := kids_len hk
      obtain ⟨c, cs2, rfl⟩ : ∃ c cs2, cs = c :: cs2 := by
        match cs, hcl with
        | c :: cs2, _ => exact ⟨c, cs2, rfl⟩
        | [], h9 => exact absurd (List.eq_nil_of_length_eq_zero h9) hne
      obtain ⟨lo, hi, h9⟩ := hOk c (by simp)
      have h8 : OkL (Kid m g) c.1 c.2 lo hi := h9.2
      have h7 := okL_len h8
      rw [e] at hl
      have h6 : (List.flatMap (fun c : List Nm × List (T g) => c.2) (c :: cs2)).length = c.2.length + (List.flatMap (fun c : List Nm × List (T g) => c.2) cs2).length := List.length_append
      have h10 : (List.flatMap (fun c : List Nm × List (T g) => c.2) (c :: cs2)).length = 0 := hl.symm
      omega
end Go.Proofs.YtmomohljnmopfaaX
end
section
namespace Go.Proofs.YtmomohljnmopfaaX
open Go.RowKit Go.Lib Go.Proofs.YtmomohljnmopfaaW.PrintWords Go.Proofs.YtmomohljnmopfaaW.PrintLast Go.Proofs.YtmomohljnmopfaaW.PrintMore
set_option linter.unusedVariables false
set_option linter.unusedSimpArgs false
attribute [local go_sem high] eqlNil71 eqlNil72
/-- The rows that Levels has at hand. -/
structure LV (base : Nat) (w : World) (v3 : Value) (L : List (List Nat)) (v4 : Value) (bs : List Nat) (v5 : Value) (sz : List Nat) (v6 : Value) (bl : List Nat) : Prop where
  all : ∃ vs S, RowV 43 w v3 vs ∧ RowsAt w vs L S ∧ RowV 70 w v4 (bs.map encP) ∧ RowV 3 w v5 (sz.map encI) ∧ RowV 70 w v6 (bl.map encP) ∧
    (v3.ownBlock.toList ++ (S ++ (v4.ownBlock.toList ++ (v5.ownBlock.toList ++ v6.ownBlock.toList)))).Nodup ∧ ∀ k ∈ v3.ownBlock.toList ++ (S ++ (v4.ownBlock.toList ++ (v5.ownBlock.toList ++ v6.ownBlock.toList))), base ≤ k
section
variable {base : Nat} {w w' : World} {v3 v4 v5 v6 : Value} {L : List (List Nat)} {bs sz bl : List Nat}
theorem LV.below (h : LV base w v3 L v4 bs v5 sz v6 bl) (hb : Below w.heap.size w w') : LV base w' v3 L v4 bs v5 sz v6 bl := by
  obtain ⟨vs, S, h1, h2, h3, h4, h5, h6, h7⟩ := h.all
  exact ⟨vs, S, h1.below hb, rowsAt_step h2 (fun k hk => hb.block k (rowsAt_lt h2 k hk)), h3.below hb, h4.below hb, h5.below hb, h6, h7⟩
theorem fresh_own {e : TypeId} {v v' : Value} {xs' : List Value} (t : Turn e w w' v v' xs') : ∀ k ∈ v'.ownBlock.toList, k ∈ v.ownBlock.toList ∨ w.heap.size ≤ k := t.sub (Nat.le_refl _)
theorem LV.turn5 (h : LV base w v3 L v4 bs v5 sz v6 bl) (hB : base ≤ w.heap.size) {v5' : Value} {sz' : List Nat} (t : Turn 3 w w' v5 v5' (sz'.map encI)) : LV base w' v3 L v4 bs v5' sz' v6 bl := by
  obtain ⟨vs, S, h1, h2, h3, h4, h5, h6, h7⟩ := h.all
  have e1 : v3.ownBlock.toList ++ (S ++ (v4.ownBlock.toList ++ (v5.ownBlock.toList ++ v6.ownBlock.toList))) = (v3.ownBlock.toList ++ (S ++ v4.ownBlock.toList)) ++ (v5.ownBlock.toList ++ v6.ownBlock.toList) := by simp only [List.append_assoc]
  have e2 : v3.ownBlock.toList ++ (S ++ (v4.ownBlock.toList ++ (v5'.ownBlock.toList ++ v6.ownBlock.toList))) = (v3.ownBlock.toList ++ (S ++ v4.ownBlock.toList)) ++ (v5'.ownBlock.toList ++ v6.ownBlock.toList) := by simp only [List.append_assoc]
  rw [e1] at h6 h7
  have lt1 : ∀ k ∈ v3.ownBlock.toList ++ (S ++ v4.ownBlock.toList), k < w.heap.size := fun k hk => by
    rcases List.mem_append.1 hk with hk | hk
    · exact h1.lt k hk
    · rcases List.mem_append.1 hk with hk | hk
      · exact rowsAt_lt h2 k hk
      · exact h3.lt k hk
  have hn := nodup_swap (B := w.heap.size) h6 (own_nodup v5') (fresh_own t) lt1 h5.lt
  obtain ⟨n1, n2, n3⟩ := List.nodup_append.1 h6
  have keep : ∀ k, k < w.heap.size → k ∉ v5.ownBlock.toList → w'.heap[k]? = w.heap[k]? := fun k hk hx => t.2.1.block k hk (fun e => hx (by rw [← e]; simp))
  refine ⟨vs, S, h1.step (fun k hk => keep k (h1.lt k hk) (fun hx => n3 k (List.mem_append_left _ hk) k (List.mem_append_left _ hx) rfl)), rowsAt_step h2 (fun k hk => keep k (rowsAt_lt h2 k hk) (fun hx => n3 k (List.mem_append_right _ (List.mem_append_left _ hk)) k (List.mem_append_left _ hx) rfl)),
    h3.step (fun k hk => keep k (h3.lt k hk) (fun hx => n3 k (List.mem_append_right _ (List.mem_append_right _ hk)) k (List.mem_append_left _ hx) rfl)), t.1, h5.step (fun k hk => keep k (h5.lt k hk) (fun hx => (List.nodup_append.1 n2).2.2 k hx k hk rfl)), by rw [e2]; exact hn, fun k hk => ?_⟩
  rw [e2] at hk
  rcases List.mem_append.1 hk with hk | hk
  · exact h7 k (List.mem_append_left _ hk)
  · rcases List.mem_append.1 hk with hk | hk
    · rcases fresh_own t k hk with h9 | h9
      · exact h7 k (List.mem_append_right _ (List.mem_append_left _ h9))
      · omega
    · exact h7 k (List.mem_append_right _ (List.mem_append_right _ hk))
theorem LV.turn6 (h : LV base w v3 L v4 bs v5 sz v6 bl) (hB : base ≤ w.heap.size) {v6' : Value} {bl' : List Nat} (t : Turn 70 w w' v6 v6' (bl'.map encP)) : LV base w' v3 L v4 bs v5 sz v6' bl' := by
  obtain ⟨vs, S, h1, h2, h3, h4, h5, h6, h7⟩ := h.all
  have e1 : v3.ownBlock.toList ++ (S ++ (v4.ownBlock.toList ++ (v5.ownBlock.toList ++ v6.ownBlock.toList))) = (v3.ownBlock.toList ++ (S ++ (v4.ownBlock.toList ++ v5.ownBlock.toList))) ++ (v6.ownBlock.toList ++ []) := by simp only [List.append_assoc, List.append_nil]
  have e2 : v3.ownBlock.toList ++ (S ++ (v4.ownBlock.toList ++ (v5.ownBlock.toList ++ v6'.ownBlock.toList))) = (v3.ownBlock.toList ++ (S ++ (v4.ownBlock.toList ++ v5.ownBlock.toList))) ++ (v6'.ownBlock.toList ++ []) := by simp only [List.append_assoc, List.append_nil]
  rw [e1] at h6 h7
  have lt1 : ∀ k ∈ v3.ownBlock.toList ++ (S ++ (v4.ownBlock.toList ++ v5.ownBlock.toList)), k < w.heap.size := fun k hk => by
    rcases List.mem_append.1 hk with hk | hk
    · exact h1.lt k hk
    · rcases List.mem_append.1 hk with hk | hk
      · exact rowsAt_lt h2 k hk
      · rcases List.mem_append.1 hk with hk | hk
        · exact h3.lt k hk
        · exact h4.lt k hk
  have hn := nodup_swap (B := w.heap.size) h6 (own_nodup v6') (fresh_own t) lt1 (fun k hk => by cases hk)
  obtain ⟨n1, n2, n3⟩ := List.nodup_append.1 h6
  have keep : ∀ k, k < w.heap.size → k ∉ v6.ownBlock.toList → w'.heap[k]? = w.heap[k]? := fun k hk hx => t.2.1.block k hk (fun e => hx (by rw [← e]; simp))
  refine ⟨vs, S, h1.step (fun k hk => keep k (h1.lt k hk) (fun hx => n3 k (List.mem_append_left _ hk) k (List.mem_append_left _ hx) rfl)), rowsAt_step h2 (fun k hk => keep k (rowsAt_lt h2 k hk) (fun hx => n3 k (List.mem_append_right _ (List.mem_append_left _ hk)) k (List.mem_append_left _ hx) rfl)),
    h3.step (fun k hk => keep k (h3.lt k hk) (fun hx => n3 k (List.mem_append_right _ (List.mem_append_right _ (List.mem_append_left _ hk))) k (List.mem_append_left _ hx) rfl)), h4.step (fun k hk => keep k (h4.lt k hk) (fun hx => n3 k (List.mem_append_right _ (List.mem_append_right _ (List.mem_append_right _ hk))) k (List.mem_append_left _ hx) rfl)), t.1, by rw [e2]; exact hn, fun k hk => ?_⟩
  rw [e2] at hk
  rcases List.mem_append.1 hk with hk | hk
  · exact h7 k (List.mem_append_left _ hk)
  · rw [List.append_nil] at hk
    rcases fresh_own t k hk with h9 | h9
    · exact h7 k (List.mem_append_right _ (List.mem_append_left _ h9))
    · omega
/-- A level's sizes are told; the next level. -/
theorem LV.push (h : LV base w v3 L v4 bs v5 sz v6 bl) (hB : base ≤ w.heap.size) {v3' : Value} (ht : ∀ vs, RowV 43 w v3 vs → Turn 43 w w' v3 v3' (vs ++ [v5])) : LV base w' v3' (L ++ [sz]) v6 bl (.slice none 0 0) [] (.slice none 0 0) [] := by
  obtain ⟨vs, S, h1, h2, h3, h4, h5, h6, h7⟩ := h.all
  have t := ht vs h1
  have hsub : (v3.ownBlock.toList ++ (S ++ (v5.ownBlock.toList ++ v6.ownBlock.toList))).Sublist (v3.ownBlock.toList ++ (S ++ (v4.ownBlock.toList ++ (v5.ownBlock.toList ++ v6.ownBlock.toList)))) := List.Sublist.append_left (List.Sublist.append_left (List.sublist_append_right _ _) _) _
  have h6' : ([] ++ (v3.ownBlock.toList ++ (S ++ (v5.ownBlock.toList ++ v6.ownBlock.toList)))).Nodup := List.Pairwise.sublist hsub h6
  have ltR : ∀ k ∈ S ++ (v5.ownBlock.toList ++ v6.ownBlock.toList), k < w.heap.size := fun k hk => by
    rcases List.mem_append.1 hk with hk | hk
    · exact rowsAt_lt h2 k hk
    · rcases List.mem_append.1 hk with hk | hk
      · exact h4.lt k hk
      · exact h5.lt k hk
  have hn := nodup_swap (B := w.heap.size) h6' (own_nodup v3') (fresh_own t) (fun k hk => by cases hk) ltR
  obtain ⟨n1, n2, n3⟩ := List.nodup_append.1 h6'
  obtain ⟨n4, n5, n6⟩ := List.nodup_append.1 n2
  have keep : ∀ k, k ∈ S ++ (v5.ownBlock.toList ++ v6.ownBlock.toList) → w'.heap[k]? = w.heap[k]? := fun k hk => t.2.1.block k (ltR k hk) (fun e => n6 k (by rw [← e]; simp) k hk rfl)
  refine ⟨vs ++ [v5], S ++ v5.ownBlock.toList, t.1, rowsAt_app (h4.step (fun k hk => keep k (List.mem_append_right _ (List.mem_append_left _ hk)))) (rowsAt_step h2 (fun k hk => keep k (List.mem_append_left _ hk))), h5.step (fun k hk => keep k (List.mem_append_right _ (List.mem_append_right _ hk))), RowV.nil 3 w', RowV.nil 70 w', ?_, fun k hk => ?_⟩
  · simpa [Value.ownBlock, List.append_assoc] using hn
  · have hk' : k ∈ v3'.ownBlock.toList ++ (S ++ (v5.ownBlock.toList ++ v6.ownBlock.toList)) := by simpa [Value.ownBlock, List.append_assoc] using hk
    rcases List.mem_append.1 hk' with hk | hk
    · rcases fresh_own t k hk with h9 | h9
      · exact h7 k (List.mem_append_left _ h9)
      · omega
    · exact h7 k (hsub.subset (List.mem_append_right _ hk))
end
theorem rowV_inj {e : TypeId} {w : World} {v : Value} {xs ys : List Value} (h : RowV e w v xs) (k : RowV e w v ys) : xs = ys := by
  rcases h with ⟨h1, rfl⟩ | ⟨g, cap, cur, h1, hg, _, _, _, h2, _⟩
  · rcases k with ⟨_, rfl⟩ | ⟨g', cap', cur', k1, _⟩
    · rfl
    · rw [h1] at k1; cases k1
  · rcases k with ⟨k1, rfl⟩ | ⟨g', cap', cur', k1, kg, _, _, _, k2, _⟩
    · rw [h1] at k1; cases k1
    · rw [h1] at k1
      simp only [Value.slice.injEq, Option.some.injEq, Addr.mk.injEq] at k1
      obtain ⟨⟨rfl, -⟩, h3, -⟩ := k1
      rw [hg] at kg
      simp only [Option.some.injEq, Obj.cells.injEq] at kg
      rw [← h2, ← k2, kg.1, h3]
theorem LV.step5 {base : Nat} {w0 w w' : World} {v3 v4 v5 v6 v5' : Value} {L : List (List Nat)} {bs sz sz' bl : List Nat} (h : LV base w v3 L v4 bs v5 sz v6 bl) (hb : Below base w0 w) (hB : base ≤ w.heap.size) (t : Turn 3 w w' v5 v5' (sz'.map encI)) : LV base w' v3 L v4 bs v5' sz' v6 bl ∧ Below base w0 w' := by
  refine ⟨h.turn5 hB t, hb.grown t.2.1 hB (fun k hk => ?_)⟩
  obtain ⟨vs, S, -, -, -, -, -, -, h7⟩ := h.all
  exact h7 k (by simp only [List.mem_append]; exact .inr (.inr (.inr (.inl (by rw [hk]; simp)))))
theorem LV.step6 {base : Nat} {w0 w w' : World} {v3 v4 v5 v6 v6' : Value} {L : List (List Nat)} {bs sz bl bl' : List Nat} (h : LV base w v3 L v4 bs v5 sz v6 bl) (hb : Below base w0 w) (hB : base ≤ w.heap.size) (t : Turn 70 w w' v6 v6' (bl'.map encP)) : LV base w' v3 L v4 bs v5 sz v6' bl' ∧ Below base w0 w' := by
  refine ⟨h.turn6 hB t, hb.grown t.2.1 hB (fun k hk => ?_)⟩
  obtain ⟨vs, S, -, -, -, -, -, -, h7⟩ := h.all
  exact h7 k (by simp only [List.mem_append]; exact .inr (.inr (.inr (.inr (by rw [hk]; simp)))))
theorem LV.step3 {base : Nat} {w0 w w' : World} {v3 v4 v5 v6 v3' : Value} {L : List (List Nat)} {bs sz bl : List Nat} (h : LV base w v3 L v4 bs v5 sz v6 bl) (hb : Below base w0 w) (hB : base ≤ w.heap.size) (ht : ∀ vs, RowV 43 w v3 vs → vs.length = L.length → Turn 43 w w' v3 v3' (vs ++ [v5])) : LV base w' v3' (L ++ [sz]) v6 bl (.slice none 0 0) [] (.slice none 0 0) [] ∧ Below base w0 w' := by
  obtain ⟨vs, S, h1, h2, -, -, -, -, h7⟩ := h.all
  have t := ht vs h1 (rowsAt_len h2)
  refine ⟨h.push hB (fun vs' h1' => ?_), hb.grown t.2.1 hB (fun k hk => h7 k (List.mem_append_left _ (by rw [hk]; simp)))⟩
  have e : vs' = vs := rowV_inj h1' h1
  rw [e]; exact t
section
variable {P : Program} {ops : Array Oper} {rest : List Oper} {o : Oper} {a : Act} {Q : Exit → Act → World → Prop} {e : TypeId} {w : World} {v : Value} {xs ys : List Value}
theorem wp_rowv_append2 (hgd : o.guard = none) (sl x : Operand) (t : TypeId) (ho : o.op = .call { callee := .builtin .append, args := #[sl, x], argTypes := #[t, t] }) (h : RowV e w v xs)
    (ht : P.underlying t = some (.slice e)) {z : Value} {bytes : Nat} (hinfo : (P.info? e).map (fun i => (i.zero, i.size, i.bytes)) = some (some z, 1, bytes)) (hz1 : z.cells.size = 1) (hb0 : 0 < bytes)
    {A : Option Addr} {c n : Nat} (hn : n = ys.length) (hsrc : SrcV w A ys) (h1 : ∀ u ∈ ys, u.oneCell' = true) (hs : a.eval sl = v) (hx : a.eval x = .slice A n c) (hl : (xs.length + ys.length) * bytes ≤ 140737488355328)
    (hK : ∀ v' w', Turn e w w' v v' (xs ++ ys) → wpList P ops Q rest (a.put o.dst v') w') : wpList P ops Q (o :: rest) a w := by
  subst hn
  exact wp_rowv_append hgd sl x t ho h ht hinfo hz1 hb0 hsrc h1 hs hx hl (fun v' w' q1 q2 q3 => hK v' w' ⟨q1, q2, q3⟩)
end
theorem LV.rows {base : Nat} {w : World} {v3 v4 v5 v6 : Value} {L : List (List Nat)} {bs sz bl : List Nat} (h : LV base w v3 L v4 bs v5 sz v6 bl) : RowsI base w v3 L := by
  obtain ⟨vs, S, h1, h2, h3, h4, h5, h6, h7⟩ := h.all
  rw [← List.append_assoc] at h6 h7
  exact ⟨vs, S, h1, h2, (List.nodup_append.1 h6).1, fun k hk => h7 k (List.mem_append_left _ hk)⟩
theorem infoI : (Try.prog.info? 3).map (fun i => (i.zero, i.size, i.bytes)) = some (some (.int .i64 0), 1, 8) := by kernel_rfl
theorem infoL : (Try.prog.info? 43).map (fun i => (i.zero, i.size, i.bytes)) = some (some (.slice none 0 0), 1, 24) := by kernel_rfl
end Go.Proofs.YtmomohljnmopfaaX
end
section
namespace Go.Proofs.YtmomohljnmopfaaX
open Go.RowKit Go.Lib Go.Proofs.YtmomohljnmopfaaW.PrintWords Go.Proofs.YtmomohljnmopfaaW.PrintLast Go.Proofs.YtmomohljnmopfaaW.PrintMore
set_option linter.unusedVariables false
set_option linter.unusedSimpArgs false
attribute [local go_sem high] eqlNil71 eqlNil72
theorem src_one {w : World} {vb : Nat} {u : Value} {e : TypeId} (h : w.heap[vb]? = some (.cells #[u] e (0, 0))) : SrcV w (some ⟨vb, 0, none⟩) [u] := fun _ => ⟨_, rfl, fun j q hj => by
  cases j with
  | zero => simp at hj; subst hj; rw [add_lit0]; exact (blk_cell h 0).trans rfl
  | succ j => simp at hj⟩
/-- Where a round of Levels stands. -/
def LevAt (m base hh : Nat) (w : World) (l : List KV) (full : List (List Nat)) (L : List (List Nat)) (bs : List Nat) (kq : Nat) : Prop :=
  (bs = [] ∧ full = L) ∨ ∃ (g : Nat) (cs : List (T g)) (S : List Nat), kq = g + 1 ∧ bs ≠ [] ∧ KidsAt (NodeAt g w) bs cs S ∧ (∀ k ∈ S, k < base) ∧ (∀ c ∈ cs, ∃ lo hi, Ok m g c lo hi) ∧ cs.length ≤ l.length + 1 ∧ flats cs = l ∧ full = L ++ levF g cs ∧ L.length + kq = hh + 1
set_option maxRecDepth 100000 in
set_option maxHeartbeats 8000000 in
theorem levels_calls {m : Nat} {w : World} {tb h : Nat} {t : T h} {S : List Nat} (h4 : 4 ≤ m) (hT : TreeAt m w tb h t S) (hR : Right m h t) (hl : (flat h t).length ≤ 4294967296) :
    Calls Try.prog 19 #[.pointer (some ⟨tb, 0, none⟩)] w fun e w' => ∃ v, e = .returned v ∧ RowsI w.heap.size w' v (levF h [t]) ∧ Below w.heap.size w w' := by
  obtain ⟨root, S0, hb, hn, rfl, hts⟩ := hT
  obtain ⟨c0, c1, c2⟩ := tree_cells hb
  obtain ⟨base, hbase⟩ : ∃ base, w.heap.size = base := ⟨_, rfl⟩
  obtain ⟨l, hll⟩ : ∃ l, flat h t = l := ⟨_, rfl⟩
  have H0 : LevAt m base h w l (levF h [t]) [] [root] (h + 1) := .inr ⟨h, [t], S0, rfl, by simp, ⟨S0, [], hn, rfl, by simp⟩, fun k hk => by rw [← hbase]; exact node_lt hn k hk, fun c hc => by simp at hc; subst hc; exact ⟨_, _, hR.1⟩, by simp, by rw [← hll]; show flats [t] = _; rw [flats_cons]; simp [flats], rfl, by simp⟩
  have hhl := height_le h4 hR
  rw [hll] at hl hhl
  have HV0 : LV base (w.alloc (.cells #[.pointer (some ⟨root, 0, none⟩)] 70)) (.slice none 0 0) [] (.slice (some ⟨w.heap.size, 0, none⟩) 1 1) [root] (.slice none 0 0) [] (.slice none 0 0) [] := ⟨⟨[], [], RowV.nil 43 _, rfl, .inr ⟨_, 1, _, rfl, blk_new w _, Nat.le_refl _, by simp, by simp [maxLen], rfl, one_encP _⟩, RowV.nil 3 _, RowV.nil 70 _, by simp [Value.ownBlock], fun k hk => by simp [Value.ownBlock] at hk; omega⟩⟩
  have HH := Aside0.mk (And.intro H0 (And.intro hl HV0))
  have HHL := Aside0.mk hhl
  rw [hbase]
  obtain ⟨full, hfull⟩ : ∃ full, levF h [t] = full := ⟨_, rfl⟩
  rw [hfull] at HH ⊢
  have HBS := Aside0.mk hbase
  clear hb hn hts H0 HV0 hl hhl hll hfull c0 c1 hbase
  go_enter Try.func19, Try.ntmps19
  go_wp2
  go_loopg [3, 4] (h + 1) (fun kq v3 v4 wr => ∃ (K : Nat) (V3 V4 : Value) (L : List (List Nat)) (bs : List Nat), K = kq ∧ V3 = v3 ∧ V4 = v4 ∧ Aside0 (LevAt m base h w l full L bs kq) ∧ Aside0 (LV base wr V3 L V4 bs (.slice none 0 0) [] (.slice none 0 0) []) ∧ Aside0 (Below base w wr))
  case atStart => exact ⟨_, _, _, [], [root], rfl, rfl, rfl, ⟨HH.out.1⟩, ⟨HH.out.2.2⟩, ⟨by rw [← HBS.out]; exact below_alloc (Below.refl _ _) _⟩⟩
  case round =>
    obtain ⟨K, V3, V4, L, bs, rfl, rfl, rfl, h1, h2, h3⟩ := hrel
    obtain ⟨vs, SS, r3, rA, r4, r5, r6, -⟩ := h2.out.all
    obtain ⟨A4, c4, rfl, -, -⟩ := r4.shape
    rw [List.length_map]
    obtain ⟨n, hnn⟩ : ∃ n, bs.length = n := ⟨_, rfl⟩
    rw [hnn]
    clear r3 rA r4 r5 r6
    rw [List.length_map, hnn] at h2
    rcases h1.out with ⟨rfl, h9⟩ | ⟨g, cs, S, hkq, hne, hk, hS, hOk, hcl, hfl, hful, hLl⟩
    · obtain rfl : n = 0 := by rw [← hnn]; rfl
      go_wp2
      go_ret
      exact ⟨V3, rfl, by rw [h9]; exact h2.out.rows, h3.out⟩
    · obtain ⟨Bs, hBl, hBs, hBn, hnext⟩ := lev_open h4 hk hS hOk hne
      have hcs : cs.length = n := by rw [← hnn]; exact (kids_len hk).symm
      have hn0 : 0 < n := by rw [← hnn]; exact List.length_pos_iff.2 hne
      have e1 : decide (0 < (n : Int)) = true := decide_eq_true (by omega)
      have e1' : decide (0 < n) = true := decide_eq_true hn0
      have HB := Aside0.mk hBs
      have HN := Aside0.mk (And.intro hnn (And.intro hBl (And.intro hcs (And.intro hcl (And.intro hBn (And.intro hfl (And.intro hkq hLl)))))))
      have HX : Aside0 (LevAt m base h w l full (L ++ [cs.map (sizeT g)]) Bs.flatten (K - 1)) := ⟨by
        rcases hnext with ⟨q1, q2⟩ | ⟨g', cs', S', rfl, q1, q2, q3, q4, q5, q6, q7⟩
        · exact .inl ⟨q1, by rw [hful, q2]⟩
        · exact .inr ⟨g', cs', S', by omega, q1, q2, q3, q4, by rw [hfl] at q5; omega, by rw [q6, hfl], by rw [hful, q7, List.append_assoc]; rfl, by rw [List.length_append, List.length_singleton]; omega⟩⟩
      clear hBs hnn hBl hcs hcl hBn hfl hful hnext hk hS hOk hne h1 hn0 hkq hLl
      go_upto_region 6 with fail
      go_wp2
      go_loopg [5, 6, 19] n (fun kq v5 v6 v19 wr2 => ∃ (i : Nat) (V5 V6 : Value), V5 = v5 ∧ V6 = v6 ∧ v19 = .int .i64 i ∧ Aside0 (i + kq = n) ∧ Aside0 (LV base wr2 V3 L (.slice A4 n c4) bs V5 ((cs.map (sizeT g)).take i) V6 (Bs.take i).flatten) ∧ Aside0 (Below base w wr2))
      case atStart => exact ⟨0, _, _, rfl, rfl, rfl, ⟨by omega⟩, h2, h3⟩
      case round =>
        clear h2 h3
        obtain ⟨i, V5, V6, rfl, rfl, rfl, h1, h2, h3⟩ := hrel
        by_cases hi : i < n
        · obtain ⟨b, hb⟩ : ∃ b, bs[i]? = some b := ⟨_, List.getElem?_eq_getElem (by have := HN.out.1; omega)⟩
          obtain ⟨c, B, S', hc, hB, hnode, hkids, hlt⟩ := HB.out i b hb
          obtain ⟨vs2, SS2, -, -, r4, r5, r6, -⟩ := h2.out.all
          obtain ⟨g9, c9, hv9, z0, -, -⟩ := r4.at (i := i) (u := encP b) (by rw [List.getElem?_map, hb]; rfl)
          simp only [Value.slice.injEq] at hv9
          obtain ⟨rfl, -, -⟩ := hv9
          have keep : ∀ W, Below base w W → ∀ k ∈ S', W.heap[k]? = w.heap[k]? := fun W hW k hk => hW.block k (hlt k hk)
          have cZ := size_calls (node_step (w' := wr) hnode (keep wr h3.out))
          obtain ⟨z, hz⟩ : ∃ z, sizeT g c = z := ⟨_, rfl⟩
          rw [hz] at cZ
          have HT5 : Aside0 ((cs.map (sizeT g)).take (i + 1) = (cs.map (sizeT g)).take i ++ [z]) := ⟨take_one (by rw [List.getElem?_map, hc, ← hz]; rfl)⟩
          have HT6 : Aside0 ((Bs.take (i + 1)).flatten = (Bs.take i).flatten ++ B) := ⟨by rw [take_one hB]; simp⟩
          have hbB := flat_len_le hB
          have HBB := Aside0.mk hbB
          have HK := Aside0.mk hkids
          have HKP := Aside0.mk keep
          have HI := Aside0.mk hi
          have HR := Aside0.mk (And.intro r5 r6)
          have f1 : decide ((i : Int) < (n : Int)) = true := decide_eq_true (by omega)
          have f2 : (i : Int) < (n : Int) := by omega
          have f3 : IntKind.i64.wrap ((i : Int) + 1) = ((i + 1 : Nat) : Int) := by have := HN.out; have := HH.out.2.1; rw [i64_w]; unfold wrap64; omega
          unfold encP at z0
          clear hb hc hB hnode hkids hlt r4 r5 r6 keep hz hbB hi
          go_upto_region 10 with (first
            | (go_at_call 35; refine cZ.mono ?_; clear cZ; rintro e w9 ⟨rfl, h9⟩; obtain rfl := h9.symm)
            | ((with_reducible refine gate_dst (N := 27) rfl ?_); refine wp_rowv_append (xs := ((cs.map (sizeT g)).take i).map encI) (ys := [encI z]) rfl (.tmp 23) (.tmp 26) 43 rfl (RowV.below HR.out.1 (below_alloc (Below.refl _ _) _)) Try.underlying43 infoI rfl (by decide) (A := some ⟨wr.heap.size, 0, none⟩) (c := 1) (src_one (blk_new wr _)) (fun u hu => by simp at hu; rw [hu]; rfl) rfl rfl ?_ ?_; (have := HN.out; have := HH.out.2.1; simp only [List.length_map, List.length_take, List.length_singleton]; omega); intro V5' w2 q1 q2 q3; have T5 := Aside0.mk (show Turn 3 (wr.alloc (.cells #[encI z] 3)) w2 V5 V5' (((cs.map (sizeT g)).take (i + 1)).map encI) from ⟨by rw [HT5.out, List.map_append]; exact q1, q2, q3⟩); clear q1 q2 q3))
          have hBW : base ≤ wr.heap.size := by have := h3.out.size; rw [HBS.out] at this; exact this
          have hBA : base ≤ (wr.alloc (.cells #[encI z] 3)).heap.size := by simp; omega
          obtain ⟨lv5, bw5⟩ := (h2.out.below (below_alloc (Below.refl _ _) _)).step5 (h3.out.trans ((below_alloc (Below.refl wr.heap.size wr) _).mono hBW)) hBA T5.out
          have HL5 := Aside0.mk (And.intro lv5 bw5)
          obtain ⟨x9, y9, AB, cB, hbB2, hsrcB⟩ := HK.out w2 (HKP.out w2 bw5)
          have z2 := (blk_cell hbB2 2).trans rfl
          obtain ⟨nB, hnB⟩ : ∃ nB, B.length = nB := ⟨_, rfl⟩
          rw [hnB] at z2
          have HSB := Aside0.mk (And.intro hsrcB hnB)
          obtain ⟨vs3, SS3, -, -, -, -, r6, -⟩ := lv5.all
          have HR6 := Aside0.mk r6
          clear hBW hBA lv5 bw5 hbB2 hsrcB hnB r6 z0
          go_wp2_with ((with_reducible refine gate_dst (N := 33) rfl ?_); refine wp_rowv_append2 (xs := (Bs.take i).flatten.map encP) (ys := B.map encP) rfl (.tmp 28) (.tmp 32) 72 rfl HR6.out Try.underlying72 infoN rfl (by decide) (A := AB) (c := cB) (n := nB) (by rw [List.length_map]; exact HSB.out.2.symm) HSB.out.1 (one_encP _) rfl rfl ?_ ?_; (have := HN.out; have := HH.out.2.1; have := HBB.out; have h9 := HN.out.2.2.2.2.1; have h8 := HN.out.2.2.2.2.2.1; rw [h8] at h9; simp only [List.length_map]; omega); intro V6' w3 T6; have T6 := Aside0.mk T6)
          have hBW : base ≤ w2.heap.size := by have := HL5.out.2.size; rw [HBS.out] at this; exact this
          obtain ⟨lv6, bw6⟩ := HL5.out.1.step6 (bl' := (Bs.take (i + 1)).flatten) HL5.out.2 hBW (by rw [HT6.out, List.map_append]; exact T6.out)
          have HL6 := Aside0.mk lv6
          have HB6 := Aside0.mk bw6
          clear lv6 bw6 hBW
          go_roundg (gk - 1)
          case measure => have := h1.out; have := HI.out; omega
          case rel => exact ⟨i + 1, V5', V6', rfl, rfl, by simp, ⟨by have := h1.out; have := HI.out; omega⟩, HL6, HB6⟩
        · have f1 : decide ((i : Int) < (n : Int)) = false := decide_eq_false (by omega)
          have f1' : decide (i < n) = false := decide_eq_false hi
          have HE : Aside0 ((cs.map (sizeT g)).take i = cs.map (sizeT g) ∧ Bs.take i = Bs) := ⟨by have := HN.out; exact ⟨List.take_of_length_le (by rw [List.length_map]; omega), List.take_of_length_le (by omega)⟩⟩
          rw [HE.out.1, HE.out.2] at h2
          obtain ⟨vs2, SS2, r3, rA, -, r5, -, -⟩ := h2.out.all
          have hvl := rowsAt_len rA
          have HR := Aside0.mk (And.intro r3 hvl)
          have hBW : base ≤ wr.heap.size := by have := h3.out.size; rw [HBS.out] at this; exact this
          obtain ⟨A5, n5, c5, rfl⟩ : ∃ A5 n5 c5, V5 = .slice A5 n5 c5 := by obtain ⟨A5, c5, e9, -⟩ := r5.shape; exact ⟨A5, _, c5, e9⟩
          have h5one : (Value.slice A5 n5 c5).oneCell' = true := rfl
          have H51 := Aside0.mk h5one
          have HBW := Aside0.mk hBW
          clear r3 rA r5 hi hvl hBW h5one
          go_wp2_with ((with_reducible refine gate_dst (N := 38) rfl ?_); refine wp_rowv_append2 (xs := vs2) (ys := [.slice A5 n5 c5]) rfl (.tmp 35) (.tmp 37) 49 rfl (RowV.below HR.out.1 (below_alloc (Below.refl _ _) _)) Try.underlying49 infoL rfl (by decide) (A := some ⟨wr.heap.size, 0, none⟩) (c := 1) (n := 1) rfl (src_one (blk_new wr _)) (fun u hu => by simp at hu; rw [hu]; exact H51.out) rfl rfl ?_ ?_; (have := HR.out.2; have h9 := HN.out.2.2.2.2.2.2.2; have h8 := HHL.out; have h7 := HH.out.2.1; simp only [List.length_singleton]; omega); intro V3' w3 T3; have T3 := Aside0.mk T3)
          have hBA : base ≤ (wr.alloc (.cells #[.slice A5 n5 c5] 43)).heap.size := by have := HBW.out; simp; omega
          obtain ⟨lv3, bw3⟩ := (h2.out.below (below_alloc (Below.refl _ _) _)).step3 (v3' := V3') (h3.out.trans ((below_alloc (Below.refl wr.heap.size wr) _).mono HBW.out)) hBA (fun vs' hv' hl' => by rw [rowV_inj hv' (RowV.below HR.out.1 (below_alloc (Below.refl _ _) _))]; exact T3.out)
          have HL3 := Aside0.mk lv3
          have HB3 := Aside0.mk bw3
          clear lv3 bw3
          go_roundg (K - 1)
          case measure => have := HN.out.2.2.2.2.2.2.1; omega
          case rel => exact ⟨_, V3', V6, L ++ [cs.map (sizeT g)], Bs.flatten, rfl, rfl, rfl, HX, HL3, HB3⟩
end Go.Proofs.YtmomohljnmopfaaX
end
section
namespace Go.Proofs.YtmomohljnmopfaaX
open Go.RowKit Go.Lib Go.Proofs.YtmomohljnmopfaaW.PrintWords Go.Proofs.YtmomohljnmopfaaW.PrintLast Go.Proofs.YtmomohljnmopfaaW.PrintMore
set_option linter.unusedVariables false
set_option linter.unusedSimpArgs false
abbrev inR (l : Nat) : Fence := Fence.wide.inRound l
section
variable {P : Program} {ops : Array Oper} {Q : Exit → Act → World → Prop} {md : Region.Mode} {l n : Nat}
theorem op_inR {o : Oper} (hd : ∀ c, o.op ≠ .defer c) {a : Act} {w : World} {K : Act → World → Prop} (h : o.wp P a w K Q) : o.wpIn (inR l) n P a w K Q := by
  unfold Oper.wpIn
  refine ⟨fun f _ => trivial, ?_⟩
  rw [Oper.semAt_eq _ _ _ hd]
  unfold Oper.wp at h
  generalize (execOp a.eval o).run P w = r at h
  cases r with
  | ok x w' =>
    cases x with
    | value v => exact h
    | skip => exact h
    | defer d => exact h
    | enter f args => exact ⟨(fun h9 => by cases h9), callsIn_wide.2 h⟩
    | row row args =>
      refine ⟨(fun h9 => by cases h9), fun c cs hr => ?_⟩
      obtain ⟨v, w'', h1, h2⟩ := h c cs
      exact ⟨v, w'', h1, stepsIn_wide.2 h2⟩
    | _ => exact h.elim
  | halt x w' => cases x <;> exact h
def noDefer (ops : Array Oper) : Bool := ops.all fun o => match o.op with | .defer _ => false | _ => true
theorem noDefer_spec (h : noDefer ops = true) {i : Nat} {o : Oper} (ho : ops[i]? = some o) : ∀ c, o.op ≠ .defer c := fun c e => by
  have h9 := Array.all_eq_true_iff_forall_mem.1 h o (Array.mem_of_getElem? ho)
  rw [e] at h9
  cases h9
theorem wpOp_inR (hd : noDefer ops = true) (hQ : ¬ LetsOut Q) {i : Nat} {K K' : Act → World → Prop} (hK : ∀ a w, K a w → K' a w) {a : Act} {w : World} (h : wpOp P ops Q i K a w) : wpOpIn (inR l) n P ops Q i K' a w := by
  unfold wpOp at h
  unfold wpOpIn
  cases ho : ops[i]? with
  | none => rw [ho] at h; exact hK _ _ h
  | some o =>
    rw [ho] at h
    simp only at h ⊢
    split
    · rename_i hw
      rw [if_pos hw] at h
      rcases h with h | h
      · exact op_inR (noDefer_spec hd ho) (Oper.wp_mono hK h)
      · exact absurd h.2 hQ
    · rename_i hw
      rw [if_neg hw] at h
      exact ⟨fun f _ => trivial, hK _ _ h⟩
theorem wpAny_inR (hd : noDefer ops = true) (hQ : ¬ LetsOut Q) : ∀ (fuel : Nat) (listed : Array Bool) (a : Act) (w : World), wpAny P md ops Q fuel listed a w → wpAnyIn (inR l) n P md ops Q fuel listed a w
  | 0, _, _, _, h => h
  | fuel + 1, _, _, _, h => ⟨h.1, fun i hi => wpOp_inR hd hQ (fun a w h9 => wpAny_inR hd hQ fuel _ a w h9) (h.2 i hi)⟩
/-- A region that draws its order, within a round: the words for a region outside serve. -/
theorem startIn_ {S : World → Prop} {ds : List Nat} {id k : Nat} {a : Act} {w : World} (lb : Array Bool) (hm : P.follows .mixedOrders = true) (hn : ops.size = k) (hl : Array.replicate k false = lb) (hd : noDefer ops = true) (hQ : ¬ LetsOut Q) (hS : S w.drew)
    (h : S w.drew → wpAnyLast P .any ops Q S ds k lb a w.drew) : (Code.region id ops true).wpIn (inR l) n P Q a w := by
  subst hn
  subst hl
  exact wpIn_region_any hm (wpAny_inR hd hQ _ _ _ _ (wpAny_of_last _ _ _ _ (h hS)))
end
end Go.Proofs.YtmomohljnmopfaaX
end
section
namespace Go.Proofs.YtmomohljnmopfaaX
open Go.RowKit Go.Lib Go.Proofs.YtmomohljnmopfaaW.PrintWords Go.Proofs.YtmomohljnmopfaaW.PrintLast Go.Proofs.YtmomohljnmopfaaW.PrintMore
set_option linter.unusedVariables false
set_option linter.unusedSimpArgs false
attribute [local go_sem] Oper.semAt_some
/-- As few parts as there may be. -/
def manyOf (n m : Nat) : Nat := (n + m - 1) / m
def cutAt (n many i : Nat) : Nat := i * n / many
def encPart (n many : Nat) (i : Fin many) : Array Value := #[.agg #[.int .i64 (cutAt n many i), .int .i64 (cutAt n many (i + 1))]]
set_option maxRecDepth 100000 in
theorem parts_calls (n m : Int) (w : World) : Calls Try.prog 28 #[.int .i64 n, .int .i64 m] w fun e w' => e = .returned (.func (.func 43) #[] #[.pointer (some ⟨w.heap.size, 0, none⟩), .pointer (some ⟨w.heap.size + 1, 0, none⟩)]) ∧ w' = (w.alloc (.cells #[.int .i64 n] 3)).alloc (.cells #[.int .i64 m] 3) := by
  go_enter Try.func28, Try.ntmps28
  go_wp2
  go_ret
  exact ⟨rfl, rfl⟩
def vInt : Value → Int
  | .int _ q => q
  | _ => 0
/-- What a round keeps for the iterator. -/
def KpB (nb mb : Nat) (W W' : World) : Prop := W'.heap[nb]? = W.heap[nb]? ∧ W'.heap[mb]? = W.heap[mb]?
theorem i64w (n : Int) : IntKind.i64.wrap n = wrap64 n := i64_w n
theorem mul_small {i many n : Nat} (h1 : i ≤ many) (h2 : many ≤ n) (h3 : n ≤ 2147483648) : i * n ≤ 4611686018427387904 := by
  have e1 : i * n ≤ n * n := Nat.mul_le_mul_right _ (by omega)
  have e2 : n * n ≤ 2147483648 * 2147483648 := Nat.mul_le_mul h3 h3
  omega
set_option maxRecDepth 100000 in
set_option maxHeartbeats 4000000 in
theorem parts1_in (F : Fence) (k : Nat) (h43 : F.fn 43) (hro : F.round = none) (hk : 1 ≤ k) (l nb mb n m many : Nat) (hmany : many = manyOf n m) (h4 : 4 ≤ m) (hm : m ≤ 64) (hn : n ≤ 2147483648) (J Jx : List (Fin many) → World → Prop)
    (hY : ∀ pre x W, J pre W → pre.length < many → YieldAt F (k - 1) Try.prog l (encPart n many x) W fun e W' =>
      (e = .returned (.bool true) ∧ J (pre ++ [x]) W' ∧ KpB nb mb W W') ∨ (e = .returned (.bool false) ∧ Jx (pre ++ [x]) W'))
    (hJd : ∀ pre W, J pre W → ∀ j, J pre (W.drewN j))
    (W : World) (hnb : W.heap[nb]? = some (.cells #[.int .i64 n] 3 (0, 0))) (hmb : W.heap[mb]? = some (.cells #[.int .i64 m] 3 (0, 0))) (h0 : J [] W) :
    CallsIn F k Try.prog 43 #[.func (.yield l) #[] #[], .pointer (some ⟨nb, 0, none⟩), .pointer (some ⟨mb, 0, none⟩)] W fun e W' => (∃ v, e = .returned v) ∧
      ((∃ ys, ys = List.finRange many ∧ J ys W') ∨ (∃ pre, pre <+: List.finRange many ∧ Jx pre W')) := by
  refine callsIn_of_wp Try.func43 rfl h43 ?_ hro
  simp only [Try.ntmps43, List.size_toArray, List.length_cons, List.length_nil, Nat.reduceAdd, Nat.reduceSub, Array.replicate_succ, Array.replicate_zero, List.push_toArray, List.append_toArray, List.nil_append, List.cons_append]
  have c0 : W.cell? ⟨nb, 0, none⟩ = some (.int .i64 n) := (blk_cell hnb 0).trans rfl
  have c1 : W.cell? ⟨mb, 0, none⟩ = some (.int .i64 m) := (blk_cell hmb 0).trans rfl
  have hml : many ≤ n := by
    rw [hmany]; unfold manyOf
    rcases Nat.eq_zero_or_pos n with h9 | h9
    · rw [h9, Nat.zero_add, Nat.div_eq_of_lt (by omega)]; exact Nat.le_refl _
    · exact (Nat.div_le_iff_le_mul_add_pred (by omega)).2 (by have : m ≤ m * n := Nat.le_mul_of_pos_right m h9; have : n ≤ m * n := Nat.le_mul_of_pos_left n (by omega); omega)
  have hdiv : Int.tdiv ((n : Int) + (m : Int) - 1) (m : Int) = (many : Int) := by
    rw [hmany]; unfold manyOf
    rw [show (n : Int) + (m : Int) - 1 = ((n + m - 1 : Nat) : Int) by omega]
    exact (Int.ofNat_tdiv _ _).symm
  have HML := Aside0.mk hml
  have HM0 : Aside0 (∀ pre W, J pre W → ∀ j, J pre (W.drewN j)) := ⟨hJd⟩
  have H0 := Aside0.mk h0
  have HNB := Aside0.mk (And.intro hnb hmb)
  have HYA := Aside0.mk hY
  have HB := Aside0.mk (And.intro h4 (And.intro hm hn))
  have g1 : ¬ (m = 0) := by omega
  have g2 : ¬ ((m : Int) = 0) := by omega
  have f1 : wrap64 ((n : Int) + (m : Int)) = (n : Int) + (m : Int) := by unfold wrap64; omega
  have f2 : wrap64 ((n : Int) + (m : Int) - 1) = (n : Int) + (m : Int) - 1 := by unfold wrap64; omega
  have f4 : wrap64 (many : Int) = (many : Int) := by unfold wrap64; omega
  have f1' : IntKind.i64.wrap ((n : Int) + (m : Int)) = (n : Int) + (m : Int) := by rw [i64_w]; exact f1
  have f2' : IntKind.i64.wrap ((n : Int) + (m : Int) - 1) = (n : Int) + (m : Int) - 1 := by rw [i64_w]; exact f2
  have f4' : IntKind.i64.wrap (many : Int) = (many : Int) := by rw [i64_w]; exact f4
  clear h0 hJd hY hnb hmb hmany h4 hm hn hml
  gi_wp2
  gi_loopw [13] (fun p wr => ∃ i : Nat, p = .int .i64 i ∧ Aside0 (i ≤ many) ∧ Aside0 (J ((List.finRange many).take i) wr) ∧ Aside0 (wr.heap[nb]? = W.heap[nb]? ∧ wr.heap[mb]? = W.heap[mb]?))
    (fun p wr => many - (vInt p).toNat)
  case atStart => exact ⟨0, rfl, ⟨Nat.zero_le _⟩, H0, ⟨rfl, rfl⟩⟩
  case round =>
    obtain ⟨i, rfl, h1, h2, h3⟩ := hrel
    clear c0 c1
    by_cases hi : i < many
    · obtain ⟨j, hj⟩ : ∃ j, i + 1 = j := ⟨_, rfl⟩
      obtain ⟨p1, hp1⟩ : ∃ p, i * n = p := ⟨_, rfl⟩
      obtain ⟨p2, hp2⟩ : ∃ p, j * n = p := ⟨_, rfl⟩
      obtain ⟨q1, hq1⟩ : ∃ q, p1 / many = q := ⟨_, rfl⟩
      obtain ⟨q2, hq2⟩ : ∃ q, p2 / many = q := ⟨_, rfl⟩
      have hb1 : p1 ≤ 4611686018427387904 := by rw [← hp1]; exact mul_small (by omega) HML.out HB.out.2.2
      have hb2 : p2 ≤ 4611686018427387904 := by rw [← hp2]; exact mul_small (by omega) HML.out HB.out.2.2
      have hc1 : q1 ≤ p1 := by rw [← hq1]; exact Nat.div_le_self _ _
      have hc2 : q2 ≤ p2 := by rw [← hq2]; exact Nat.div_le_self _ _
      have HJ : Aside0 (J ((List.finRange many).take i) wr.drew) := ⟨HM0.out _ _ h2.out 1⟩
      obtain ⟨x, hx⟩ : ∃ x : Fin many, x.val = i := ⟨⟨i, hi⟩, rfl⟩
      obtain ⟨fn, tmps, assign, body, hy0, hR⟩ := HYA.out _ x wr.drew HJ.out (by rw [List.length_take, List.length_finRange]; omega)
      have hy : (Instr.yield l #[.agg #[.int .i64 (q1 : Int), .int .i64 (q2 : Int)]]).run Try.prog wr.drew = .ok (.round l fn tmps assign body) wr.drew := by
        have e : encPart n many x = #[.agg #[.int .i64 (q1 : Int), .int .i64 (q2 : Int)]] := by
          unfold encPart cutAt
          rw [hx, hj, hp1, hp2, hq1, hq2]
        rw [← e]; exact hy0
      have HTAKE : Aside0 ((List.finRange many).take i ++ [x] = (List.finRange many).take j) := ⟨by
        rw [← hj]; exact (take_one (by rw [List.getElem?_eq_getElem (by rw [List.length_finRange]; exact hi), List.getElem_finRange]; congr 1; exact Fin.ext hx.symm)).symm⟩
      clear hy0
      have c0 : wr.cell? ⟨nb, 0, none⟩ = some (.int .i64 n) := (blk_cell (h3.out.1.trans HNB.out.1) 0).trans rfl
      have c1 : wr.cell? ⟨mb, 0, none⟩ = some (.int .i64 m) := (blk_cell (h3.out.2.trans HNB.out.2) 0).trans rfl
      have d1 : decide ((i : Int) < (many : Int)) = true := decide_eq_true (by omega)
      have d2 : decide (i < many) = true := decide_eq_true hi
      have d3 : ¬ (many = 0) := by omega
      have d4 : ¬ ((many : Int) = 0) := by omega
      have k2 : (i : Int) * (n : Int) = (p1 : Int) := by rw [← hp1]; exact (Int.natCast_mul _ _).symm
      have k3 : (j : Int) * (n : Int) = (p2 : Int) := by rw [← hp2]; exact (Int.natCast_mul _ _).symm
      have k6 : Int.tdiv (p1 : Int) (many : Int) = (q1 : Int) := by rw [← hq1]; exact (Int.ofNat_tdiv _ _).symm
      have k7 : Int.tdiv (p2 : Int) (many : Int) = (q2 : Int) := by rw [← hq2]; exact (Int.ofNat_tdiv _ _).symm
      have HIJ := Aside0.mk (And.intro hj hi)
      have hi5 : i ≤ 4294967296 := by have := HML.out; have := HB.out; omega
      have k1 : wrap64 ((i : Int) + 1) = (j : Int) := by rw [← hj]; clear f1 f2 f4 f1' f2' f4'; unfold wrap64; omega
      have k4 : wrap64 (p1 : Int) = (p1 : Int) := by clear f1 f2 f4 f1' f2' f4' k1; unfold wrap64; omega
      have k5 : wrap64 (p2 : Int) = (p2 : Int) := by clear f1 f2 f4 f1' f2' f4' k1 k4; unfold wrap64; omega
      have k8 : wrap64 (q1 : Int) = (q1 : Int) := by clear f1 f2 f4 f1' f2' f4' k1 k4 k5; unfold wrap64; omega
      have k9 : wrap64 (q2 : Int) = (q2 : Int) := by clear f1 f2 f4 f1' f2' f4' k1 k4 k5 k8; unfold wrap64; omega
      have k1' : IntKind.i64.wrap ((i : Int) + 1) = (j : Int) := by rw [i64w]; exact k1
      have k4' : IntKind.i64.wrap (p1 : Int) = (p1 : Int) := by rw [i64w]; exact k4
      have k5' : IntKind.i64.wrap (p2 : Int) = (p2 : Int) := by rw [i64w]; exact k5
      have k8' : IntKind.i64.wrap (q1 : Int) = (q1 : Int) := by rw [i64w]; exact k8
      have k9' : IntKind.i64.wrap (q2 : Int) = (q2 : Int) := by rw [i64w]; exact k9
      clear hb1 hb2 hc1 hc2 hi hx hj hp1 hp2 hq1 hq2 hi5 h2 f1 f2 f4 f1' f2' f4' hdiv g1 g2
      have hR2 := hR.mono (R' := fun e W' => ∃ r : Bool, e = .returned (.bool r) ∧ Aside0 ((r = true → J ((List.finRange many).take j) W' ∧ KpB nb mb wr.drew W') ∧ (r = false → Jx ((List.finRange many).take j) W'))) (by
        rintro e W' (⟨rfl, g1, g2⟩ | ⟨rfl, g1⟩)
        · exact ⟨true, rfl, ⟨⟨fun _ => ⟨by rw [← HTAKE.out]; exact g1, g2⟩, (fun h => by cases h)⟩⟩⟩
        · exact ⟨false, rfl, ⟨⟨(fun h => by cases h), fun _ => by rw [← HTAKE.out]; exact g1⟩⟩⟩)
      clear hR
      gi_wp2
      refine wpIn_region_any (by kernel_rfl) ?_
      try (change wpAnyIn _ _ _ _ _ _ _ _ _ (World.drew _))
      refine wpAnyIn_take (i := 0) (v := ?_) hro rfl (by kernel_rfl) (by kernel_rfl) (by kernel_rfl) (fun _ _ _ h => h) ⟨Or.inl ⟨by rfl, ?_⟩, fun _ => rfl⟩ ?_
      rotate_left; focus (intro w'; go_simp; with_reducible rfl; done)
      refine wpAnyIn_take (i := 1) (v := ?_) hro rfl (by kernel_rfl) (by kernel_rfl) (by kernel_rfl) (fun _ _ _ h => h) ⟨Or.inl ⟨by rfl, ?_⟩, fun _ => rfl⟩ ?_
      rotate_left; focus (intro w'; go_simp; with_reducible rfl; done)
      refine wpAnyIn_take (i := 4) (v := ?_) hro rfl (by kernel_rfl) (by kernel_rfl) (by kernel_rfl) (fun _ _ _ h => h) ⟨Or.inl ⟨by rfl, ?_⟩, fun _ => rfl⟩ ?_
      rotate_left; focus (intro w'; go_simp; with_reducible rfl; done)
      refine wpAnyIn_take (i := 6) (v := ?_) hro rfl (by kernel_rfl) (by kernel_rfl) (by kernel_rfl) (fun _ _ _ h => h) ⟨Or.inl ⟨by rfl, ?_⟩, fun _ => rfl⟩ ?_
      rotate_left; focus (intro w'; go_simp; with_reducible rfl; done)
      refine wpAnyIn_take (i := 7) (v := ?_) hro rfl (by kernel_rfl) (by kernel_rfl) (by kernel_rfl) (fun _ _ _ h => h) ⟨Or.inl ⟨by rfl, ?_⟩, fun _ => rfl⟩ ?_
      rotate_left; focus (intro w'; go_simp; with_reducible rfl; done)
      refine wpAnyIn_take (i := 10) (v := ?_) hro rfl (by kernel_rfl) (by kernel_rfl) (by kernel_rfl) (fun _ _ _ h => h) ⟨Or.inl ⟨by rfl, ?_⟩, fun _ => rfl⟩ ?_
      rotate_left; focus (intro w'; go_simp; with_reducible rfl; done)
      refine wpAnyIn_ready (rs := [2, 8]) (by kernel_rfl) (by simp) ?_
      refine AllReadyIn.cons rfl (fun K hK => ?_) ?_
      focus
       go_simp
       refine hK _ _ ?_
       clear hK K
       refine wpAnyIn_take (i := 3) (v := ?_) hro rfl (by kernel_rfl) (by kernel_rfl) (by kernel_rfl) (fun _ _ _ h => h) ⟨Or.inl ⟨by rfl, ?_⟩, fun _ => rfl⟩ ?_
       rotate_left; focus (intro w'; go_simp; with_reducible rfl; done)
       refine wpAnyIn_take (i := 5) (v := ?_) hro rfl (by kernel_rfl) (by kernel_rfl) (by kernel_rfl) (fun _ _ _ h => h) ⟨Or.inl ⟨by rfl, ?_⟩, fun _ => rfl⟩ ?_
       rotate_left; focus (intro w'; go_simp; with_reducible rfl; done)
       refine wpAnyIn_ready (rs := [8]) (by kernel_rfl) (by simp) ?_
       refine AllReadyIn.cons rfl (fun K hK => ?_) ?_
       focus
        go_simp
        refine hK _ _ ?_
        clear hK K
        refine wpAnyIn_take (i := 9) (v := ?_) hro rfl (by kernel_rfl) (by kernel_rfl) (by kernel_rfl) (fun _ _ _ h => h) ⟨Or.inl ⟨by rfl, ?_⟩, fun _ => rfl⟩ ?_
        rotate_left; focus (intro w'; go_simp; with_reducible rfl; done)
        refine wpAnyIn_take (i := 11) (v := ?_) hro rfl (by kernel_rfl) (by kernel_rfl) (by kernel_rfl) (fun _ _ _ h => h) ⟨Or.inl ⟨by rfl, ?_⟩, fun _ => rfl⟩ ?_
        rotate_left; focus (intro w'; go_simp; with_reducible rfl; done)
        refine wpAnyIn_take (i := 12) (v := ?_) hro rfl (by kernel_rfl) (by kernel_rfl) (by kernel_rfl) (fun _ _ _ h => h) ⟨Or.inl ⟨by rfl, ?_⟩, fun _ => rfl⟩ ?_
        rotate_left; focus (intro w'; go_simp; with_reducible rfl; done)
        refine wpAnyIn_ready (rs := [13]) (by kernel_rfl) (by simp) ?_
        refine AllReadyIn.cons rfl (fun K hK => ?_) ?_
        focus
         go_simp
         refine hR2.mono ?_
         rintro e W3 ⟨r, rfl, h9⟩
         refine hK _ _ ?_
         clear hK K
         refine wpAnyIn_take (i := 14) (v := ?_) hro rfl (by kernel_rfl) (by kernel_rfl) (by kernel_rfl) (fun _ _ _ h => h) ⟨Or.inl ⟨by rfl, ?_⟩, fun _ => rfl⟩ ?_
         rotate_left; focus (intro w'; go_simp; with_reducible rfl; done)
         refine wpAnyIn_done (by kernel_rfl) ?_ _
         cases r
         case' true =>
           gi_wp2
           go_roundw
           case rel =>
             obtain ⟨g1, g2⟩ := h9.out.1 (by first | rfl | trivial)
             exact ⟨j, rfl, ⟨by have := HIJ.out; omega⟩, ⟨g1⟩, ⟨g2.1.trans h3.out.1, g2.2.trans h3.out.2⟩⟩
           case measure => have := HIJ.out; simp [vInt]; omega
         case' false =>
           gi_wp2
           refine bodyPost_ret (results_none rfl _ _ _) rfl ?_
           exact ⟨⟨_, rfl⟩, .inr ⟨_, List.take_prefix _ _, h9.out.2 (by first | rfl | trivial)⟩⟩
        exact AllReadyIn.nil
       exact AllReadyIn.nil
      refine AllReadyIn.cons rfl (fun K hK => ?_) ?_
      focus
       go_simp
       refine hK _ _ ?_
       clear hK K
       refine wpAnyIn_take (i := 9) (v := ?_) hro rfl (by kernel_rfl) (by kernel_rfl) (by kernel_rfl) (fun _ _ _ h => h) ⟨Or.inl ⟨by rfl, ?_⟩, fun _ => rfl⟩ ?_
       rotate_left; focus (intro w'; go_simp; with_reducible rfl; done)
       refine wpAnyIn_take (i := 11) (v := ?_) hro rfl (by kernel_rfl) (by kernel_rfl) (by kernel_rfl) (fun _ _ _ h => h) ⟨Or.inl ⟨by rfl, ?_⟩, fun _ => rfl⟩ ?_
       rotate_left; focus (intro w'; go_simp; with_reducible rfl; done)
       refine wpAnyIn_ready (rs := [2]) (by kernel_rfl) (by simp) ?_
       refine AllReadyIn.cons rfl (fun K hK => ?_) ?_
       focus
        go_simp
        refine hK _ _ ?_
        clear hK K
        refine wpAnyIn_take (i := 3) (v := ?_) hro rfl (by kernel_rfl) (by kernel_rfl) (by kernel_rfl) (fun _ _ _ h => h) ⟨Or.inl ⟨by rfl, ?_⟩, fun _ => rfl⟩ ?_
        rotate_left; focus (intro w'; go_simp; with_reducible rfl; done)
        refine wpAnyIn_take (i := 5) (v := ?_) hro rfl (by kernel_rfl) (by kernel_rfl) (by kernel_rfl) (fun _ _ _ h => h) ⟨Or.inl ⟨by rfl, ?_⟩, fun _ => rfl⟩ ?_
        rotate_left; focus (intro w'; go_simp; with_reducible rfl; done)
        refine wpAnyIn_take (i := 12) (v := ?_) hro rfl (by kernel_rfl) (by kernel_rfl) (by kernel_rfl) (fun _ _ _ h => h) ⟨Or.inl ⟨by rfl, ?_⟩, fun _ => rfl⟩ ?_
        rotate_left; focus (intro w'; go_simp; with_reducible rfl; done)
        refine wpAnyIn_ready (rs := [13]) (by kernel_rfl) (by simp) ?_
        refine AllReadyIn.cons rfl (fun K hK => ?_) ?_
        focus
         go_simp
         refine hR2.mono ?_
         rintro e W3 ⟨r, rfl, h9⟩
         refine hK _ _ ?_
         clear hK K
         refine wpAnyIn_take (i := 14) (v := ?_) hro rfl (by kernel_rfl) (by kernel_rfl) (by kernel_rfl) (fun _ _ _ h => h) ⟨Or.inl ⟨by rfl, ?_⟩, fun _ => rfl⟩ ?_
         rotate_left; focus (intro w'; go_simp; with_reducible rfl; done)
         refine wpAnyIn_done (by kernel_rfl) ?_ _
         cases r
         case' true =>
           gi_wp2
           go_roundw
           case rel =>
             obtain ⟨g1, g2⟩ := h9.out.1 (by first | rfl | trivial)
             exact ⟨j, rfl, ⟨by have := HIJ.out; omega⟩, ⟨g1⟩, ⟨g2.1.trans h3.out.1, g2.2.trans h3.out.2⟩⟩
           case measure => have := HIJ.out; simp [vInt]; omega
         case' false =>
           gi_wp2
           refine bodyPost_ret (results_none rfl _ _ _) rfl ?_
           exact ⟨⟨_, rfl⟩, .inr ⟨_, List.take_prefix _ _, h9.out.2 (by first | rfl | trivial)⟩⟩
        exact AllReadyIn.nil
       exact AllReadyIn.nil
      exact AllReadyIn.nil
    · have d1 : decide ((i : Int) < (many : Int)) = false := decide_eq_false (by omega)
      have d2 : decide (i < many) = false := decide_eq_false hi
      have HI := Aside0.mk hi
      clear hi f1 f2 f4 f1' f2' f4' hdiv g1 g2
      gi_wp2
      go_end0
      exact ⟨⟨_, rfl⟩, .inl ⟨_, rfl, by have h9 := h2.out; rw [List.take_of_length_le (by rw [List.length_finRange]; have := HI.out; omega)] at h9; exact h9⟩⟩
/-- A bar: what an iterator's word asks. -/
theorem parts_stops (F : Fence) (k : Nat) (h43 : F.fn 43) (hro : F.round = none) (hk : 1 ≤ k) (nb mb n m many : Nat) (hmany : many = manyOf n m) (h4 : 4 ≤ m) (hm : m ≤ 64) (hn : n ≤ 2147483648) (w : World)
    (hnb : w.heap[nb]? = some (.cells #[.int .i64 n] 3 (0, 0))) (hmb : w.heap[mb]? = some (.cells #[.int .i64 m] 3 (0, 0))) :
    SeqStopsK F k Try.prog 43 #[.pointer (some ⟨nb, 0, none⟩), .pointer (some ⟨mb, 0, none⟩)] (encPart n many) (KpB nb mb) (fun ys => ys = List.finRange many) (fun pre => pre <+: List.finRange many) many w := fun l J Jx W hW hJ hJx hY h0 =>
  parts1_in F k h43 hro hk l nb mb n m many hmany h4 hm hn J Jx hY
    (fun pre W1 h j => hJ pre W1 _ none h ⟨rfl, rfl, rfl, Nat.le_refl _, fun _ _ _ => rfl⟩ (fun r e => by cases e))
    W (blk_below hnb hW) (blk_below hmb hW) h0
end Go.Proofs.YtmomohljnmopfaaX
end
section
namespace Go.Proofs.YtmomohljnmopfaaX
set_option linter.unusedVariables false
set_option linter.unusedSimpArgs false
theorem many_pos {n m : Nat} (h4 : 4 ≤ m) (hn : 0 < n) : 0 < manyOf n m := by
  unfold manyOf
  exact Nat.div_pos (by omega) (by omega)
theorem many_zero {m : Nat} (h4 : 4 ≤ m) : manyOf 0 m = 0 := by
  unfold manyOf
  exact Nat.div_eq_of_lt (by omega)
theorem many_le {n m : Nat} (h4 : 4 ≤ m) : n ≤ manyOf n m * m := by
  unfold manyOf
  have h1 := Nat.div_add_mod (n + m - 1) m
  have h2 := Nat.mod_lt (n + m - 1) (show 0 < m by omega)
  rw [Nat.mul_comm] at h1
  omega
theorem many_lt {n m : Nat} (h4 : 4 ≤ m) (hn : 0 < n) : (manyOf n m - 1) * m < n := by
  unfold manyOf
  have h1 := Nat.div_add_mod (n + m - 1) m
  have h3 := many_pos h4 hn
  unfold manyOf at h3
  obtain ⟨q, hq⟩ : ∃ q, (n + m - 1) / m = q + 1 := ⟨(n + m - 1) / m - 1, by omega⟩
  rw [hq, Nat.add_sub_cancel]
  rw [hq, Nat.mul_add, Nat.mul_one, Nat.mul_comm] at h1
  omega
theorem cut_zero {n many : Nat} : cutAt n many 0 = 0 := by unfold cutAt; rw [Nat.zero_mul, Nat.zero_div]
theorem cut_end {n many : Nat} (h : 0 < many) : cutAt n many many = n := by unfold cutAt; exact Nat.mul_div_cancel_left _ h
theorem cut_step {n many i : Nat} (h : 0 < many) : cutAt n many i + n / many ≤ cutAt n many (i + 1) ∧ cutAt n many (i + 1) ≤ cutAt n many i + (n + many - 1) / many := by
  unfold cutAt
  rw [Nat.add_mul, Nat.one_mul]
  obtain ⟨p, hp⟩ : ∃ p, i * n = p := ⟨_, rfl⟩
  rw [hp]
  refine ⟨?_, ?_⟩
  · rw [Nat.le_div_iff_mul_le h, Nat.add_mul]
    have h1 := Nat.div_mul_le_self p many
    have h2 := Nat.div_mul_le_self n many
    omega
  · apply Nat.le_of_lt_succ
    rw [Nat.div_lt_iff_lt_mul h]
    have h1 := Nat.div_add_mod p many
    have h2 := Nat.mod_lt p h
    have h3 := Nat.div_add_mod (n + many - 1) many
    have h4 := Nat.mod_lt (n + many - 1) h
    rw [Nat.mul_comm] at h1 h3
    rw [Nat.succ_eq_add_one, Nat.add_mul, Nat.add_mul, Nat.one_mul]
    omega
/-- Each part is wide enough, and not too wide. -/
theorem part_size {n m i : Nat} (h4 : 4 ≤ m) (hn : 0 < n) : 1 ≤ cutAt n (manyOf n m) (i + 1) - cutAt n (manyOf n m) i ∧ cutAt n (manyOf n m) (i + 1) - cutAt n (manyOf n m) i ≤ m ∧ cutAt n (manyOf n m) i ≤ cutAt n (manyOf n m) (i + 1) ∧ (2 ≤ manyOf n m → m / 2 ≤ cutAt n (manyOf n m) (i + 1) - cutAt n (manyOf n m) i) := by
  have hp := many_pos h4 hn
  obtain ⟨h1, h2⟩ := cut_step (n := n) (i := i) hp
  have h3 := many_le (n := n) h4
  have h5 := many_lt h4 hn
  have h6 : (n + manyOf n m - 1) / manyOf n m ≤ m := by
    apply Nat.le_of_lt_succ
    rw [Nat.div_lt_iff_lt_mul hp, Nat.succ_eq_add_one, Nat.add_mul, Nat.one_mul, Nat.mul_comm m]
    omega
  have h7 : manyOf n m ≤ n := by
    obtain ⟨q, hq⟩ : ∃ q, manyOf n m = q + 1 := ⟨manyOf n m - 1, by omega⟩
    rw [hq, Nat.add_sub_cancel] at h5
    have : q * 1 ≤ q * m := Nat.mul_le_mul_left _ (by omega)
    omega
  have h8 : 1 ≤ n / manyOf n m := Nat.div_pos h7 hp
  refine ⟨by omega, by omega, by omega, fun h2' => ?_⟩
  have h9 : m / 2 ≤ n / manyOf n m := by
    rw [Nat.le_div_iff_mul_le hp]
    obtain ⟨q, hq⟩ : ∃ q, manyOf n m = q + 2 := ⟨manyOf n m - 2, by omega⟩
    rw [hq] at h5 ⊢
    have e1 : (q + 2 - 1) * m = q * m + m := by rw [show q + 2 - 1 = q + 1 by omega, Nat.add_mul, Nat.one_mul]
    rw [e1] at h5
    have e2 : m / 2 * (q + 2) = m / 2 * q + m / 2 * 2 := Nat.mul_add ..
    rw [e2]
    have e3 : m / 2 * q ≤ q * m := by rw [Nat.mul_comm q m]; exact Nat.mul_le_mul_right _ (Nat.div_le_self _ _)
    omega
  omega
/-- The things from one cut to the next. -/
def chunk {α : Type} (l : List α) (n many i : Nat) : List α := (l.drop (cutAt n many i)).take (cutAt n many (i + 1) - cutAt n many i)
theorem chunk_split {α : Type} {l : List α} {n many i : Nat} (h : cutAt n many i ≤ cutAt n many (i + 1)) : l.drop (cutAt n many i) = chunk l n many i ++ l.drop (cutAt n many (i + 1)) := by
  unfold chunk
  have e : l.drop (cutAt n many (i + 1)) = (l.drop (cutAt n many i)).drop (cutAt n many (i + 1) - cutAt n many i) := by rw [List.drop_drop]; congr 1; omega
  rw [e, List.take_append_drop]
theorem cut_mono {n many i : Nat} (h : 0 < many) (hi : i ≤ many) : cutAt n many i ≤ n := by
  unfold cutAt
  calc i * n / many ≤ many * n / many := Nat.div_le_div_right (Nat.mul_le_mul_right _ hi)
    _ = n := Nat.mul_div_cancel_left _ h
theorem chunk_len {α : Type} {l : List α} {m i : Nat} (h4 : 4 ≤ m) (hn : 0 < l.length) (hi : i < manyOf l.length m) : (chunk l l.length (manyOf l.length m) i).length = cutAt l.length (manyOf l.length m) (i + 1) - cutAt l.length (manyOf l.length m) i := by
  have h1 := cut_mono (n := l.length) (many_pos h4 hn) (show i + 1 ≤ manyOf l.length m by omega)
  unfold chunk
  rw [List.length_take, List.length_drop]; omega
/-! ### leaves -/
def Leafs (m : Nat) (c : T 0) (lo hi : Option Nm) : Prop := Ok m 0 c lo hi ∧ 1 ≤ sizeT 0 c ∧ sizeT 0 c ≤ m
theorem headK_mem {l : List KV} (h : l ≠ []) : ∃ p ∈ l, p.1 = headK l := by
  cases l with
  | nil => exact absurd rfl h
  | cons p l => exact ⟨p, by simp, rfl⟩
theorem headK_app {a b : List KV} (h : a ≠ []) : headK (a ++ b) = headK a := by
  cases a with
  | nil => exact absurd rfl h
  | cons p a => rfl
theorem leafs_ok {m : Nat} {P : T 0 → Option Nm → Option Nm → Prop} {l : List KV} (hl : Rises l) (f : Nat → Nat) : ∀ (k j : Nat) (lo hi : Option Nm), (∀ i, j ≤ i → i < j + (k + 1) → f i ≤ f (i + 1) ∧ f i < f (i + 1) ∧ f (i + 1) ≤ l.length ∧ ∀ lo hi, Ok m 0 ((l.drop (f i)).take (f (i + 1) - f i) : List KV) lo hi → P ((l.drop (f i)).take (f (i + 1) - f i) : List KV) lo hi) → f (j + (k + 1)) = l.length → Within (l.drop (f j)) lo hi →
    OkL P ((List.range' (j + 1) k).map (fun i => headK (l.drop (f i)))) ((List.range' j (k + 1)).map (fun i => ((l.drop (f i)).take (f (i + 1) - f i) : List KV))) lo hi ∧ (∀ e, lo = some e → e = headK (l.drop (f j)) → Seps lo ((List.range' (j + 1) k).map (fun i => headK (l.drop (f i)))) hi) ∧ (lo = none → Seps lo ((List.range' (j + 1) k).map (fun i => headK (l.drop (f i)))) hi) ∧ ((List.range' j (k + 1)).map (fun i => (l.drop (f i)).take (f (i + 1) - f i))).flatten = l.drop (f j)
  | 0, j, lo, hi, hf, he, hw => by
    obtain ⟨q1, q2, q3, q4⟩ := hf j (Nat.le_refl _) (by omega)
    have e : (l.drop (f j)).take (f (j + 1) - f j) = l.drop (f j) := List.take_of_length_le (by rw [List.length_drop]; have : f (j + 1) = l.length := he; omega)
    have hd : Rises (l.drop (f j)) := List.Pairwise.sublist (List.drop_sublist _ _) hl
    refine ⟨?_, fun a ha hae b hb => ?_, fun hn a ha => (by rw [hn] at ha; cases ha), ?_⟩
    · show P ((l.drop (f j)).take (f (j + 1) - f j) : List KV) lo hi
      exact q4 lo hi (by rw [e]; exact ⟨hd, hw⟩)
    · intro c hc
      rw [ha] at hb
      cases hb
      have hne : l.drop (f j) ≠ [] := fun h9 => by have := congrArg List.length h9; rw [List.length_drop] at this; simp at this; have : f (j + 1) = l.length := he; omega
      obtain ⟨p, hp, hpe⟩ := headK_mem hne
      rw [hae, ← hpe]
      exact (hw p hp).2 c hc
    · show ((l.drop (f j)).take (f (j + 1) - f j)) ++ [] = _
      rw [List.append_nil, e]
  | k + 1, j, lo, hi, hf, he, hw => by
    obtain ⟨q1, q2, q3, q4⟩ := hf j (Nat.le_refl _) (by omega)
    obtain ⟨q5, q6, q7, -⟩ := hf (j + 1) (by omega) (by omega)
    have hsp : l.drop (f j) = (l.drop (f j)).take (f (j + 1) - f j) ++ l.drop (f (j + 1)) := by
      have e : l.drop (f (j + 1)) = (l.drop (f j)).drop (f (j + 1) - f j) := by rw [List.drop_drop]; congr 1; omega
      rw [e, List.take_append_drop]
    have hd : Rises (l.drop (f j)) := List.Pairwise.sublist (List.drop_sublist _ _) hl
    have hd9 := hd
    rw [hsp] at hd9
    obtain ⟨r1, r2, r3⟩ := rises_app.1 hd9
    have hne : l.drop (f (j + 1)) ≠ [] := fun h9 => by have := congrArg List.length h9; rw [List.length_drop] at this; simp at this; omega
    obtain ⟨p, hp, hpe⟩ := headK_mem hne
    have hw1 : Within ((l.drop (f j)).take (f (j + 1) - f j)) lo (some (headK (l.drop (f (j + 1))))) := fun q hq => ⟨(hw q (List.mem_of_mem_take hq)).1, fun b hb => by cases hb; rw [← hpe]; exact r3 q hq p hp⟩
    have hw2 : Within (l.drop (f (j + 1))) (some (headK (l.drop (f (j + 1))))) hi := fun q hq => ⟨fun a ha => by
      cases ha
      cases hl9 : l.drop (f (j + 1)) with
      | nil => exact absurd hl9 hne
      | cons u us =>
        rw [hl9] at hq r2
        obtain ⟨g1, g2⟩ := rises_cons.1 r2
        show ¬ q.1 < u.1
        rcases List.mem_cons.1 hq with rfl | hq
        · exact nm_irrefl _
        · exact fun h9 => nm_irrefl _ (nm_trans h9 (g1 q hq)), (hw q (by rw [hsp]; exact List.mem_append_right _ hq)).2⟩
    obtain ⟨i1, i2, i3, i4⟩ := leafs_ok (m := m) (P := P) hl f k (j + 1) (some (headK (l.drop (f (j + 1))))) hi (fun i hi1 hi2 => hf i (by omega) (by omega)) (by rw [← he]; congr 1; omega) hw2
    have hne0 : (l.drop (f j)).take (f (j + 1) - f j) ≠ [] := fun h9 => by have := congrArg List.length h9; rw [List.length_take, List.length_drop] at this; simp at this; omega
    obtain ⟨p0, hp0, hpe0⟩ := headK_mem hne0
    refine ⟨?_, fun a ha hae => ?_, fun hn => ?_, ?_⟩
    · show P ((l.drop (f j)).take (f (j + 1) - f j) : List KV) lo (some _) ∧ OkL P _ _ _ hi
      exact ⟨q4 lo _ ⟨r1, hw1⟩, i1⟩
    · refine ⟨fun b hb => ?_, i2 _ rfl rfl⟩
      rw [ha] at hb
      cases hb
      have e9 : headK (l.drop (f j)) = headK ((l.drop (f j)).take (f (j + 1) - f j)) := by
        have h8 := headK_app (b := l.drop (f (j + 1))) hne0
        rw [← hsp] at h8
        exact h8
      rw [hae, e9, ← hpe0]
      show p0.1 < headK (l.drop (f (j + 1)))
      rw [← hpe]
      exact r3 p0 hp0 p hp
    · exact ⟨fun b hb => (by rw [hn] at hb; cases hb), i2 _ rfl rfl⟩
    · show ((l.drop (f j)).take (f (j + 1) - f j)) ++ _ = _
      rw [i4]
      exact hsp.symm
/-! ### the nodes above a level -/
def upNode {h : Nat} (f : Nat → Nat) (ks : List Nm) (cs : List (T h)) (i : Nat) : T (h + 1) := ((ks.drop (f i + 1)).take (f (i + 1) - (f i + 1)), (cs.drop (f i)).take (f (i + 1) - f i))
theorem ups_ok {m h : Nat} {Q : T (h + 1) → Option Nm → Option Nm → Prop} {ks : List Nm} {cs : List (T h)} (hlen : ks.length = cs.length) (f : Nat → Nat) : ∀ (k j : Nat) (lo hi : Option Nm), (∀ i, j ≤ i → i < j + (k + 1) → f i < f (i + 1) ∧ f (i + 1) ≤ cs.length ∧ ∀ lo hi, Ok m (h + 1) (upNode f ks cs i) lo hi → Q (upNode f ks cs i) lo hi) → f (j + (k + 1)) = cs.length →
    OkL (Kid m h) (ks.drop (f j + 1)) (cs.drop (f j)) lo hi → Seps lo (ks.drop (f j + 1)) hi →
    OkL Q ((List.range' (j + 1) k).map (fun i => ks.getD (f i) [])) ((List.range' j (k + 1)).map (upNode f ks cs)) lo hi ∧ Seps lo ((List.range' (j + 1) k).map (fun i => ks.getD (f i) [])) hi ∧ flats ((List.range' j (k + 1)).map (upNode f ks cs)) = flats (cs.drop (f j))
  | 0, j, lo, hi, hf, he, hO, hS => by
    obtain ⟨q1, q2, q3⟩ := hf j (Nat.le_refl _) (by omega)
    have he : f (j + 1) = cs.length := he
    have e1 : (cs.drop (f j)).take (f (j + 1) - f j) = cs.drop (f j) := List.take_of_length_le (by rw [List.length_drop]; omega)
    have e2 : (ks.drop (f j + 1)).take (f (j + 1) - (f j + 1)) = ks.drop (f j + 1) := List.take_of_length_le (by rw [List.length_drop]; omega)
    have e : upNode f ks cs j = (ks.drop (f j + 1), cs.drop (f j)) := by unfold upNode; rw [e1, e2]
    refine ⟨?_, ?_, ?_⟩
    · show Q (upNode f ks cs j) lo hi
      exact q3 lo hi (by rw [e]; exact ⟨hS, hO⟩)
    · show ∀ a, lo = some a → ltH a hi
      intro a ha b hb
      cases hk : ks.drop (f j + 1) with
      | nil => rw [hk] at hS; exact hS a ha b hb
      | cons u us =>
        rw [hk] at hS
        have h1 := hS.1 a ha
        have h2 := seps_lt (lo := lo) hS u (by simp)
        exact nm_trans h1 (h2 b hb)
    · show flats [upNode f ks cs j] = _
      rw [flats_cons, e]
      show flats (cs.drop (f j)) ++ flats [] = _
      simp [flats]
  | k + 1, j, lo, hi, hf, he, hO, hS => by
    obtain ⟨q1, q2, q3⟩ := hf j (Nat.le_refl _) (by omega)
    obtain ⟨q5, q6, -⟩ := hf (j + 1) (by omega) (by omega)
    have hC : cs.drop (f j) = (cs.drop (f j)).take (f (j + 1) - f j) ++ cs.drop (f (j + 1)) := by
      have e : cs.drop (f (j + 1)) = (cs.drop (f j)).drop (f (j + 1) - f j) := by rw [List.drop_drop]; congr 1; omega
      rw [e, List.take_append_drop]
    have hlt : f (j + 1) < ks.length := by omega
    have hK : ks.drop (f j + 1) = (ks.drop (f j + 1)).take (f (j + 1) - (f j + 1)) ++ ks.getD (f (j + 1)) [] :: ks.drop (f (j + 1) + 1) := by
      have e : ks.drop (f (j + 1)) = (ks.drop (f j + 1)).drop (f (j + 1) - (f j + 1)) := by rw [List.drop_drop]; congr 1; omega
      have e2 : ks.drop (f (j + 1)) = ks.getD (f (j + 1)) [] :: ks.drop (f (j + 1) + 1) := by
        rw [List.drop_eq_getElem_cons hlt]
        congr 1
        rw [List.getD_eq_getElem?_getD, List.getElem?_eq_getElem hlt]; rfl
      rw [← e2, e, List.take_append_drop]
    have hO9 := hO
    rw [hC, hK] at hO9
    have hcl : ((cs.drop (f j)).take (f (j + 1) - f j)).length = ((ks.drop (f j + 1)).take (f (j + 1) - (f j + 1))).length + 1 := by rw [List.length_take, List.length_take, List.length_drop, List.length_drop]; omega
    obtain ⟨o1, o2⟩ := (okL_cut hcl).1 hO9
    have hS9 := hS
    rw [hK] at hS9
    obtain ⟨s1, s2⟩ := seps_app.1 hS9
    have hgt := seps_gt hS (ks.getD (f (j + 1)) []) (by rw [hK]; simp)
    obtain ⟨i1, i2, i3⟩ := ups_ok (Q := Q) hlen f k (j + 1) (some (ks.getD (f (j + 1)) [])) hi (fun i hi1 hi2 => hf i (by omega) (by omega)) (by rw [← he]; congr 1; omega) o2 s2.2
    refine ⟨?_, ?_, ?_⟩
    · show Q (upNode f ks cs j) lo (some _) ∧ OkL Q _ _ _ hi
      exact ⟨q3 lo _ ⟨s1, o1⟩, i1⟩
    · exact ⟨hgt, i2⟩
    · show flats (upNode f ks cs j :: _) = _
      rw [flats_cons, i3, hC, flats_app]
      congr 1
/-- A level of New's. -/
def LevelOk (m h : Nat) (cs : List (T h)) (ks : List Nm) (l : List KV) : Prop := ks.length = cs.length ∧ flats cs = l ∧ Seps none ks.tail none ∧ OkL (fun c lo hi => Ok m h c lo hi ∧ sizeT h c ≤ m ∧ (2 ≤ cs.length → m / 2 ≤ sizeT h c) ∧ (0 < h → 2 ≤ sizeT h c)) ks.tail cs none none
theorem okL_imp {α : Type} {P R : α → Option Nm → Option Nm → Prop} (hi9 : ∀ c lo hi, P c lo hi → R c lo hi) : ∀ {ks : List Nm} {cs : List α} {lo hi : Option Nm}, OkL P ks cs lo hi → OkL R ks cs lo hi
  | [], [c], lo, hi, h => hi9 _ _ _ h
  | k :: ks, c :: cs, lo, hi, h => ⟨hi9 _ _ _ h.1, okL_imp hi9 h.2⟩
  | [], [], _, _, h => h.elim
  | [], c :: d :: cs, _, _, h => h.elim
  | k :: ks, [], _, _, h => h.elim
theorem level_one {m h : Nat} {c : T h} {ks : List Nm} {l : List KV} (hL : LevelOk m h [c] ks l) : Right m h c ∧ flat h c = l := by
  obtain ⟨h1, h2, h3, h4⟩ := hL
  obtain ⟨k, rfl⟩ : ∃ k, ks = [k] := by
    match ks, h1 with
    | [k], _ => exact ⟨k, rfl⟩
  have h9 : Ok m h c none none ∧ sizeT h c ≤ m ∧ (2 ≤ [c].length → m / 2 ≤ sizeT h c) ∧ (0 < h → 2 ≤ sizeT h c) := h4
  refine ⟨⟨h9.1, h9.2.1, h9.2.2.2⟩, ?_⟩
  rw [flats_cons] at h2
  simpa [flats] using h2
theorem flats0 (L : List (List KV)) : flats (h := 0) L = L.flatten := by
  show (L.map (fun x => x)).flatten = _
  rw [List.map_id']
theorem level_zero {m : Nat} {l : List KV} (h4 : 4 ≤ m) (hr : Rises l) (h0 : 0 < l.length) : LevelOk m 0 ((List.range (manyOf l.length m)).map (fun i => (chunk l l.length (manyOf l.length m) i : List KV))) ((List.range (manyOf l.length m)).map (fun i => headK (l.drop (cutAt l.length (manyOf l.length m) i)))) l := by
  obtain ⟨many, hmn⟩ : ∃ many, manyOf l.length m = many := ⟨_, rfl⟩
  have hp := many_pos h4 h0
  rw [hmn] at hp ⊢
  obtain ⟨k, rfl⟩ : ∃ k, many = k + 1 := ⟨many - 1, by omega⟩
  have hz : cutAt l.length (k + 1) 0 = 0 := cut_zero
  have hps : ∀ i, i < k + 1 → 1 ≤ cutAt l.length (k + 1) (i + 1) - cutAt l.length (k + 1) i ∧ cutAt l.length (k + 1) (i + 1) - cutAt l.length (k + 1) i ≤ m ∧ cutAt l.length (k + 1) (i + 1) ≤ l.length ∧ (2 ≤ k + 1 → m / 2 ≤ cutAt l.length (k + 1) (i + 1) - cutAt l.length (k + 1) i) := fun i hi => by
    have h9 := part_size (n := l.length) (i := i) h4 h0
    rw [hmn] at h9
    exact ⟨h9.1, h9.2.1, cut_mono (Nat.succ_pos _) (by omega), h9.2.2.2⟩
  obtain ⟨r1, -, r3, r5⟩ := leafs_ok (m := m) (P := fun c lo hi => Ok m 0 c lo hi ∧ sizeT 0 c ≤ m ∧ (2 ≤ k + 1 → m / 2 ≤ sizeT 0 c) ∧ (0 < 0 → 2 ≤ sizeT 0 c)) hr (cutAt l.length (k + 1)) k 0 none none (fun i _ hi => by
    obtain ⟨g1, g2, g3, g4⟩ := hps i (by omega)
    refine ⟨by omega, by omega, g3, fun lo hi hok => ⟨hok, ?_, fun h2 => ?_, fun h => absurd h (Nat.lt_irrefl 0)⟩⟩
    · show ((l.drop (cutAt l.length (k + 1) i)).take _).length ≤ m
      rw [List.length_take]; omega
    · show m / 2 ≤ ((l.drop (cutAt l.length (k + 1) i)).take _).length
      rw [List.length_take, List.length_drop]; have := g4 h2; omega) (by rw [Nat.zero_add]; exact cut_end (Nat.succ_pos _)) (by rw [hz]; exact fun p _ => ⟨(fun a ha => by cases ha), (fun a ha => by cases ha)⟩)
  rw [hz, List.drop_zero] at r5
  refine ⟨(List.length_map _).trans (List.length_map _).symm, ?_, ?_, ?_⟩
  · rw [List.range_eq_range']
    exact (flats0 _).trans r5
  · rw [List.range_eq_range']; exact r3 rfl
  · rw [List.range_eq_range']
    have e : ((List.range' 0 (k + 1)).map (fun i => (chunk l l.length (k + 1) i : List KV))).length = k + 1 := by simp
    refine okL_imp (fun c lo hi hc => ?_) r1
    exact ⟨hc.1, hc.2.1, fun h2 => hc.2.2.1 (Nat.le_trans h2 (Nat.le_of_eq e)), hc.2.2.2⟩
theorem level_up {m h : Nat} {cs : List (T h)} {ks : List Nm} {l : List KV} (h4 : 4 ≤ m) (hL : LevelOk m h cs ks l) (h2 : 2 ≤ cs.length) :
    LevelOk m (h + 1) ((List.range (manyOf cs.length m)).map (upNode (cutAt cs.length (manyOf cs.length m)) ks cs)) ((List.range (manyOf cs.length m)).map (fun i => ks.getD (cutAt cs.length (manyOf cs.length m) i) [])) l := by
  obtain ⟨hlen, hfl, hS, hO⟩ := hL
  obtain ⟨many, hmn⟩ : ∃ many, manyOf cs.length m = many := ⟨_, rfl⟩
  have hp := many_pos (n := cs.length) h4 (by omega)
  rw [hmn] at hp ⊢
  obtain ⟨k, rfl⟩ : ∃ k, many = k + 1 := ⟨many - 1, by omega⟩
  have hz : cutAt cs.length (k + 1) 0 = 0 := cut_zero
  have hps : ∀ i, i < k + 1 → 1 ≤ cutAt cs.length (k + 1) (i + 1) - cutAt cs.length (k + 1) i ∧ cutAt cs.length (k + 1) (i + 1) - cutAt cs.length (k + 1) i ≤ m ∧ cutAt cs.length (k + 1) (i + 1) ≤ cs.length ∧ (2 ≤ k + 1 → m / 2 ≤ cutAt cs.length (k + 1) (i + 1) - cutAt cs.length (k + 1) i) := fun i hi => by
    have h9 := part_size (n := cs.length) (i := i) h4 (by omega)
    rw [hmn] at h9
    exact ⟨h9.1, h9.2.1, cut_mono (Nat.succ_pos _) (by omega), h9.2.2.2⟩
  have hO' : OkL (Kid m h) (ks.drop (cutAt cs.length (k + 1) 0 + 1)) (cs.drop (cutAt cs.length (k + 1) 0)) none none := by
    rw [hz, List.drop_zero, Nat.zero_add, List.drop_one]
    exact okL_imp (fun c lo hi hc => ⟨hc.1, hc.2.2.1 h2, hc.2.1⟩) hO
  have hS' : Seps none (ks.drop (cutAt cs.length (k + 1) 0 + 1)) none := by rw [hz, Nat.zero_add, List.drop_one]; exact hS
  obtain ⟨r1, r3, r5⟩ := ups_ok (m := m) (Q := fun c lo hi => Ok m (h + 1) c lo hi ∧ sizeT (h + 1) c ≤ m ∧ (2 ≤ k + 1 → m / 2 ≤ sizeT (h + 1) c) ∧ (0 < h + 1 → 2 ≤ sizeT (h + 1) c)) hlen (cutAt cs.length (k + 1)) k 0 none none (fun i _ hi => by
    obtain ⟨g1, g2, g3, g4⟩ := hps i (by omega)
    have hsz : sizeT (h + 1) (upNode (cutAt cs.length (k + 1)) ks cs i) = cutAt cs.length (k + 1) (i + 1) - cutAt cs.length (k + 1) i := by
      show ((cs.drop (cutAt cs.length (k + 1) i)).take _).length = _
      rw [List.length_take, List.length_drop]; omega
    refine ⟨by omega, g3, fun lo hi hok => ⟨hok, by rw [hsz]; exact g2, fun h2 => by rw [hsz]; exact g4 h2, fun _ => ?_⟩⟩
    rw [hsz]
    rcases Nat.eq_zero_or_pos k with h0 | h0
    · subst h0
      obtain rfl : i = 0 := by omega
      have e1 : cutAt cs.length (0 + 1) (0 + 1) = cs.length := cut_end (Nat.succ_pos _)
      rw [e1, hz]; omega
    · have := g4 (by omega); omega) (by rw [Nat.zero_add]; exact cut_end (Nat.succ_pos _)) hO' hS'
  rw [hz, List.drop_zero] at r5
  refine ⟨by simp, ?_, ?_, ?_⟩
  · rw [List.range_eq_range', r5]; exact hfl
  · rw [List.range_eq_range']; exact r3
  · rw [List.range_eq_range']
    have e : ((List.range' 0 (k + 1)).map (upNode (cutAt cs.length (k + 1)) ks cs)).length = k + 1 := by simp
    refine okL_imp (fun c lo hi hc => ?_) r1
    exact ⟨hc.1, hc.2.1, fun h2 => hc.2.2.1 (by rw [← e]; exact h2), hc.2.2.2⟩
end Go.Proofs.YtmomohljnmopfaaX
end
section
namespace Go.Proofs.YtmomohljnmopfaaX
open Go.RowKit Go.Lib Go.Proofs.YtmomohljnmopfaaW.PrintWords Go.Proofs.YtmomohljnmopfaaW.PrintLast Go.Proofs.YtmomohljnmopfaaW.PrintMore
set_option linter.unusedVariables false
set_option linter.unusedSimpArgs false
/-- Where pairs are read. -/
def SrcP (w : World) (A : Option Addr) (l : List KV) : Prop := ∀ (i : Nat) (p : KV), l[i]? = some p → ∃ ad, A = some ad ∧ w.cell? (ad.add (i * 2)) = some (.string ⟨p.1.toArray⟩) ∧ w.cell? ⟨(ad.add (i * 2)).block, (ad.add (i * 2)).off + 1, none⟩ = some (.string p.2)
theorem SrcP.below {w w' : World} {A : Option Addr} {l : List KV} (h : SrcP w A l) (hb : Below w.heap.size w w') : SrcP w' A l := fun i p hi => by
  obtain ⟨ad, h1, h2, h3⟩ := h i p hi
  exact ⟨ad, h1, (hb.cell (World.block_lt_of_cell? _ _ h2)).trans h2, (hb.cell (World.block_lt_of_cell? _ _ h3)).trans h3⟩
theorem add_add (ad : Addr) (x y : Nat) : (ad.add x).add y = ad.add (x + y) := by
  by_cases hy : y = 0
  · subst hy; simp [Addr.add]
  · by_cases hx : x = 0
    · subst hx; simp [Addr.add]
    · simp [Addr.add, hx, hy, Nat.add_assoc]
theorem SrcP.cut {w : World} {A : Option Addr} {l : List KV} {ad : Addr} (h : SrcP w A l) (hA : A = some ad) (a b : Nat) : SrcP w (some (ad.add (a * 2))) ((l.drop a).take b) := fun i p hi => by
  rw [List.getElem?_take] at hi
  split at hi
  · rw [List.getElem?_drop] at hi
    obtain ⟨ad', h1, h2, h3⟩ := h (a + i) p hi
    rw [hA] at h1
    cases h1
    rw [Nat.add_mul] at h2 h3
    exact ⟨_, rfl, by rw [add_add]; exact h2, by rw [add_add]; exact h3⟩
  · cases hi
def AdjTo (l : List KV) (i : Nat) : Prop := ∀ (j : Nat) (p q : KV), j + 1 < i → l[j]? = some p → l[j + 1]? = some q → p.1 < q.1
theorem rises_adj {l : List KV} (h : Rises l) (i : Nat) : AdjTo l i := fun j p q _ hp hq => by
  have h1 := (List.getElem?_eq_some_iff.1 hq).1
  have := List.pairwise_iff_getElem.1 h j (j + 1) (by omega) h1 (by omega)
  rw [(List.getElem?_eq_some_iff.1 hp).2, (List.getElem?_eq_some_iff.1 hq).2] at this
  exact this
theorem adj_rises : ∀ {l : List KV}, AdjTo l l.length → Rises l
  | [], _ => List.Pairwise.nil
  | [p], _ => List.pairwise_singleton _ _
  | p :: q :: l, h => by
    have ih : Rises (q :: l) := adj_rises (fun j a b hj ha hb => h (j + 1) a b (by simp only [List.length_cons] at hj ⊢; omega) (by simpa using ha) (by simpa using hb))
    refine rises_cons.2 ⟨fun r hr => ?_, ih⟩
    have hpq : p.1 < q.1 := h 0 p q (by simp) rfl rfl
    rcases List.mem_cons.1 hr with rfl | hr
    · exact hpq
    · exact nm_trans hpq ((rises_cons.1 ih).1 r hr)
end Go.Proofs.YtmomohljnmopfaaX
end
section
namespace Go.Proofs.YtmomohljnmopfaaX
open Go.RowKit Go.Lib Go.Proofs.YtmomohljnmopfaaW.PrintWords Go.Proofs.YtmomohljnmopfaaW.PrintLast Go.Proofs.YtmomohljnmopfaaW.PrintMore
set_option linter.unusedVariables false
set_option linter.unusedSimpArgs false
/-- A block of cells. -/
def IsC (w : World) (k : Nat) : Prop := ∃ c t fr, w.heap[k]? = some (.cells c t fr)
theorem rowV_cells {e : TypeId} {w : World} {v : Value} {xs : List Value} (h : RowV e w v xs) : ∀ k ∈ v.ownBlock.toList, IsC w k := fun k hk => by
  rcases h with ⟨rfl, _⟩ | ⟨g, cap, cur, rfl, hg, _⟩
  · simp [Value.ownBlock] at hk
  · simp [Value.ownBlock] at hk
    subst hk
    exact ⟨_, _, _, hg⟩
theorem node_cells : ∀ {h : Nat} {w : World} {b : Nat} {t : T h} {S : List Nat}, NodeAt h w b t S → ∀ k ∈ S, IsC w k
  | 0, w, b, t, S, ⟨kv, vv, h1, h2, h3, h4, _⟩, k, hk => by
    rw [h4] at hk
    rcases List.mem_cons.1 hk with rfl | hk
    · exact ⟨_, _, _, h1⟩
    · rcases List.mem_append.1 hk with hk | hk
      · exact rowV_cells h2 k hk
      · exact rowV_cells h3 k hk
  | h + 1, w, b, t, S, ⟨kv, cv, bs, S2, h1, h2, h3, h4, h5, h6, _⟩, k, hk => by
    rw [h6] at hk
    rcases List.mem_cons.1 hk with rfl | hk
    · exact ⟨_, _, _, h1⟩
    · rcases List.mem_append.1 hk with hk | hk
      · exact rowV_cells h2 k hk
      · rcases List.mem_append.1 hk with hk | hk
        · exact rowV_cells h3 k hk
        · obtain ⟨b', c', S1, g1, g2⟩ := kids_mem h4 k hk
          exact node_cells g1 k g2
/-- What is grown by a block that is no cells keeps the cells. -/
theorem grown_cells {A B : World} {row : Option Nat} (hg : A.grownBy B row) (hr : ∀ r, row = some r → ∃ o : Obj, A.heap[r]? = some o ∧ o.isCells = false) {k : Nat} (hk : IsC A k) : B.heap[k]? = A.heap[k]? := by
  obtain ⟨c, t, fr, h⟩ := hk
  refine hg.block k (blk_lt h) (fun e => ?_)
  obtain ⟨o, h1, h2⟩ := hr k e.symm
  rw [h] at h1
  cases h1
  cases h2
/-- What holds of a block and of what hangs on it, as long as these blocks lie as they lay; and they are cells. -/
structure Sta {α : Type} (R : World → Nat → α → List Nat → Prop) : Prop where
  step : ∀ (W W' : World) (b : Nat) (t : α) (S : List Nat), R W b t S → (∀ k ∈ S, W'.heap[k]? = W.heap[k]?) → R W' b t S
  cells : ∀ (W : World) (b : Nat) (t : α) (S : List Nat), R W b t S → ∀ k ∈ S, IsC W k
theorem node_sta {h : Nat} : Sta (NodeAt h) := ⟨fun _ _ _ _ _ => node_step, fun _ _ _ _ => node_cells⟩
/-- New's own: the boxes of the level and of the least keys, their rows, what hangs on the level. -/
structure NSG {α : Type} (R : World → Nat → α → List Nat → Prop) (base : Nat) (F : List Nat) (W : World) (lv le : Nat) (vlv vle : Value) (bs : List Nat) (cs : List α) (ks : List Nm) (S : List Nat) : Prop where
  hlv : W.heap[lv]? = some (.cells #[vlv] 72 (0, 0))
  hle : W.heap[le]? = some (.cells #[vle] 71 (0, 0))
  rlv : RowV 70 W vlv (bs.map encP)
  rle : RowV 9 W vle (encKs ks)
  kids : KidsAt (R W) bs cs S
  nd : (lv :: le :: (vlv.ownBlock.toList ++ (vle.ownBlock.toList ++ S))).Nodup
  ge : ∀ k ∈ lv :: le :: (vlv.ownBlock.toList ++ (vle.ownBlock.toList ++ S)), base ≤ k
  ne : ∀ k ∈ F, k ∉ lv :: le :: (vlv.ownBlock.toList ++ (vle.ownBlock.toList ++ S))
abbrev NS (base : Nat) (F : List Nat) (h : Nat) (W : World) (lv le : Nat) (vlv vle : Value) (bs : List Nat) (cs : List (T h)) (ks : List Nm) (S : List Nat) : Prop := NSG (NodeAt h) base F W lv le vlv vle bs cs ks S
theorem IsC.lt {w : World} {k : Nat} (h : IsC w k) : k < w.heap.size := by obtain ⟨c, t, fr, h⟩ := h; exact blk_lt h
section
variable {α : Type} {R : World → Nat → α → List Nat → Prop} {base : Nat} {F : List Nat} {W W' : World} {lv le : Nat} {vlv vle : Value} {bs : List Nat} {cs : List α} {ks : List Nm} {S : List Nat}
theorem NSG.cells (hR : Sta R) (n : NSG R base F W lv le vlv vle bs cs ks S) : ∀ k ∈ lv :: le :: (vlv.ownBlock.toList ++ (vle.ownBlock.toList ++ S)), IsC W k := fun k hk => by
  rcases List.mem_cons.1 hk with rfl | hk
  · exact ⟨_, _, _, n.hlv⟩
  · rcases List.mem_cons.1 hk with rfl | hk
    · exact ⟨_, _, _, n.hle⟩
    · rcases List.mem_append.1 hk with hk | hk
      · exact rowV_cells n.rlv k hk
      · rcases List.mem_append.1 hk with hk | hk
        · exact rowV_cells n.rle k hk
        · obtain ⟨b', c', S1, g1, g2⟩ := kids_mem n.kids k hk
          exact hR.cells _ _ _ _ g1 k g2
theorem NSG.step (hR : Sta R) (n : NSG R base F W lv le vlv vle bs cs ks S) (hb : ∀ k ∈ lv :: le :: (vlv.ownBlock.toList ++ (vle.ownBlock.toList ++ S)), W'.heap[k]? = W.heap[k]?) : NSG R base F W' lv le vlv vle bs cs ks S :=
  ⟨(hb lv (by simp)).trans n.hlv, (hb le (by simp)).trans n.hle, n.rlv.step (fun k hk => hb k (by simp only [List.mem_cons, List.mem_append]; simp [hk])), n.rle.step (fun k hk => hb k (by simp only [List.mem_cons, List.mem_append]; simp [hk])),
    kids_imp n.kids (fun b' c' T hs hr => hR.step _ _ _ _ _ hr (fun k hk => hb k (by simp only [List.mem_cons, List.mem_append]; simp [hs k hk]))), n.nd, n.ge, n.ne⟩
theorem NSG.grown (hR : Sta R) (n : NSG R base F W lv le vlv vle bs cs ks S) {row : Option Nat} (hg : W.grownBy W' row) (hr : ∀ r, row = some r → ∃ o : Obj, W.heap[r]? = some o ∧ o.isCells = false) : NSG R base F W' lv le vlv vle bs cs ks S := n.step hR (fun k hk => grown_cells hg hr (n.cells hR k hk))
theorem NSG.below (hR : Sta R) (n : NSG R base F W lv le vlv vle bs cs ks S) (hb : Below W.heap.size W W') : NSG R base F W' lv le vlv vle bs cs ks S := n.step hR (fun k hk => hb.block k (n.cells hR k hk).lt)
end
/-- A frame's word from blocks of cells that turn. -/
theorem keepsFrom_fr {B : Nat} {W W' : World} {S : List Nat} (hf : Fr S W W') (hc : ∀ k ∈ S, k < W.heap.size → IsC W k) : KeepsFrom B W W' := ⟨hf.size, fun k o hk h0 ho => by
  refine (hf.block k (Array.getElem?_eq_some_iff.1 h0).1 (fun hx => ?_)).trans h0
  obtain ⟨c, t, fr, h9⟩ := hc k hx (Array.getElem?_eq_some_iff.1 h0).1
  rw [h0] at h9
  cases h9
  cases ho⟩
def markOf (D : Nat) : Deferred := { target := .collected D, args := #[] }
theorem leave_marks {F : Fence} {n : Nat} {P : Program} {fn : Func} {t u : Tmp} (hfn : fn.results = #[.tmp t, .tmp u]) {tmps : Array Value} {R : Ending → World → Prop} : ∀ (Ds : List Nat) (W : World), Ds.Nodup → (∀ D ∈ Ds, W.heap[D]? = some (.deferred (some []))) → (∀ W', Fr Ds W W' → R (.returned (.tuple #[tmps.getD t undef, tmps.getD u undef])) W') → LeavesInM F n P fn tmps R (Ds.map markOf) .returning W
  | [], W, _, _, h => ⟨_, results_tmp2 hfn tmps P W, h W (Fr.refl _ _)⟩
  | D :: Ds, W, hn, hd, h => by
    obtain ⟨n1, n2⟩ := List.nodup_cons.1 hn
    have hD := hd D (by simp)
    refine ⟨by simp, .inl ⟨D, _, rfl, run_takeDeferred hD, ?_⟩⟩
    have hfr : Fr [D] W (W.putObj D (.deferred none)) := ⟨rfl, rfl, rfl, by simp, fun k hk hx => World.putObj_heap_other (fun e => hx (by rw [e]; simp))⟩
    refine leave_marks hfn Ds _ n2 (fun D' hD' => (hfr.block D' (Array.getElem?_eq_some_iff.1 (hd D' (by simp [hD']))).1 (fun hx => n1 (by simp at hx; rw [← hx]; exact hD'))).trans (hd D' (by simp [hD']))) (fun W' hW' => h W' ?_)
    exact (hfr.mono (T := D :: Ds) (fun x hx => by simp at hx; rw [hx]; simp)).trans hW' (fun x hx => .inl (by simp [hx]))
end Go.Proofs.YtmomohljnmopfaaX
end
section
namespace Go.Proofs.YtmomohljnmopfaaX
open Go.RowKit Go.Lib Go.Proofs.YtmomohljnmopfaaW.PrintWords Go.Proofs.YtmomohljnmopfaaW.PrintLast Go.Proofs.YtmomohljnmopfaaW.PrintMore
set_option linter.unusedVariables false
set_option linter.unusedSimpArgs false
/-- What New keeps over the rounds that build the leaves. -/
def St1 (M n b3 rt tb lv le nb mb : Nat) (l : List KV) (w W1 : World) (pre : List (Fin M)) (W : World) : Prop :=
  (∃ vlv vle bs S, NS b3 [b3, rt, tb, nb, mb] 0 W lv le vlv vle bs (pre.map fun i => (chunk l n M i.val : List KV)) (pre.map fun i => headK (l.drop (cutAt n M i.val))) S) ∧ (∀ k ∈ [b3, rt, tb, nb, mb], W.heap[k]? = W1.heap[k]?) ∧ (∀ k ∈ [b3, rt, tb, nb, mb], IsC W1 k) ∧ Below b3 w W
theorem grown_below {b : Nat} {w A B : World} {row : Option Nat} {B0 : Nat} (hb : b ≤ B0) (h : Below b w A) (hg : A.grownBy B row) (hr : ∀ r, row = some r → B0 ≤ r ∧ ∃ o : Obj, A.heap[r]? = some o ∧ o.isCells = false) (hwb : b ≤ w.heap.size) : Below b w B := by
  have h2 : Below b A B := ⟨hg.os, hg.tape, hg.output, hg.size, fun k hk => hg.block k (by have := h.size; omega) (fun e => by have := (hr k e.symm).1; omega)⟩
  exact h.trans h2
theorem st1_own {M n b3 rt tb lv le nb mb B0 : Nat} {l : List KV} {w W1 : World} (hb : b3 ≤ B0) (hwb : b3 ≤ w.heap.size) : OwnFrom B0 (St1 M n b3 rt tb lv le nb mb l w W1) := by
  rintro s A B row ⟨⟨vlv, vle, bs, S, h1⟩, h2, h3, h4⟩ hg hr
  have hr2 : ∀ r, row = some r → ∃ o : Obj, A.heap[r]? = some o ∧ o.isCells = false := fun r e => (hr r e).2
  refine ⟨⟨vlv, vle, bs, S, h1.grown node_sta hg hr2⟩, fun k hk => ?_, h3, grown_below hb h4 hg hr hwb⟩
  obtain ⟨c, t, fr, h9⟩ := h3 k hk
  exact (grown_cells hg hr2 ⟨c, t, fr, (h2 k hk).trans h9⟩).trans (h2 k hk)
theorem st1_start {M n b3 rt tb lv le nb mb : Nat} {l : List KV} {w W1 : World} (hlv : W1.heap[lv]? = some (.cells #[.slice none 0 0] 72 (0, 0))) (hle : W1.heap[le]? = some (.cells #[.slice none 0 0] 71 (0, 0))) (hc : ∀ k ∈ [b3, rt, tb, nb, mb], IsC W1 k) (hb : Below b3 w W1) (h : b3 < rt ∧ tb = rt + 1 ∧ lv = tb + 1 ∧ le = lv + 1 ∧ nb = le + 1 ∧ mb = nb + 1) : St1 M n b3 rt tb lv le nb mb l w W1 [] W1 := by
  refine ⟨⟨.slice none 0 0, .slice none 0 0, [], [], ⟨hlv, hle, RowV.nil _ _, RowV.nil _ _, rfl, ?_, ?_, ?_⟩⟩, fun _ _ => rfl, hc, hb⟩
  · simp [Value.ownBlock]; omega
  · simp [Value.ownBlock]; omega
  · simp [Value.ownBlock]; omega
theorem kpB_put {nb mb : Nat} {W : World} {l : Nat} {o : Obj} (h1 : nb < l) (h2 : mb < l) : KpB nb mb W (W.putObj l o) := ⟨World.putObj_heap_other (by omega), World.putObj_heap_other (by omega)⟩
theorem no_lets {Q : Exit → Act → World → Prop} (h : ∀ a w, Q .outgrown a w → False) : ¬ LetsOut Q := fun ⟨a, w, h9⟩ => h a w h9
theorem w64j {j : Nat} (h : j ≤ 4294967296) : wrap64 ((j : Int) + 1) = ((j + 1 : Nat) : Int) := by unfold wrap64; omega
theorem put2 {w : World} {b : Nat} {x y z u v : Value} (h : w.heap[b]? = some (.cells #[x, y, z] 74 (0, 0))) : ((w.setCell ⟨b, 0, none⟩ u).setCell ⟨b, 1, none⟩ v).heap[b]? = some (.cells #[u, v, z] 74 (0, 0)) := blk_put (blk_put h 0 u rfl) 1 v rfl
theorem put2_fr (w : World) (b : Nat) (u v : Value) : Fr [b] w ((w.setCell ⟨b, 0, none⟩ u).setCell ⟨b, 1, none⟩ v) := ((Fr.refl _ _).setCell (p := ⟨b, 0, none⟩) (.inl (by simp)) _).setCell (p := ⟨b, 1, none⟩) (.inl (by simp)) _
theorem leaf_grow {W0 w3 : World} {b : Nat} {kv kv' cv cv' : Value} {xs' ys' : List Value} {R : List Nat} {x y : Value} {l' : List KV} (T : Two W0 b kv cv R) (h : Done 9 9 W0 w3 b kv kv' xs' cv cv' ys' R) (hb : W0.heap[b]? = some (.cells #[x, y, .slice none 0 0] 74 (0, 0))) (hx : xs' = encKs (keysOf l')) (hy : ys' = encVs l') :
    LeafAt ((w3.setCell ⟨b, 0, none⟩ kv').setCell ⟨b, 1, none⟩ cv') b l' (b :: (kv'.ownBlock.toList ++ cv'.ownBlock.toList)) ∧ Fr (b :: (kv.ownBlock.toList ++ cv.ownBlock.toList)) W0 ((w3.setCell ⟨b, 0, none⟩ kv').setCell ⟨b, 1, none⟩ cv') := by
  obtain ⟨r1, r2⟩ := h.stored (put2_fr w3 b kv' cv')
  subst hx
  subst hy
  refine ⟨⟨kv', cv', put2 (h.blk T hb), r1, r2, rfl, ?_⟩, ?_⟩
  · obtain ⟨n1, n2⟩ := List.nodup_cons.1 h.nd
    obtain ⟨n3, n4, n5⟩ := List.nodup_append.1 n2
    obtain ⟨n6, n7, n8⟩ := List.nodup_append.1 n4
    refine List.nodup_cons.2 ⟨fun hx => n1 ?_, List.nodup_append.2 ⟨n3, n6, fun a ha c hc => n5 a ha c (List.mem_append_left _ hc)⟩⟩
    rcases List.mem_append.1 hx with hx | hx
    · exact List.mem_append_left _ hx
    · exact List.mem_append_right _ (List.mem_append_left _ hx)
  · exact (h.fr.mono (fun x hx => List.mem_cons_of_mem _ hx)).trans (put2_fr w3 b kv' cv') (fun x hx => .inl (by simp at hx; rw [hx]; simp))
theorem many_le_n {n m : Nat} (h4 : 4 ≤ m) : manyOf n m ≤ n := by
  rcases Nat.eq_zero_or_pos n with h0 | h0
  · rw [h0, many_zero h4]; exact Nat.le_refl _
  · have h5 := many_lt h4 h0
    obtain ⟨q, hq⟩ : ∃ q, manyOf n m = q + 1 := ⟨manyOf n m - 1, by have := many_pos h4 h0; omega⟩
    rw [hq, Nat.add_sub_cancel] at h5
    have : q * 1 ≤ q * m := Nat.mul_le_mul_left _ (by omega)
    omega
theorem appSB {W : World} {A : Option Addr} {n c vb : Nat} {xs : List Value} {us : ByteArray} (hk : RowV 9 W (.slice A n c) xs) (hvb : W.heap[vb]? = some (.cells #[.string us] 9 (0, 0))) (hn : n ≤ 4294967296) :
    ∃ g c' w', (Builtin.append_ #[71, 71] 71 #[.slice A n c, .slice (some ⟨vb, 0, none⟩) 1 1]).run Try.prog W = .ok (.slice (some ⟨g, 0, none⟩) (n + 1) c') w' ∧ Turn 9 W w' (.slice A n c) (.slice (some ⟨g, 0, none⟩) (n + 1) c') (xs ++ [.string us]) := by
  have hl := hk.cap.1
  have hs : SrcV W (some ⟨vb, 0, none⟩) [Value.string us] := fun _ => ⟨_, rfl, fun j q hj => by
    cases j with
    | zero => simp at hj; subst hj; rw [add_lit0]; exact (blk_cell hvb 0).trans rfl
    | succ j => simp at hj⟩
  obtain ⟨v', w', hr, h1, h2, h3⟩ := hk.append (ys := [.string us]) 71 71 Try.underlying71 infoS rfl (by decide) (c := 1) hs (fun u hu => by simp at hu; rw [hu]; rfl) (by simp; omega)
  obtain ⟨g, c', rfl⟩ := row_some h1 (by simp)
  have e1 : (xs ++ [Value.string us]).length = n + 1 := by simp [hl]
  rw [e1] at hr h1 h3
  exact ⟨g, c', w', hr, h1, h2, h3⟩
theorem appNB {W : World} {A : Option Addr} {n c vb d : Nat} {xs : List Value} (hk : RowV 70 W (.slice A n c) xs) (hvb : W.heap[vb]? = some (.cells #[.pointer (some ⟨d, 0, none⟩)] 70 (0, 0))) (hn : n ≤ 4294967296) :
    ∃ g c' w', (Builtin.append_ #[72, 72] 72 #[.slice A n c, .slice (some ⟨vb, 0, none⟩) 1 1]).run Try.prog W = .ok (.slice (some ⟨g, 0, none⟩) (n + 1) c') w' ∧ Turn 70 W w' (.slice A n c) (.slice (some ⟨g, 0, none⟩) (n + 1) c') (xs ++ [encP d]) := by
  have hl := hk.cap.1
  have hs : SrcV W (some ⟨vb, 0, none⟩) [encP d] := fun _ => ⟨_, rfl, fun j q hj => by
    cases j with
    | zero => simp at hj; subst hj; rw [add_lit0]; exact (blk_cell hvb 0).trans rfl
    | succ j => simp at hj⟩
  obtain ⟨v', w', hr, h1, h2, h3⟩ := hk.append (ys := [encP d]) 72 72 Try.underlying72 infoN rfl (by decide) (c := 1) hs (fun u hu => by simp at hu; rw [hu]; rfl) (by simp; omega)
  obtain ⟨g, c', rfl⟩ := row_some h1 (by simp)
  have e1 : (xs ++ [encP d]).length = n + 1 := by simp [hl]
  rw [e1] at hr h1 h3
  exact ⟨g, c', w', hr, h1, h2, h3⟩
theorem put_lv_le {w : World} {lv le : Nat} {u v x y : Value} (h1 : w.heap[lv]? = some (.cells #[x] 72 (0, 0))) (h2 : w.heap[le]? = some (.cells #[y] 71 (0, 0))) (hne : lv ≠ le) :
    ((w.setCell ⟨lv, 0, none⟩ u).setCell ⟨le, 0, none⟩ v).heap[lv]? = some (.cells #[u] 72 (0, 0)) ∧ ((w.setCell ⟨lv, 0, none⟩ u).setCell ⟨le, 0, none⟩ v).heap[le]? = some (.cells #[v] 71 (0, 0)) := by
  have f1 : Fr [lv] w (w.setCell ⟨lv, 0, none⟩ u) := (Fr.refl _ _).setCell (p := ⟨lv, 0, none⟩) (.inl (by simp)) _
  have f2 : Fr [le] (w.setCell ⟨lv, 0, none⟩ u) ((w.setCell ⟨lv, 0, none⟩ u).setCell ⟨le, 0, none⟩ v) := (Fr.refl _ _).setCell (p := ⟨le, 0, none⟩) (.inl (by simp)) _
  exact ⟨f2.blk (blk_put h1 0 u rfl) (by simpa using hne), blk_put (f1.blk h2 (by simpa using Ne.symm hne)) 0 v rfl⟩
theorem put_fr (w : World) (lv le : Nat) (u v : Value) : Fr [lv, le] w ((w.setCell ⟨lv, 0, none⟩ u).setCell ⟨le, 0, none⟩ v) := ((Fr.refl _ _).setCell (p := ⟨lv, 0, none⟩) (.inl (by simp)) _).setCell (p := ⟨le, 0, none⟩) (.inl (by simp)) _
theorem own_fresh {W : World} {NB : Nat} {e : TypeId} {v : Value} {xs : List Value} (h : RowV e W v xs) (hz : W.heap.size ≤ NB) : ∀ k ∈ v.ownBlock.toList, k < NB := fun k hk => Nat.lt_of_lt_of_le (h.lt k hk) hz
theorem ns_two {α : Type} {R : World → Nat → α → List Nat → Prop} (hR : Sta R) {base : Nat} {F : List Nat} {W : World} {lv le : Nat} {vlv vle : Value} {bs : List Nat} {cs : List α} {ks : List Nm} {S SL : List Nat} (n : NSG R base F W lv le vlv vle bs cs ks S) (hn : SL.Nodup) (hl : ∀ y ∈ SL, y < W.heap.size) (ha : ∀ x ∈ lv :: le :: (vlv.ownBlock.toList ++ (vle.ownBlock.toList ++ S)), x ∉ SL) : Two W lv vlv vle (le :: (SL ++ S)) := by
  have hlt : ∀ x ∈ lv :: le :: (vlv.ownBlock.toList ++ (vle.ownBlock.toList ++ S)), x < W.heap.size := fun x hx => (n.cells hR x hx).lt
  refine ⟨hlt lv (by simp), fun k hk => hlt k (by simp only [List.mem_cons, List.mem_append]; simp [hk]), fun k hk => hlt k (by simp only [List.mem_cons, List.mem_append]; simp [hk]), fun k hk => ?_, ?_⟩
  · rcases List.mem_cons.1 hk with rfl | hk
    · exact hlt _ (by simp)
    · rcases List.mem_append.1 hk with hk | hk
      · exact hl k hk
      · exact hlt k (by simp only [List.mem_cons, List.mem_append]; simp [hk])
  · have h9 : ((lv :: le :: (vlv.ownBlock.toList ++ (vle.ownBlock.toList ++ S))) ++ SL).Nodup := List.nodup_append.2 ⟨n.nd, hn, fun a ha' b hb e => ha a ha' (by rw [e]; exact hb)⟩
    exact nd_perm h9 (fun a => by simp only [List.count_append, List.count_cons]; omega)
/-- A node behind the level, its least key behind the least ones. -/
theorem ns_grow {α : Type} {R : World → Nat → α → List Nat → Prop} (hR : Sta R) {base NB : Nat} {F : List Nat} {W w3 : World} {lv le : Nat} {vlv vle vlv' vle' : Value} {bs : List Nat} {cs : List α} {ks : List Nm} {S SL : List Nat} {t : α} {k : Nm} (n : NSG R base F W lv le vlv vle bs cs ks S)
    (hnd : R W NB t SL) (hS1 : ∀ y ∈ SL, base ≤ y) (hSF : ∀ y ∈ F, y ∉ SL) (hFl : ∀ y ∈ F, y < W.heap.size) (hB : base ≤ W.heap.size) (T0 : Two W lv vlv vle (le :: (SL ++ S)))
    (d : Done 70 9 W w3 lv vlv vlv' (bs.map encP ++ [encP NB]) vle vle' (encKs ks ++ [.string ⟨k.toArray⟩]) (le :: (SL ++ S))) :
    NSG R base F ((w3.setCell ⟨lv, 0, none⟩ vlv').setCell ⟨le, 0, none⟩ vle') lv le vlv' vle' (bs ++ [NB]) (cs ++ [t]) (ks ++ [k]) (S ++ SL) ∧ Fr (lv :: le :: (vlv.ownBlock.toList ++ vle.ownBlock.toList)) W ((w3.setCell ⟨lv, 0, none⟩ vlv').setCell ⟨le, 0, none⟩ vle') := by
  obtain ⟨n1, n2⟩ := List.nodup_cons.1 d.nd
  obtain ⟨n3, n4, n5⟩ := List.nodup_append.1 n2
  obtain ⟨n6, n7, n8⟩ := List.nodup_append.1 n4
  obtain ⟨n9, n10⟩ := List.nodup_cons.1 n7
  have f0 := put_fr w3 lv le vlv' vle'
  have hle3 : w3.heap[le]? = some (.cells #[vle] 71 (0, 0)) := (d.rest T0 le (by simp)).trans n.hle
  have hlv3 : w3.heap[lv]? = some (.cells #[vlv] 72 (0, 0)) := d.blk T0 n.hlv
  have hne : lv ≠ le := fun e => n1 (by rw [e]; simp)
  obtain ⟨p1, p2⟩ := put_lv_le (u := vlv') (v := vle') hlv3 hle3 hne
  have r1 : RowV 70 ((w3.setCell ⟨lv, 0, none⟩ vlv').setCell ⟨le, 0, none⟩ vle') vlv' (bs.map encP ++ [encP NB]) := d.row1.fr f0 (fun y hy hx => by
    simp only [List.mem_cons, List.not_mem_nil, or_false] at hx
    rcases hx with rfl | rfl
    · exact n1 (List.mem_append_left _ hy)
    · exact n5 y hy y (List.mem_append_right _ (by simp)) rfl)
  have r2 : RowV 9 ((w3.setCell ⟨lv, 0, none⟩ vlv').setCell ⟨le, 0, none⟩ vle') vle' (encKs ks ++ [.string ⟨k.toArray⟩]) := d.row2.fr f0 (fun y hy hx => by
    simp only [List.mem_cons, List.not_mem_nil, or_false] at hx
    rcases hx with rfl | rfl
    · exact n1 (List.mem_append_right _ (List.mem_append_left _ hy))
    · exact n8 y hy y (by simp) rfl)
  have hkeep : ∀ y ∈ SL ++ S, ((w3.setCell ⟨lv, 0, none⟩ vlv').setCell ⟨le, 0, none⟩ vle').heap[y]? = W.heap[y]? := fun y hy => by
    have h3 := d.rest T0 y (by simp only [List.mem_cons]; exact .inr hy)
    have hlt := T0.rlt y (by simp only [List.mem_cons]; exact .inr hy)
    refine (f0.block y (Nat.lt_of_lt_of_le hlt d.fr.size) (fun hx => ?_)).trans h3
    simp only [List.mem_cons, List.not_mem_nil, or_false] at hx
    rcases hx with rfl | rfl
    · exact n1 (by simp only [List.mem_append, List.mem_cons]; exact .inr (.inr (.inr (List.mem_append.1 hy))))
    · exact n9 hy
  have hge := n.ge
  have hne9 := n.ne
  refine ⟨⟨p1, p2, by rw [List.map_append]; exact r1, by rw [show encKs (ks ++ [k]) = encKs ks ++ [.string ⟨k.toArray⟩] by simp [encKs, encN]]; exact r2, ?_, ?_, ?_, ?_⟩, ?_⟩
  · refine kids_app (kids_imp n.kids (fun b' c' T hs hr => hR.step _ _ _ _ _ hr (fun y hy => hkeep y (List.mem_append_right _ (hs y hy))))) ?_
    exact ⟨SL, [], hR.step _ _ _ _ _ hnd (fun y hy => hkeep y (List.mem_append_left _ hy)), rfl, (List.append_nil _).symm⟩
  · refine nd_perm d.nd (fun a => ?_)
    simp only [List.count_append, List.count_cons]; omega
  · intro y hy
    simp only [List.mem_cons, List.mem_append] at hy
    rcases hy with rfl | rfl | hy | hy | hy | hy
    · exact hge _ (by simp)
    · exact hge _ (by simp)
    · rcases d.sub1 y hy with h9 | h9
      · exact hge y (by simp only [List.mem_cons, List.mem_append]; simp [h9])
      · exact Nat.le_trans hB h9
    · rcases d.sub2 y hy with h9 | h9
      · exact hge y (by simp only [List.mem_cons, List.mem_append]; simp [h9])
      · exact Nat.le_trans hB h9
    · exact hge y (by simp only [List.mem_cons, List.mem_append]; simp [hy])
    · exact hS1 y hy
  · intro y hy hx
    have h8 := hne9 y hy
    have h7 := hFl y hy
    simp only [List.mem_cons, List.mem_append] at hx h8
    rcases hx with rfl | rfl | hx | hx | hx | hx
    · exact h8 (by simp)
    · exact h8 (by simp)
    · rcases d.sub1 y hx with h9 | h9
      · exact h8 (by simp [h9])
      · omega
    · rcases d.sub2 y hx with h9 | h9
      · exact h8 (by simp [h9])
      · omega
    · exact h8 (by simp [hx])
    · exact hSF y hy hx
  · exact (d.fr.mono (T := lv :: le :: (vlv.ownBlock.toList ++ vle.ownBlock.toList)) (fun x hx => by simp only [List.mem_cons]; exact .inr (.inr hx))).trans f0 (fun x hx => .inl (by simp only [List.mem_cons, List.not_mem_nil, or_false] at hx; simp only [List.mem_cons]; rcases hx with rfl | rfl <;> simp))
theorem st1_grow {M n b3 rt tb lv le nb mb NB : Nat} {l : List KV} {w W1 W wr w3 : World} {pre : List (Fin M)} {x : Fin M} {vlv vle vlv' vle' : Value} {bs S0 SL : List Nat} {cs : List KV} {k : Nm} (HI : St1 M n b3 rt tb lv le nb mb l w W1 pre W) (hwb : w.heap.size = b3) (hNB : W.heap.size = NB) (h3 : Below NB W wr)
    (ns1 : NS b3 [b3, rt, tb, nb, mb] 0 wr lv le vlv vle bs (pre.map fun i => (chunk l n M i.val : List KV)) (pre.map fun i => headK (l.drop (cutAt n M i.val))) S0) (hLA : NodeAt 0 wr NB (cs : T 0) SL) (h5 : ∀ y ∈ SL, NB ≤ y) (hcs : chunk l n M x.val = cs) (hk : headK (l.drop (cutAt n M x.val)) = k) (TW : Two wr lv vlv vle (le :: (SL ++ S0)))
    (d : Done 70 9 wr w3 lv vlv vlv' (bs.map encP ++ [encP NB]) vle vle' (encKs (pre.map fun i => headK (l.drop (cutAt n M i.val))) ++ [.string ⟨k.toArray⟩]) (le :: (SL ++ S0))) :
    KeepsFrom W1.heap.size W ((w3.setCell ⟨lv, 0, none⟩ vlv').setCell ⟨le, 0, none⟩ vle') ∧ KpB nb mb W ((w3.setCell ⟨lv, 0, none⟩ vlv').setCell ⟨le, 0, none⟩ vle') ∧ St1 M n b3 rt tb lv le nb mb l w W1 (pre ++ [x]) ((w3.setCell ⟨lv, 0, none⟩ vlv').setCell ⟨le, 0, none⟩ vle') := by
  obtain ⟨-, hf0, hfc, hbw⟩ := HI
  have hFW : ∀ y ∈ [b3, rt, tb, nb, mb], y < W.heap.size := fun y hy => by
    obtain ⟨c, t, fr, h9⟩ := hfc y hy
    exact blk_lt ((hf0 y hy).trans h9)
  have hbn : b3 ≤ NB := by have := hFW b3 (by simp); omega
  obtain ⟨g1, g2⟩ := ns_grow node_sta (k := k) ns1 hLA (fun y hy => Nat.le_trans hbn (h5 y hy)) (fun y hy h9 => by have := hFW y hy; have := h5 y h9; omega) (fun y hy => Nat.lt_of_lt_of_le (hFW y hy) h3.size) (by have := h3.size; omega) TW d
  have hsub : ∀ y ∈ lv :: le :: (vlv.ownBlock.toList ++ vle.ownBlock.toList), y ∈ lv :: le :: (vlv.ownBlock.toList ++ (vle.ownBlock.toList ++ S0)) := fun y hy => by
    simp only [List.mem_cons, List.mem_append] at hy ⊢
    rcases hy with h | h | h | h <;> simp [h]
  have hF5 : ∀ y ∈ [b3, rt, tb, nb, mb], ((w3.setCell ⟨lv, 0, none⟩ vlv').setCell ⟨le, 0, none⟩ vle').heap[y]? = W.heap[y]? := fun y hy => by
    refine (g2.block y (Nat.lt_of_lt_of_le (hFW y hy) h3.size) (fun h9 => ns1.ne y hy (hsub y h9))).trans (h3.block y (by have := hFW y hy; omega))
  refine ⟨?_, ⟨hF5 nb (by simp), hF5 mb (by simp)⟩, ⟨vlv', vle', bs ++ [NB], S0 ++ SL, ?_⟩, fun y hy => (hF5 y hy).trans (hf0 y hy), hfc, ?_⟩
  · exact (keepsFrom_fr (S := []) (Fr.of_below (by rw [hNB]; exact h3) []) (fun _ h9 => by cases h9)).trans (keepsFrom_fr g2 (fun y hy _ => ns1.cells node_sta y (hsub y hy)))
  · have e1 : ((pre ++ [x]).map fun i => (chunk l n M i.val : List KV)) = (pre.map fun i => (chunk l n M i.val : List KV)) ++ [cs] := by rw [List.map_append, List.map_singleton, hcs]
    have e2 : ((pre ++ [x]).map fun i => headK (l.drop (cutAt n M i.val))) = (pre.map fun i => headK (l.drop (cutAt n M i.val))) ++ [k] := by rw [List.map_append, List.map_singleton, hk]
    have h9 : ∀ (L : List (T 0)) (K : List Nm), L = (pre.map fun i => (chunk l n M i.val : List KV)) ++ [cs] → K = (pre.map fun i => headK (l.drop (cutAt n M i.val))) ++ [k] → NS b3 [b3, rt, tb, nb, mb] 0 ((w3.setCell ⟨lv, 0, none⟩ vlv').setCell ⟨le, 0, none⟩ vle') lv le vlv' vle' (bs ++ [NB]) L K (S0 ++ SL) := by
      rintro _ _ rfl rfl
      exact g1
    exact h9 _ _ e1 e2
  · exact hbw.trans ((h3.mono hbn).trans (g2.below_base (fun y hy => ns1.ge y (hsub y hy)) (by have := h3.size; omega)))
theorem head_at {L : List KV} {q : KV} (h : L[0]? = some q) : headK L = q.1 := by
  cases L with
  | nil => cases h
  | cons p L => cases h; rfl
end Go.Proofs.YtmomohljnmopfaaX
end
section
namespace Go.Proofs.YtmomohljnmopfaaX
open Go.RowKit Go.Lib Go.Proofs.YtmomohljnmopfaaW.PrintWords Go.Proofs.YtmomohljnmopfaaW.PrintLast Go.Proofs.YtmomohljnmopfaaW.PrintMore
set_option linter.unusedVariables false
set_option linter.unusedSimpArgs false
theorem SrcV.take {w : World} {A : Option Addr} {xs : List Value} (h : SrcV w A xs) (k : Nat) : SrcV w A (xs.take k) := fun hne => by
  obtain ⟨ad, h1, h2⟩ := h (fun e => hne (by rw [e, List.take_nil]))
  exact ⟨ad, h1, fun j u hj => by
    rw [List.getElem?_take] at hj
    split at hj
    · exact h2 j u hj
    · cases hj⟩
/-- An inner node, by itself: its keys, and where its kids lie. -/
def Shal (W : World) (b : Nat) (p : List Nm × List Nat) (S : List Nat) : Prop :=
  ∃ kv cv, W.heap[b]? = some (.cells #[kv, .slice none 0 0, cv] 74 (0, 0)) ∧ RowV 9 W kv (encKs p.1) ∧ RowV 70 W cv (p.2.map encP) ∧ S = b :: (kv.ownBlock.toList ++ cv.ownBlock.toList) ∧ S.Nodup
theorem shal_sta : Sta Shal := ⟨fun W W' b p S ⟨kv, cv, h1, h2, h3, h4, h5⟩ hb => by
    subst h4
    exact ⟨kv, cv, (hb b (by simp)).trans h1, h2.step (fun k hk => hb k (by simp [hk])), h3.step (fun k hk => hb k (by simp [hk])), rfl, h5⟩,
  fun W b p S ⟨kv, cv, h1, h2, h3, h4, _⟩ k hk => by
    subst h4
    rcases List.mem_cons.1 hk with rfl | hk
    · exact ⟨_, _, _, h1⟩
    · rcases List.mem_append.1 hk with hk | hk
      · exact rowV_cells h2 k hk
      · exact rowV_cells h3 k hk⟩
def partOf (f : Nat → Nat) (ks : List Nm) (bs : List Nat) (i : Nat) : List Nm × List Nat := ((ks.drop (f i + 1)).take (f (i + 1) - (f i + 1)), (bs.drop (f i)).take (f (i + 1) - f i))
theorem build_up {h : Nat} {W : World} {ks : List Nm} {bs : List Nat} {cs : List (T h)} (f : Nat → Nat) (hk : ks.length = cs.length) : ∀ (n j : Nat) (bs2 S2 S : List Nat), (∀ i, j ≤ i → i < j + n → f i < f (i + 1) ∧ f (i + 1) ≤ cs.length) → f (j + n) = cs.length →
    KidsAt (Shal W) bs2 ((List.range' j n).map (partOf f ks bs)) S2 → KidsAt (NodeAt h W) (bs.drop (f j)) (cs.drop (f j)) S → (S2 ++ S).Nodup →
    ∃ S', KidsAt (NodeAt (h + 1) W) bs2 ((List.range' j n).map (upNode f ks cs)) S' ∧ ∀ a, S'.count a = S2.count a + S.count a
  | 0, j, bs2, S2, S, hf, he, hs, ho, hn => by
    have he : f j = cs.length := he
    cases bs2 with
    | nil =>
      have e1 : cs.drop (f j) = [] := List.drop_eq_nil_of_le (by omega)
      have e2 := kids_len ho
      rw [e1, List.length_nil, List.length_eq_zero_iff] at e2
      rw [e1, e2] at ho
      have hS : S = [] := ho
      have hS2 : S2 = [] := hs
      subst hS
      subst hS2
      exact ⟨[], rfl, fun a => rfl⟩
    | cons b bs2 => exact hs.elim
  | n + 1, j, bs2, S2, S, hf, he, hs, ho, hn => by
    obtain ⟨q1, q2⟩ := hf j (Nat.le_refl _) (by omega)
    rw [List.range'_succ] at hs ⊢
    rw [List.map_cons] at hs ⊢
    cases bs2 with
    | nil => exact hs.elim
    | cons b bs2 =>
      obtain ⟨S1, S3, ⟨kv, cv, h1, h2, h3, h4, h5⟩, hs3, rfl⟩ := hs
      obtain ⟨Sa, Sb, k1, k2, rfl⟩ := kids_split (f (j + 1) - f j) ho
      rw [List.drop_drop, List.drop_drop, show f j + (f (j + 1) - f j) = f (j + 1) by omega] at k2
      have hn2 : (S3 ++ Sb).Nodup := by
        have h9 : ((S3 ++ Sb) ++ (S1 ++ Sa)).Nodup := nd_perm hn (fun a => by simp only [List.count_append]; omega)
        exact (List.nodup_append.1 h9).1
      obtain ⟨S', i1, i2⟩ := build_up f hk n (j + 1) bs2 S3 Sb (fun i hi1 hi2 => hf i (by omega) (by omega)) (by rw [← he]; congr 1; omega) hs3 k2 hn2
      have hn1 : (b :: (kv.ownBlock.toList ++ (cv.ownBlock.toList ++ Sa))).Nodup := by
        have h9 : ((S1 ++ Sa) ++ (S3 ++ Sb)).Nodup := nd_perm hn (fun a => by simp only [List.count_append]; omega)
        have h8 := (List.nodup_append.1 h9).1
        rw [h4] at h8
        exact nd_perm h8 (fun a => by simp only [List.count_append, List.count_cons]; omega)
      refine ⟨(b :: (kv.ownBlock.toList ++ (cv.ownBlock.toList ++ Sa))) ++ S', ⟨_, _, ?_, i1, rfl⟩, fun a => ?_⟩
      · refine ⟨kv, cv, _, Sa, h1, h2, h3, k1, ?_, rfl, hn1⟩
        show ((cs.drop (f j)).take (f (j + 1) - f j)).length = ((ks.drop (f j + 1)).take (f (j + 1) - (f j + 1))).length + 1
        rw [List.length_take, List.length_take, List.length_drop, List.length_drop]; omega
      · rw [List.count_append, i2, h4]
        simp only [List.count_append, List.count_cons]; omega
/-- A node behind the row of the level. -/
theorem nsg_push_node {α : Type} {R : World → Nat → α → List Nat → Prop} (hR : Sta R) {base NB : Nat} {F : List Nat} {W W' w2 : World} {lv le : Nat} {vlv vle vlv' : Value} {bs : List Nat} {cs : List α} {ks : List Nm} {S SL : List Nat} {t : α} (n : NSG R base F W lv le vlv vle bs cs ks S)
    (hb : Below W.heap.size W W') (hnd : R W' NB t SL) (hS1 : ∀ y ∈ SL, W.heap.size ≤ y) (hSn : SL.Nodup) (ht : Turn 70 W' w2 vlv vlv' (bs.map encP ++ [encP NB])) (hFl : ∀ y ∈ F, y < W.heap.size) (hB : base ≤ W.heap.size) :
    NSG R base F (w2.setCell ⟨lv, 0, none⟩ vlv') lv le vlv' vle (bs ++ [NB]) (cs ++ [t]) ks (S ++ SL) ∧ Fr (lv :: vlv.ownBlock.toList) W (w2.setCell ⟨lv, 0, none⟩ vlv') := by
  have hlt : ∀ x ∈ lv :: le :: (vlv.ownBlock.toList ++ (vle.ownBlock.toList ++ S)), x < W.heap.size := fun x hx => (n.cells hR x hx).lt
  have hSl : ∀ y ∈ SL, y < W'.heap.size := fun y hy => (hR.cells _ _ _ _ hnd y hy).lt
  obtain ⟨n1, n2⟩ := List.nodup_cons.1 n.nd
  obtain ⟨n3, n4⟩ := List.nodup_cons.1 n2
  obtain ⟨n5, n6, n7⟩ := List.nodup_append.1 n4
  have f1 : Fr vlv.ownBlock.toList W w2 := (Fr.of_below hb _).grown ht.2.1 (fun k hk => .inl (own_mem.2 hk.symm))
  have f2 : Fr [lv] w2 (w2.setCell ⟨lv, 0, none⟩ vlv') := (Fr.refl _ _).setCell (p := ⟨lv, 0, none⟩) (.inl (by simp)) _
  have f3 : Fr (lv :: vlv.ownBlock.toList) W (w2.setCell ⟨lv, 0, none⟩ vlv') := (f1.mono (T := lv :: vlv.ownBlock.toList) (fun x hx => List.mem_cons_of_mem _ hx)).trans f2 (fun x hx => .inl (by simp at hx; rw [hx]; simp))
  have hsub : ∀ k ∈ vlv'.ownBlock.toList, k ∈ vlv.ownBlock.toList ∨ W'.heap.size ≤ k := ht.sub (Nat.le_refl _)
  have keep : ∀ y, y < W.heap.size → y ≠ lv → y ∉ vlv.ownBlock.toList → (w2.setCell ⟨lv, 0, none⟩ vlv').heap[y]? = W.heap[y]? := fun y h1 h2 h3 => f3.block y h1 (by simp only [List.mem_cons, not_or]; exact ⟨h2, h3⟩)
  have hlv2 : w2.heap[lv]? = some (.cells #[vlv] 72 (0, 0)) := (f1.block lv (hlt lv (by simp)) (fun h9 => n1 (by simp only [List.mem_cons, List.mem_append]; exact .inr (.inl h9)))).trans n.hlv
  have keepL : ∀ y ∈ SL, (w2.setCell ⟨lv, 0, none⟩ vlv').heap[y]? = W'.heap[y]? := fun y hy => by
    have h1 := hS1 y hy
    have h2 : w2.heap[y]? = W'.heap[y]? := ht.2.1.block y (hSl y hy) (fun e => by
      have := hlt y (by simp only [List.mem_cons, List.mem_append]; exact .inr (.inr (.inl (own_mem.2 e)))); omega)
    refine (f2.block y (Nat.lt_of_lt_of_le (hSl y hy) ht.2.1.size) (fun h9 => ?_)).trans h2
    simp only [List.mem_singleton] at h9
    have := hlt lv (by simp)
    omega
  refine ⟨⟨blk_put hlv2 0 vlv' rfl, (keep le (hlt le (by simp)) (fun e => n1 (by rw [← e]; simp)) (fun h9 => n3 (List.mem_append_left _ h9))).trans n.hle, ?_, n.rle.step (fun k hk => keep k (hlt k (by simp only [List.mem_cons, List.mem_append]; simp [hk])) (fun e => n1 (by rw [← e]; simp only [List.mem_cons, List.mem_append]; simp [hk])) (fun h9 => n7 k h9 k (List.mem_append_left _ hk) rfl)), ?_, ?_, ?_, ?_⟩, f3⟩
  · rw [List.map_append]
    refine ht.1.fr f2 (fun k hk h9 => ?_)
    simp only [List.mem_singleton] at h9
    subst h9
    rcases hsub k hk with h8 | h8
    · exact n1 (by simp only [List.mem_cons, List.mem_append]; exact .inr (.inl h8))
    · have := hlt k (by simp); have := hb.size; omega
  · refine kids_app (kids_imp n.kids (fun b' c' T hs hr => hR.step _ _ _ _ _ hr (fun y hy => keep y (hlt y (by simp only [List.mem_cons, List.mem_append]; simp [hs y hy])) (fun e => n1 (by rw [← e]; simp only [List.mem_cons, List.mem_append]; simp [hs y hy])) (fun h9 => n7 y h9 y (List.mem_append_right _ (hs y hy)) rfl)))) ?_
    exact ⟨SL, [], hR.step _ _ _ _ _ hnd keepL, rfl, (List.append_nil _).symm⟩
  · have nd1 : (lv :: le :: (vle.ownBlock.toList ++ S) ++ SL).Nodup := by
      have h9 : (vlv.ownBlock.toList ++ (lv :: le :: (vle.ownBlock.toList ++ S))).Nodup := nd_perm n.nd (fun a => by simp only [List.count_append, List.count_cons]; omega)
      refine List.nodup_append.2 ⟨(List.nodup_append.1 h9).2.1, hSn, fun a ha b hb9 e => ?_⟩
      have h1 := hS1 b hb9
      have h2 := hlt a (by simp only [List.cons_append, List.mem_cons, List.mem_append] at ha ⊢; rcases ha with h | h | h | h <;> simp [h])
      omega
    have nd2 : ((lv :: le :: (vle.ownBlock.toList ++ S) ++ SL) ++ vlv'.ownBlock.toList).Nodup := by
      refine List.nodup_append.2 ⟨nd1, own_nodup _, fun a ha b hb9 e => ?_⟩
      subst e
      rcases hsub a hb9 with h8 | h8
      · rcases List.mem_append.1 ha with ha | ha
        · simp only [List.mem_cons, List.mem_append] at ha
          rcases ha with h | h | h | h
          · exact n1 (by rw [← h]; simp only [List.mem_cons, List.mem_append]; exact .inr (.inl h8))
          · exact n3 (by rw [← h]; exact List.mem_append_left _ h8)
          · exact n7 a h8 a (List.mem_append_left _ h) rfl
          · exact n7 a h8 a (List.mem_append_right _ h) rfl
        · have h1 := hS1 a ha
          have h2 := hlt a (by simp only [List.mem_cons, List.mem_append]; simp [h8])
          omega
      · rcases List.mem_append.1 ha with ha | ha
        · have h2 := hlt a (by simp only [List.mem_cons, List.mem_append] at ha ⊢; rcases ha with h | h | h | h <;> simp [h])
          have := hb.size; omega
        · have := hSl a ha; omega
    exact nd_perm nd2 (fun a => by simp only [List.cons_append, List.count_append, List.count_cons]; omega)
  · intro y hy
    simp only [List.mem_cons, List.mem_append] at hy
    rcases hy with rfl | rfl | hy | hy | hy | hy
    · exact n.ge _ (by simp)
    · exact n.ge _ (by simp)
    · rcases hsub y hy with h9 | h9
      · exact n.ge y (by simp only [List.mem_cons, List.mem_append]; simp [h9])
      · have := hb.size; omega
    · exact n.ge y (by simp only [List.mem_cons, List.mem_append]; simp [hy])
    · exact n.ge y (by simp only [List.mem_cons, List.mem_append]; simp [hy])
    · exact Nat.le_trans hB (hS1 y hy)
  · intro y hy hx
    have h8 := n.ne y hy
    have h7 := hFl y hy
    simp only [List.mem_cons, List.mem_append] at hx h8
    rcases hx with rfl | rfl | hx | hx | hx | hx
    · exact h8 (by simp)
    · exact h8 (by simp)
    · rcases hsub y hx with h9 | h9
      · exact h8 (by simp [h9])
      · have := hb.size; omega
    · exact h8 (by simp [hx])
    · exact h8 (by simp [hx])
    · have := hS1 y hx; omega
/-- A key behind the row of the least ones. -/
theorem nsg_push_key {α : Type} {R : World → Nat → α → List Nat → Prop} (hR : Sta R) {base : Nat} {F : List Nat} {W W' w2 : World} {lv le : Nat} {vlv vle vle' : Value} {bs : List Nat} {cs : List α} {ks : List Nm} {S : List Nat} {k : Nm} (n : NSG R base F W lv le vlv vle bs cs ks S)
    (hb : Below W.heap.size W W') (ht : Turn 9 W' w2 vle vle' (encKs ks ++ [.string ⟨k.toArray⟩])) (hFl : ∀ y ∈ F, y < W.heap.size) (hB : base ≤ W.heap.size) :
    NSG R base F (w2.setCell ⟨le, 0, none⟩ vle') lv le vlv vle' bs cs (ks ++ [k]) S ∧ Fr (le :: vle.ownBlock.toList) W (w2.setCell ⟨le, 0, none⟩ vle') := by
  have hlt : ∀ x ∈ lv :: le :: (vlv.ownBlock.toList ++ (vle.ownBlock.toList ++ S)), x < W.heap.size := fun x hx => (n.cells hR x hx).lt
  obtain ⟨n1, n2⟩ := List.nodup_cons.1 n.nd
  obtain ⟨n3, n4⟩ := List.nodup_cons.1 n2
  obtain ⟨n5, n6, n7⟩ := List.nodup_append.1 n4
  obtain ⟨m5, m6, m7⟩ := List.nodup_append.1 n6
  have f1 : Fr vle.ownBlock.toList W w2 := (Fr.of_below hb _).grown ht.2.1 (fun k hk => .inl (own_mem.2 hk.symm))
  have f2 : Fr [le] w2 (w2.setCell ⟨le, 0, none⟩ vle') := (Fr.refl _ _).setCell (p := ⟨le, 0, none⟩) (.inl (by simp)) _
  have f3 : Fr (le :: vle.ownBlock.toList) W (w2.setCell ⟨le, 0, none⟩ vle') := (f1.mono (T := le :: vle.ownBlock.toList) (fun x hx => List.mem_cons_of_mem _ hx)).trans f2 (fun x hx => .inl (by simp at hx; rw [hx]; simp))
  have hsub : ∀ k ∈ vle'.ownBlock.toList, k ∈ vle.ownBlock.toList ∨ W'.heap.size ≤ k := ht.sub (Nat.le_refl _)
  have keep : ∀ y, y < W.heap.size → y ≠ le → y ∉ vle.ownBlock.toList → (w2.setCell ⟨le, 0, none⟩ vle').heap[y]? = W.heap[y]? := fun y h1 h2 h3 => f3.block y h1 (by simp only [List.mem_cons, not_or]; exact ⟨h2, h3⟩)
  have hle2 : w2.heap[le]? = some (.cells #[vle] 71 (0, 0)) := (f1.block le (hlt le (by simp)) (fun h9 => n3 (List.mem_append_right _ (List.mem_append_left _ h9)))).trans n.hle
  refine ⟨⟨(keep lv (hlt lv (by simp)) (fun e => n1 (by rw [e]; simp)) (fun h9 => n1 (by simp only [List.mem_cons, List.mem_append]; exact .inr (.inr (.inl h9))))).trans n.hlv, blk_put hle2 0 vle' rfl, n.rlv.step (fun k hk => keep k (hlt k (by simp only [List.mem_cons, List.mem_append]; simp [hk])) (fun e => n3 (by rw [← e]; exact List.mem_append_left _ hk)) (fun h9 => n7 k hk k (List.mem_append_left _ h9) rfl)), ?_, ?_, ?_, ?_, ?_⟩, f3⟩
  · rw [show encKs (ks ++ [k]) = encKs ks ++ [.string ⟨k.toArray⟩] by simp [encKs, encN]]
    refine ht.1.fr f2 (fun k hk h9 => ?_)
    simp only [List.mem_singleton] at h9
    subst h9
    rcases hsub k hk with h8 | h8
    · exact n3 (List.mem_append_right _ (List.mem_append_left _ h8))
    · have := hlt k (by simp); have := hb.size; omega
  · exact kids_imp n.kids (fun b' c' T hs hr => hR.step _ _ _ _ _ hr (fun y hy => keep y (hlt y (by simp only [List.mem_cons, List.mem_append]; simp [hs y hy])) (fun e => n3 (by rw [← e]; exact List.mem_append_right _ (List.mem_append_right _ (hs y hy)))) (fun h9 => m7 y h9 y (hs y hy) rfl)))
  · have nd1 : ((lv :: le :: (vlv.ownBlock.toList ++ S)) ++ vle'.ownBlock.toList).Nodup := by
      have h9 : (vle.ownBlock.toList ++ (lv :: le :: (vlv.ownBlock.toList ++ S))).Nodup := nd_perm n.nd (fun a => by simp only [List.count_append, List.count_cons]; omega)
      have h10 := List.nodup_append.1 h9
      refine List.nodup_append.2 ⟨h10.2.1, own_nodup _, fun a ha b hb9 e => ?_⟩
      subst e
      rcases hsub a hb9 with h8 | h8
      · exact h10.2.2 a h8 a ha rfl
      · have h2 := hlt a (by simp only [List.mem_cons, List.mem_append] at ha ⊢; rcases ha with h | h | h | h <;> simp [h])
        have := hb.size; omega
    exact nd_perm nd1 (fun a => by simp only [List.cons_append, List.count_append, List.count_cons]; omega)
  · intro y hy
    simp only [List.mem_cons, List.mem_append] at hy
    rcases hy with rfl | rfl | hy | hy | hy
    · exact n.ge _ (by simp)
    · exact n.ge _ (by simp)
    · exact n.ge y (by simp only [List.mem_cons, List.mem_append]; simp [hy])
    · rcases hsub y hy with h9 | h9
      · exact n.ge y (by simp only [List.mem_cons, List.mem_append]; simp [h9])
      · have := hb.size; omega
    · exact n.ge y (by simp only [List.mem_cons, List.mem_append]; simp [hy])
  · intro y hy hx
    have h8 := n.ne y hy
    have h7 := hFl y hy
    simp only [List.mem_cons, List.mem_append] at hx h8
    rcases hx with rfl | rfl | hx | hx | hx
    · exact h8 (by simp)
    · exact h8 (by simp)
    · exact h8 (by simp [hx])
    · rcases hsub y hx with h9 | h9
      · exact h8 (by simp [h9])
      · have := hb.size; omega
    · exact h8 (by simp [hx])
end Go.Proofs.YtmomohljnmopfaaX
end
section
namespace Go.Proofs.YtmomohljnmopfaaX
open Go.RowKit Go.Lib Go.Proofs.YtmomohljnmopfaaW.PrintWords Go.Proofs.YtmomohljnmopfaaW.PrintLast Go.Proofs.YtmomohljnmopfaaW.PrintMore
set_option linter.unusedVariables false
set_option linter.unusedSimpArgs false
/-- What New keeps from level to level. -/
def LevS (m b3 rt tb lv le nb mb : Nat) (l : List KV) (w W1 : World) (Ds : List Nat) (k : Nat) (W : World) : Prop :=
  ∃ (h : Nat) (cs : List (T h)) (ks : List Nm) (vlv vle : Value) (bs S : List Nat), NS b3 [b3, rt, tb, nb, mb] h W lv le vlv vle bs cs ks S ∧ (∀ y ∈ [b3, rt, tb, nb, mb], W.heap[y]? = W1.heap[y]?) ∧ (∀ y ∈ [b3, rt, tb, nb, mb], IsC W1 y) ∧ Below b3 w W ∧ Ds.Nodup ∧ (∀ D ∈ Ds, W1.heap.size ≤ D ∧ W.heap[D]? = some (.deferred (some []))) ∧ bs.length ≤ k ∧ bs.length ≤ 2147483648 ∧ ks.length = bs.length ∧ ((l = [] ∧ bs = []) ∨ LevelOk m h cs ks l)
structure St2 {h : Nat} (M2 n2 b3 lv le up fi : Nat) (F : List Nat) (w W2 : World) (Ds : List Nat) (ks : List Nm) (bs : List Nat) (cs : List (T h)) (vlv vle : Value) (S : List Nat) (vup vfi : Value) (bs2 S2 : List Nat) (prn prk : List (Fin M2)) (W : World) : Prop where
  old : NS b3 F h W lv le vlv vle bs cs ks S
  new : NSG Shal b3 (F ++ (lv :: le :: (vlv.ownBlock.toList ++ (vle.ownBlock.toList ++ S)))) W up fi vup vfi bs2 (prn.map fun i => partOf (cutAt n2 M2) ks bs i.val) (prk.map fun i => ks.getD (cutAt n2 M2 i.val) []) S2
  fs : ∀ y ∈ F, W.heap[y]? = W2.heap[y]?
  fc : ∀ y ∈ F, IsC W2 y
  ds : ∀ D ∈ Ds, W.heap[D]? = some (.deferred (some []))
  bl : Below b3 w W
  sz : W2.heap.size ≤ W.heap.size
section
variable {h M2 n2 b3 lv le up fi : Nat} {F : List Nat} {w W2 W W' w2 : World} {Ds : List Nat} {ks : List Nm} {bs : List Nat} {cs : List (T h)} {vlv vle vup vfi vup' vfi' : Value} {S bs2 S2 SL : List Nat} {prn prk : List (Fin M2)}
theorem St2.flt (s : St2 M2 n2 b3 lv le up fi F w W2 Ds ks bs cs vlv vle S vup vfi bs2 S2 prn prk W) : ∀ y ∈ F ++ (lv :: le :: (vlv.ownBlock.toList ++ (vle.ownBlock.toList ++ S))), y < W.heap.size := fun y hy => by
  rcases List.mem_append.1 hy with hy | hy
  · exact Nat.lt_of_lt_of_le (s.fc y hy).lt s.sz
  · exact (s.old.cells node_sta y hy).lt
theorem st2_own (hb : b3 ≤ w.heap.size) (hB : b3 ≤ W2.heap.size) (hD : ∀ D ∈ Ds, D < W2.heap.size) : OwnFrom W2.heap.size (fun (pre : List (Fin M2)) W => ∃ vup vfi bs2 S2, St2 M2 n2 b3 lv le up fi F w W2 Ds ks bs cs vlv vle S vup vfi bs2 S2 pre pre W) := by
  rintro s A B row ⟨vup, vfi, bs2, S2, st⟩ hg hr
  have hr2 : ∀ r, row = some r → ∃ o : Obj, A.heap[r]? = some o ∧ o.isCells = false := fun r e => (hr r e).2
  refine ⟨vup, vfi, bs2, S2, st.old.grown node_sta hg hr2, st.new.grown shal_sta hg hr2, fun y hy => ?_, st.fc, fun D hD9 => ?_, grown_below hB st.bl hg hr hb, Nat.le_trans st.sz hg.size⟩
  · obtain ⟨c, t, fr, h9⟩ := st.fc y hy
    exact (grown_cells hg hr2 ⟨c, t, fr, (st.fs y hy).trans h9⟩).trans (st.fs y hy)
  · exact (hg.block D (blk_lt (st.ds D hD9)) (fun e => by have := (hr D e.symm).1; have := hD D hD9; omega)).trans (st.ds D hD9)
/-- What a frame of cells' blocks leaves. -/
theorem ds_keep {S : List Nat} (hf : Fr S W W') (hc : ∀ k ∈ S, IsC W k) {D : Nat} (hD : W.heap[D]? = some (.deferred (some []))) : W'.heap[D]? = some (.deferred (some [])) := (hf.block D (blk_lt hD) (fun hx => by
  obtain ⟨c, t, fr, h9⟩ := hc D hx
  rw [hD] at h9
  cases h9)).trans hD
theorem St2.push {X : List Nat} (s : St2 M2 n2 b3 lv le up fi F w W2 Ds ks bs cs vlv vle S vup vfi bs2 S2 prn prk W) (hX : ∀ y ∈ X, y ∈ up :: fi :: (vup.ownBlock.toList ++ (vfi.ownBlock.toList ++ S2))) (hf : Fr X W W') (prn' prk' : List (Fin M2)) (bs2' S2' : List Nat)
    (hn : NSG Shal b3 (F ++ (lv :: le :: (vlv.ownBlock.toList ++ (vle.ownBlock.toList ++ S)))) W' up fi vup' vfi' bs2' (prn'.map fun i => partOf (cutAt n2 M2) ks bs i.val) (prk'.map fun i => ks.getD (cutAt n2 M2 i.val) []) S2') :
    St2 M2 n2 b3 lv le up fi F w W2 Ds ks bs cs vlv vle S vup' vfi' bs2' S2' prn' prk' W' ∧ KeepsFrom W2.heap.size W W' ∧ ∀ y ∈ F, W'.heap[y]? = W.heap[y]? := by
  have hk : ∀ y ∈ F ++ (lv :: le :: (vlv.ownBlock.toList ++ (vle.ownBlock.toList ++ S))), W'.heap[y]? = W.heap[y]? := fun y hy => hf.block y (s.flt y hy) (fun h9 => s.new.ne y hy (hX y h9))
  have hb3 : ∀ y ∈ X, b3 ≤ y := fun y hy => s.new.ge y (hX y hy)
  refine ⟨⟨s.old.step node_sta (fun y hy => hk y (List.mem_append_right _ hy)), hn, fun y hy => (hk y (List.mem_append_left _ hy)).trans (s.fs y hy), s.fc, fun D hD => ds_keep hf (fun k hk => s.new.cells shal_sta k (hX k hk)) (s.ds D hD), ?_, Nat.le_trans s.sz hf.size⟩, keepsFrom_fr hf (fun k hk _ => s.new.cells shal_sta k (hX k hk)), fun y hy => hk y (List.mem_append_left _ hy)⟩
  exact s.bl.trans (hf.below_base hb3 (by have := s.new.ge up (by simp); have := (s.new.cells shal_sta up (by simp)).lt; omega))
theorem St2.node {x : Fin M2} {NB : Nat} (s : St2 M2 n2 b3 lv le up fi F w W2 Ds ks bs cs vlv vle S vup vfi bs2 S2 prn prk W) (hb : Below W.heap.size W W') (hnd : Shal W' NB (partOf (cutAt n2 M2) ks bs x.val) SL) (hS1 : ∀ y ∈ SL, W.heap.size ≤ y) (hSn : SL.Nodup) (ht : Turn 70 W' w2 vup vup' (bs2.map encP ++ [encP NB])) :
    St2 M2 n2 b3 lv le up fi F w W2 Ds ks bs cs vlv vle S vup' vfi (bs2 ++ [NB]) (S2 ++ SL) (prn ++ [x]) prk (w2.setCell ⟨up, 0, none⟩ vup') ∧ KeepsFrom W2.heap.size W (w2.setCell ⟨up, 0, none⟩ vup') ∧ ∀ y ∈ F, (w2.setCell ⟨up, 0, none⟩ vup').heap[y]? = W.heap[y]? := by
  obtain ⟨g1, g2⟩ := nsg_push_node shal_sta s.new hb hnd hS1 hSn ht s.flt (by have := s.new.ge up (by simp); have := (s.new.cells shal_sta up (by simp)).lt; omega)
  refine s.push (fun y hy => ?_) g2 _ _ _ _ (by rw [List.map_append, List.map_singleton]; exact g1)
  simp only [List.mem_cons, List.mem_append] at hy ⊢
  rcases hy with h | h <;> simp [h]
theorem St2.key {x : Fin M2} (s : St2 M2 n2 b3 lv le up fi F w W2 Ds ks bs cs vlv vle S vup vfi bs2 S2 prn prk W) (hb : Below W.heap.size W W') (ht : Turn 9 W' w2 vfi vfi' (encKs (prk.map fun i => ks.getD (cutAt n2 M2 i.val) []) ++ [.string ⟨(ks.getD (cutAt n2 M2 x.val) []).toArray⟩])) :
    St2 M2 n2 b3 lv le up fi F w W2 Ds ks bs cs vlv vle S vup vfi' bs2 S2 prn (prk ++ [x]) (w2.setCell ⟨fi, 0, none⟩ vfi') ∧ KeepsFrom W2.heap.size W (w2.setCell ⟨fi, 0, none⟩ vfi') ∧ ∀ y ∈ F, (w2.setCell ⟨fi, 0, none⟩ vfi').heap[y]? = W.heap[y]? := by
  obtain ⟨g1, g2⟩ := nsg_push_key shal_sta s.new hb ht s.flt (by have := s.new.ge up (by simp); have := (s.new.cells shal_sta up (by simp)).lt; omega)
  refine s.push (fun y hy => ?_) g2 _ _ _ _ (by rw [List.map_append, List.map_singleton]; exact g1)
  simp only [List.mem_cons, List.mem_append] at hy ⊢
  rcases hy with h | h <;> simp [h]
end
theorem getD_some {ks : List Nm} {i : Nat} (h : i < ks.length) : ks[i]? = some (ks.getD i []) := by
  rw [List.getD_eq_getElem?_getD, List.getElem?_eq_getElem h]; rfl
theorem many_less {n m : Nat} (h4 : 4 ≤ m) (hn : 2 ≤ n) : manyOf n m < n := by
  unfold manyOf
  rw [Nat.div_lt_iff_lt_mul (by omega)]
  have : n * 4 ≤ n * m := Nat.mul_le_mul_left _ h4
  have h2 : m * 2 ≤ m * n := Nat.mul_le_mul_left _ hn
  rw [Nat.mul_comm m n] at h2
  omega
theorem fin_map {α : Type} (n : Nat) (g : Nat → α) : ((List.finRange n).map fun i => g i.val) = (List.range n).map g := List.ext_getElem (by simp) (fun i h1 h2 => by simp)
/-- The level above, once every part has its node; its rows are put into the boxes. -/
theorem st2_done {m h n2 b3 lv le up fi rt tb nb mb nb2 mb2 D : Nat} {w W1 W2 W : World} {Ds : List Nat} {ks : List Nm} {bs : List Nat} {cs : List (T h)} {vlv vle vup vfi : Value} {S bs2 S2 : List Nat} {l : List KV} (h4 : 4 ≤ m) (hL : LevelOk m h cs ks l) (hn2 : bs.length = n2) (h2 : 2 ≤ n2) (hbn : n2 ≤ 2147483648)
    (s : St2 (manyOf n2 m) n2 b3 lv le up fi [b3, rt, tb, nb, mb, nb2, mb2] w W2 Ds ks bs cs vlv vle S vup vfi bs2 S2 (List.finRange (manyOf n2 m)) (List.finRange (manyOf n2 m)) W)
    (hF1 : ∀ y ∈ [b3, rt, tb, nb, mb], W2.heap[y]? = W1.heap[y]?) (hc1 : ∀ y ∈ [b3, rt, tb, nb, mb], IsC W1 y) (hDs : Ds.Nodup) (hD1 : ∀ D ∈ Ds, W1.heap.size ≤ D ∧ D < W2.heap.size) (hD : W2.heap.size ≤ D) (hDm : W.heap[D]? = some (.deferred (some []))) (h12 : W1.heap.size ≤ W2.heap.size) (k : Nat) (hk : manyOf n2 m ≤ k) :
    LevS m b3 rt tb lv le nb mb l w W1 (D :: Ds) k ((W.setCell ⟨lv, 0, none⟩ vup).setCell ⟨le, 0, none⟩ vfi) := by
  have hkc : ks.length = cs.length := hL.1
  have hbl : bs.length = cs.length := kids_len s.old.kids
  have hcn : cs.length = n2 := hbl.symm.trans hn2
  have hU := level_up h4 hL (by rw [hcn]; exact h2)
  rw [hcn] at hU
  obtain ⟨M2, hM2⟩ : ∃ M2, manyOf n2 m = M2 := ⟨_, rfl⟩
  have hps : ∀ i, 0 ≤ i → i < 0 + M2 → cutAt n2 M2 i < cutAt n2 M2 (i + 1) ∧ cutAt n2 M2 (i + 1) ≤ cs.length := fun i _ hi => by
    have h9 := part_size (n := n2) (i := i) h4 (by omega)
    rw [hM2] at h9
    have h8 := cut_mono (n := n2) (many := M2) (i := i + 1) (by omega) (by omega)
    omega
  have hMp : 0 < M2 := by rw [← hM2]; exact many_pos h4 (by omega)
  have hml := many_less h4 h2
  rw [hM2] at hU s hk hml
  have hn0 := s.new.ne
  have hap : (S2 ++ S).Nodup := by
    have h1 : S2.Nodup := (List.nodup_append.1 (List.nodup_append.1 (List.nodup_cons.1 (List.nodup_cons.1 s.new.nd).2).2).2.1).2.1
    have h3 : S.Nodup := (List.nodup_append.1 (List.nodup_append.1 (List.nodup_cons.1 (List.nodup_cons.1 s.old.nd).2).2).2.1).2.1
    exact List.nodup_append.2 ⟨h1, h3, fun a ha b hb e => hn0 b (by simp only [List.mem_append, List.mem_cons]; simp [hb]) (by rw [← e]; simp only [List.mem_append, List.mem_cons]; simp [ha])⟩
  have efr : ((List.finRange M2).map fun i => partOf (cutAt n2 M2) ks bs i.val) = (List.range' 0 M2).map (partOf (cutAt n2 M2) ks bs) := by
    rw [← List.range_eq_range']; exact fin_map M2 (partOf (cutAt n2 M2) ks bs)
  have efk : ((List.finRange M2).map fun i => ks.getD (cutAt n2 M2 i.val) []) = (List.range M2).map (fun i => ks.getD (cutAt n2 M2 i) []) := by
    exact fin_map M2 (fun i => ks.getD (cutAt n2 M2 i) [])
  have hk2 := s.new.kids
  rw [efr] at hk2
  obtain ⟨S', u1, u2⟩ := build_up (h := h) (W := W) (ks := ks) (bs := bs) (cs := cs) (cutAt n2 M2) hkc M2 0 bs2 S2 S hps (by rw [Nat.zero_add, cut_end hMp, hcn]) hk2 (by rw [cut_zero, List.drop_zero, List.drop_zero]; exact s.old.kids) hap
  rw [← List.range_eq_range'] at u1
  have hsub : ∀ y ∈ S', y ∈ S2 ++ S := fun y hy => by
    have h9 := List.count_pos_iff.2 hy
    rw [u2] at h9
    refine List.count_pos_iff.1 ?_
    rw [List.count_append]; exact h9
  have f0 := put_fr W lv le vup vfi
  have hne : lv ≠ le := fun e => (List.nodup_cons.1 s.old.nd).1 (by rw [e]; simp)
  obtain ⟨p1, p2⟩ := put_lv_le (u := vup) (v := vfi) s.old.hlv s.old.hle hne
  have hlvn := hn0 lv (by simp)
  have hlen := hn0 le (by simp)
  have oldn : ∀ y ∈ S, y ≠ lv ∧ y ≠ le := fun y hy => ⟨fun e => (List.nodup_cons.1 s.old.nd).1 (by rw [← e]; simp only [List.mem_cons, List.mem_append]; simp [hy]), fun e => (List.nodup_cons.1 (List.nodup_cons.1 s.old.nd).2).1 (by rw [← e]; simp only [List.mem_append]; simp [hy])⟩
  have hSne : ∀ y ∈ S2 ++ S, y ≠ lv ∧ y ≠ le := fun y hy => by
    rcases List.mem_append.1 hy with hy | hy
    · exact ⟨fun e => hlvn (by rw [← e]; simp only [List.mem_cons, List.mem_append]; simp [hy]), fun e => hlen (by rw [← e]; simp only [List.mem_cons, List.mem_append]; simp [hy])⟩
    · exact oldn y hy
  have hSlt : ∀ y ∈ S2 ++ S, y < W.heap.size := fun y hy => by
    rcases List.mem_append.1 hy with hy | hy
    · exact (s.new.cells shal_sta y (by simp only [List.mem_cons, List.mem_append]; simp [hy])).lt
    · exact (s.old.cells node_sta y (by simp only [List.mem_cons, List.mem_append]; simp [hy])).lt
  have keep : ∀ y, y < W.heap.size → y ≠ lv → y ≠ le → ((W.setCell ⟨lv, 0, none⟩ vup).setCell ⟨le, 0, none⟩ vfi).heap[y]? = W.heap[y]? := fun y hy h1 h3 => f0.block y hy (by simp only [List.mem_cons, List.not_mem_nil, or_false, not_or]; exact ⟨h1, h3⟩)
  have hF5 : ∀ y ∈ [b3, rt, tb, nb, mb], y ≠ lv ∧ y ≠ le := fun y hy => by
    have h9 := s.old.ne y (by simp only [List.mem_cons, List.not_mem_nil, or_false] at hy ⊢; rcases hy with h | h | h | h | h <;> simp [h])
    exact ⟨fun e => h9 (by rw [e]; simp), fun e => h9 (by rw [e]; simp)⟩
  have hmF : ∀ y ∈ [b3, rt, tb, nb, mb], y ∈ [b3, rt, tb, nb, mb, nb2, mb2] := fun y hy => by simp only [List.mem_cons, List.not_mem_nil, or_false] at hy ⊢; rcases hy with h | h | h | h | h <;> simp [h]
  have hFlt : ∀ y ∈ [b3, rt, tb, nb, mb], y < W.heap.size := fun y hy => s.flt y (List.mem_append_left _ (hmF y hy))
  have hb2l : bs2.length = M2 := by
    have h9 := kids_len s.new.kids
    rw [List.length_map, List.length_finRange] at h9
    exact h9
  refine ⟨h + 1, _, _, vup, vfi, bs2, S', ⟨p1, p2, ?_, ?_, kids_imp u1 (fun b' c' T hs hr => node_step hr (fun y hy => keep y (hSlt y (hsub y (hs y hy))) (hSne y (hsub y (hs y hy))).1 (hSne y (hsub y (hs y hy))).2)), ?_, ?_, ?_⟩, fun y hy => ?_, hc1, ?_, ?_, fun D' hD' => ?_, by omega, by omega, ?_, .inr hU⟩
  · exact s.new.rlv.fr f0 (fun y hy h9 => by
      simp only [List.mem_cons, List.not_mem_nil, or_false] at h9
      rcases h9 with rfl | rfl
      · exact hlvn (by simp only [List.mem_cons, List.mem_append]; simp [hy])
      · exact hlen (by simp only [List.mem_cons, List.mem_append]; simp [hy]))
  · rw [← efk]
    exact s.new.rle.fr f0 (fun y hy h9 => by
      simp only [List.mem_cons, List.not_mem_nil, or_false] at h9
      rcases h9 with rfl | rfl
      · exact hlvn (by simp only [List.mem_cons, List.mem_append]; simp [hy])
      · exact hlen (by simp only [List.mem_cons, List.mem_append]; simp [hy]))
  · have h9 : ((lv :: le :: S) ++ (vup.ownBlock.toList ++ (vfi.ownBlock.toList ++ S2))).Nodup := by
      have a1 : (lv :: le :: S).Nodup := by
        have h8 : ((lv :: le :: S) ++ (vlv.ownBlock.toList ++ vle.ownBlock.toList)).Nodup := nd_perm s.old.nd (fun a => by simp only [List.cons_append, List.count_append, List.count_cons]; omega)
        exact (List.nodup_append.1 h8).1
      refine List.nodup_append.2 ⟨a1, (List.nodup_cons.1 (List.nodup_cons.1 s.new.nd).2).2, fun a ha b hb e => ?_⟩
      subst e
      refine hn0 a ?_ (by simp only [List.mem_cons]; exact .inr (.inr hb))
      simp only [List.mem_cons] at ha
      simp only [List.mem_append, List.mem_cons]
      rcases ha with h | h | h <;> simp [h]
    exact nd_perm h9 (fun a => by simp only [List.cons_append, List.count_append, List.count_cons, u2]; omega)
  · intro y hy
    simp only [List.mem_cons, List.mem_append] at hy
    rcases hy with rfl | rfl | hy | hy | hy
    · exact s.old.ge _ (by simp)
    · exact s.old.ge _ (by simp)
    · exact s.new.ge y (by simp only [List.mem_cons, List.mem_append]; simp [hy])
    · exact s.new.ge y (by simp only [List.mem_cons, List.mem_append]; simp [hy])
    · rcases List.mem_append.1 (hsub y hy) with h | h
      · exact s.new.ge y (by simp only [List.mem_cons, List.mem_append]; simp [h])
      · exact s.old.ge y (by simp only [List.mem_cons, List.mem_append]; simp [h])
  · intro y hy hx
    have a1 := s.old.ne y (hmF y hy)
    have a2 := hn0 y (List.mem_append_left _ (hmF y hy))
    simp only [List.mem_cons, List.mem_append] at hx a1 a2
    rcases hx with h | h | h | h | h
    · exact a1 (by simp [h])
    · exact a1 (by simp [h])
    · exact a2 (by simp [h])
    · exact a2 (by simp [h])
    · rcases List.mem_append.1 (hsub y h) with h | h
      · exact a2 (by simp [h])
      · exact a1 (by simp [h])
  · exact (keep y (hFlt y hy) (hF5 y hy).1 (hF5 y hy).2).trans ((s.fs y (hmF y hy)).trans (hF1 y hy))
  · exact s.bl.trans (f0.below_base (fun y hy => by
      simp only [List.mem_cons, List.not_mem_nil, or_false] at hy
      rcases hy with rfl | rfl
      · exact s.old.ge _ (by simp)
      · exact s.old.ge _ (by simp)) (by have := s.old.ge lv (by simp); have := blk_lt s.old.hlv; omega))
  · exact List.nodup_cons.2 ⟨fun h9 => by have := (hD1 D h9).2; omega, hDs⟩
  · have hcell : ∀ D' : Nat, W.heap[D']? = some (Obj.deferred (some [])) → ((W.setCell ⟨lv, 0, none⟩ vup).setCell ⟨le, 0, none⟩ vfi).heap[D']? = some (Obj.deferred (some [])) := fun D' h9 => ds_keep f0 (fun k hk => by
      simp only [List.mem_cons, List.not_mem_nil, or_false] at hk
      rcases hk with rfl | rfl
      · exact ⟨_, _, _, s.old.hlv⟩
      · exact ⟨_, _, _, s.old.hle⟩) h9
    rcases List.mem_cons.1 hD' with rfl | hD'
    · exact ⟨by omega, hcell _ hDm⟩
    · exact ⟨(hD1 D' hD').1, hcell _ (s.ds D' hD')⟩
  · rw [List.length_map, List.length_range, hb2l]
theorem lev_start {M m n b3 rt tb lv le nb mb D : Nat} {l : List KV} {w W1 W : World} (hM : M = manyOf n m) (hl : l.length = n) (h4 : 4 ≤ m) (hn : n ≤ 2147483648) (hr : Rises l) (hI : St1 M n b3 rt tb lv le nb mb l w W1 (List.finRange M) W) (hD : W1.heap.size ≤ D) (hDm : W.heap[D]? = some (.deferred (some []))) : LevS m b3 rt tb lv le nb mb l w W1 [D] n W := by
  obtain ⟨⟨vlv, vle, bs, S, ns⟩, hf, hfc, hbl⟩ := hI
  have h9 : bs.length = M := (kids_len ns.kids).trans ((List.length_map _).trans List.length_finRange)
  have hml := many_le_n (n := n) h4
  refine ⟨0, _, _, vlv, vle, bs, S, ns, hf, hfc, hbl, by simp, fun D' hD' => ?_, by omega, by omega, by rw [List.length_map, List.length_finRange]; exact h9.symm, ?_⟩
  · simp only [List.mem_cons, List.not_mem_nil, or_false] at hD'
    subst hD'
    exact ⟨hD, hDm⟩
  · rcases Nat.eq_zero_or_pos n with h0 | h0
    · left
      rw [h0] at hl hM
      rw [many_zero h4] at hM
      exact ⟨List.length_eq_zero_iff.1 hl, List.length_eq_zero_iff.1 (by omega)⟩
    · right
      have hz := level_zero h4 hr (by omega)
      rw [hl] at hz
      subst hM
      have e1 : ((List.finRange (manyOf n m)).map fun i => (chunk l n (manyOf n m) i.val : List KV)) = (List.range (manyOf n m)).map (fun i => (chunk l n (manyOf n m) i : List KV)) := fin_map _ (fun i => (chunk l n (manyOf n m) i : List KV))
      have e2 : ((List.finRange (manyOf n m)).map fun i => headK (l.drop (cutAt n (manyOf n m) i.val))) = (List.range (manyOf n m)).map (fun i => headK (l.drop (cutAt n (manyOf n m) i))) := fin_map _ (fun i => headK (l.drop (cutAt n (manyOf n m) i)))
      have h8 : ∀ (L : List (T 0)) (K : List Nm), L = (List.range (manyOf n m)).map (fun i => (chunk l n (manyOf n m) i : List KV)) → K = (List.range (manyOf n m)).map (fun i => headK (l.drop (cutAt n (manyOf n m) i))) → LevelOk m 0 L K l := by
        rintro _ _ rfl rfl
        exact hz
      exact h8 _ _ e1 e2
theorem st2_start {h n2 M2 m b3 rt tb lv le nb mb : Nat} {w W1 WX : World} {Ds : List Nat} {ks : List Nm} {bs : List Nat} {cs : List (T h)} {vlv vle : Value} {S : List Nat} (ns : NS b3 [b3, rt, tb, nb, mb] h WX lv le vlv vle bs cs ks S) (hf : ∀ y ∈ [b3, rt, tb, nb, mb], WX.heap[y]? = W1.heap[y]?) (hfc : ∀ y ∈ [b3, rt, tb, nb, mb], IsC W1 y) (hbl : Below b3 w WX) (hds : ∀ D ∈ Ds, WX.heap[D]? = some (.deferred (some []))) {W2 : World} {up : Nat} (hup : WX.heap.size = up) (hW2 : (((WX.alloc (.cells #[.slice none 0 0] 72)).alloc (.cells #[.slice none 0 0] 71)).alloc (.cells #[.int .i64 n2] 3)).alloc (.cells #[.int .i64 m] 3) = W2) :
    St2 M2 n2 b3 lv le up (up + 1) [b3, rt, tb, nb, mb, up + 1 + 1, up + 1 + 1 + 1] w W2 Ds ks bs cs vlv vle S (.slice none 0 0) (.slice none 0 0) [] [] [] [] W2 ∧ W2.heap[up + 1 + 1]? = some (.cells #[.int .i64 n2] 3 (0, 0)) ∧ W2.heap[up + 1 + 1 + 1]? = some (.cells #[.int .i64 m] 3 (0, 0)) ∧ Below up WX W2 ∧ W2.heap.size = up + 4 ∧ (∀ y ∈ [b3, rt, tb, nb, mb], W2.heap[y]? = W1.heap[y]?) := by
  have hB : Below up WX W2 := by rw [← hW2, ← hup]; exact below_alloc (below_alloc (below_alloc (below_alloc (Below.refl _ _) _) _) _) _
  have hs : W2.heap.size = up + 4 := by rw [← hW2]; simp; omega
  have g0 : W2.heap[up]? = some (.cells #[.slice none 0 0] 72 (0, 0)) := by
    rw [← hW2, ← hup]; exact blk_alloc (blk_alloc (blk_alloc (blk_new WX _) _) _) _
  have g1 : W2.heap[up + 1]? = some (.cells #[.slice none 0 0] 71 (0, 0)) := by
    have h9 := blk_new (WX.alloc (.cells #[.slice none 0 0] 72)) (.cells #[.slice none 0 0] 71)
    rw [show (WX.alloc (.cells #[.slice none 0 0] 72)).heap.size = up + 1 by simp [hup]] at h9
    rw [← hW2]; exact blk_alloc (blk_alloc h9 _) _
  have g2 : W2.heap[up + 1 + 1]? = some (.cells #[.int .i64 n2] 3 (0, 0)) := by
    have h9 := blk_new ((WX.alloc (.cells #[.slice none 0 0] 72)).alloc (.cells #[.slice none 0 0] 71)) (.cells #[.int .i64 n2] 3)
    rw [show ((WX.alloc (.cells #[.slice none 0 0] 72)).alloc (.cells #[.slice none 0 0] 71)).heap.size = up + 1 + 1 by simp [hup]] at h9
    rw [← hW2]; exact blk_alloc h9 _
  have g3 : W2.heap[up + 1 + 1 + 1]? = some (.cells #[.int .i64 m] 3 (0, 0)) := by
    have h9 := blk_new (((WX.alloc (.cells #[.slice none 0 0] 72)).alloc (.cells #[.slice none 0 0] 71)).alloc (.cells #[.int .i64 n2] 3)) (.cells #[.int .i64 m] 3)
    rw [show (((WX.alloc (.cells #[.slice none 0 0] 72)).alloc (.cells #[.slice none 0 0] 71)).alloc (.cells #[.int .i64 n2] 3)).heap.size = up + 1 + 1 + 1 by simp [hup]] at h9
    rw [← hW2]; exact h9
  have hlt : ∀ x ∈ lv :: le :: (vlv.ownBlock.toList ++ (vle.ownBlock.toList ++ S)), x < up := fun x hx => by rw [← hup]; exact (ns.cells node_sta x hx).lt
  have hFl : ∀ y ∈ [b3, rt, tb, nb, mb], y < up := fun y hy => by
    obtain ⟨c, t, fr, h9⟩ := hfc y hy
    rw [← hup]; exact blk_lt ((hf y hy).trans h9)
  have hb3 : b3 < up := hFl b3 (by simp)
  have hF2 : ∀ y ∈ [b3, rt, tb, nb, mb], W2.heap[y]? = W1.heap[y]? := fun y hy => (hB.block y (hFl y hy)).trans (hf y hy)
  have hold : NS b3 [b3, rt, tb, nb, mb] h W2 lv le vlv vle bs cs ks S := ns.below node_sta (by rw [hup]; exact hB)
  refine ⟨⟨⟨hold.hlv, hold.hle, hold.rlv, hold.rle, hold.kids, hold.nd, hold.ge, fun y hy hx => ?_⟩, ⟨g0, g1, RowV.nil _ _, RowV.nil _ _, rfl, by simp [Value.ownBlock], fun y hy => ?_, fun y hy hx => ?_⟩, fun _ _ => rfl, fun y hy => ?_, fun D hD => (hB.block D (by rw [← hup]; exact blk_lt (hds D hD))).trans (hds D hD), hbl.trans (hB.mono (by omega)), Nat.le_refl _⟩, g2, g3, hB, hs, hF2⟩
  · have h9 := hlt y hx
    simp only [List.mem_cons, List.not_mem_nil, or_false] at hy
    rcases hy with h | h | h | h | h | h | h
    · exact hold.ne y (by simp [h]) hx
    · exact hold.ne y (by simp [h]) hx
    · exact hold.ne y (by simp [h]) hx
    · exact hold.ne y (by simp [h]) hx
    · exact hold.ne y (by simp [h]) hx
    · omega
    · omega
  · simp [Value.ownBlock] at hy
    rcases hy with rfl | rfl <;> omega
  · have hx2 : y = up ∨ y = up + 1 := by simpa [Value.ownBlock] using hx
    rcases List.mem_append.1 hy with hy | hy
    · simp only [List.mem_cons, List.not_mem_nil, or_false] at hy
      rcases hy with h | h | h | h | h | h | h
      · have := hFl y (by simp [h]); omega
      · have := hFl y (by simp [h]); omega
      · have := hFl y (by simp [h]); omega
      · have := hFl y (by simp [h]); omega
      · have := hFl y (by simp [h]); omega
      · omega
      · omega
    · have := hlt y hy; omega
  · simp only [List.mem_cons, List.not_mem_nil, or_false] at hy
    have hF : ∀ y ∈ [b3, rt, tb, nb, mb], IsC W2 y := fun y hy => by
      obtain ⟨c, t, fr, h9⟩ := hfc y hy
      exact ⟨c, t, fr, (hF2 y hy).trans h9⟩
    rcases hy with h | h | h | h | h | h | h
    · exact hF y (by simp [h])
    · exact hF y (by simp [h])
    · exact hF y (by simp [h])
    · exact hF y (by simp [h])
    · exact hF y (by simp [h])
    · exact h ▸ ⟨_, _, _, g2⟩
    · exact h ▸ ⟨_, _, _, g3⟩
/-- A word that no panic meets. -/
def noPanic (Q : Exit → Act → World → Prop) : Exit → Act → World → Prop
  | .panic _, _, _ => False
  | .outgrown, _, _ => False
  | e, a, w => Q e a w
theorem wp_nopanic {P : Program} {c : Code} {Q : Exit → Act → World → Prop} {a : Act} {w : World} (h : c.wp P (noPanic Q) a w) : c.wp P Q a w := wp_mono h (fun e a w h => by
  cases e with
  | panic _ => exact h.elim
  | outgrown => exact h.elim
  | _ => exact h)
theorem np_normal {Q : Exit → Act → World → Prop} {a : Act} {w : World} (h : Q .normal a w) : noPanic Q .normal a w := h
theorem ds_apart {W W' : World} {Ds : List Nat} (hf : Fr Ds W W') (hds : ∀ D ∈ Ds, W.heap[D]? = some (Obj.deferred (some []))) {k : Nat} (hc : IsC W k) : W'.heap[k]? = W.heap[k]? := hf.block k hc.lt (fun hx => by
  obtain ⟨c, t, fr, h9⟩ := hc
  rw [hds k hx] at h9
  cases h9)
theorem new_one {m n h b3 b0 tb rt lv le : Nat} {F : List Nat} {w WX W' : World} {vlv vle : Value} {cs : List (T h)} {ks : List Nm} {S Ds : List Nat} {l : List KV} (ns : NS b3 F h WX lv le vlv vle [b0] cs ks S) (hL : LevelOk m h cs ks l) (hl : l.length = n) (htb : WX.heap[tb]? = some (.cells #[.int .i64 m, .int .i64 n, .pointer (some ⟨rt, 0, none⟩)] 76 (0, 0))) (htF : tb ∈ F)
    (hds : ∀ D ∈ Ds, b3 ≤ D ∧ WX.heap[D]? = some (Obj.deferred (some []))) (hb : Below b3 w WX) (hb3 : b3 ≤ tb) (hf : Fr Ds (WX.setCell ⟨tb, 2, none⟩ (.pointer (some ⟨b0, 0, none⟩))) W') : Tr m W' tb l (tb :: S) ∧ Below b3 w W' ∧ ∀ k ∈ tb :: S, b3 ≤ k := by
  have f1 : Fr [tb] WX (WX.setCell ⟨tb, 2, none⟩ (.pointer (some ⟨b0, 0, none⟩))) := (Fr.refl _ _).setCell (p := ⟨tb, 2, none⟩) (.inl (by simp)) _
  have hds5 : ∀ D ∈ Ds, (WX.setCell ⟨tb, 2, none⟩ (.pointer (some ⟨b0, 0, none⟩))).heap[D]? = some (Obj.deferred (some [])) := fun D hD => ds_keep f1 (fun k hk => by
    simp only [List.mem_singleton] at hk
    subst hk
    exact ⟨_, _, _, htb⟩) (hds D hD).2
  have hnS : ∀ k ∈ S, k ≠ tb := fun k hk e => ns.ne tb htF (by rw [← e]; simp only [List.mem_cons, List.mem_append]; simp [hk])
  have htb5 : (WX.setCell ⟨tb, 2, none⟩ (.pointer (some ⟨b0, 0, none⟩))).heap[tb]? = some (.cells #[.int .i64 m, .int .i64 n, .pointer (some ⟨b0, 0, none⟩)] 76 (0, 0)) := blk_put htb 2 _ rfl
  match cs, ns.kids, hL with
  | [c], hk, hL =>
    obtain ⟨S1, S2, hn, hS2, rfl⟩ := hk
    have hS2 : S2 = [] := hS2
    subst hS2
    rw [List.append_nil] at hnS ⊢
    obtain ⟨hR, hF⟩ := level_one hL
    have hcell : ∀ k ∈ S1, IsC WX k := node_cells hn
    have hS5 : ∀ k ∈ S1, (WX.setCell ⟨tb, 2, none⟩ (.pointer (some ⟨b0, 0, none⟩))).heap[k]? = WX.heap[k]? := fun k hk => f1.block k (hcell k hk).lt (by simpa using hnS k hk)
    have hS' : ∀ k ∈ S1, W'.heap[k]? = WX.heap[k]? := fun k hk => (ds_apart hf hds5 (by obtain ⟨c, t, fr, h9⟩ := hcell k hk; exact ⟨c, t, fr, (hS5 k hk).trans h9⟩)).trans (hS5 k hk)
    refine ⟨⟨h, c, ⟨b0, S1, ?_, node_step hn hS', rfl, fun h9 => hnS tb h9 rfl⟩, hR, hF⟩, ?_, fun k hk => ?_⟩
    · rw [hF, hl]
      exact (ds_apart hf hds5 ⟨_, _, _, htb5⟩).trans htb5
    · exact (hb.trans (f1.below_base (fun k hk => by simp only [List.mem_singleton] at hk; rw [hk]; exact hb3) (by have := blk_lt htb; omega))).trans (hf.below_base (fun k hk => (hds k hk).1) (by have := blk_lt htb5; omega))
    · rcases List.mem_cons.1 hk with rfl | hk
      · exact hb3
      · exact ns.ge k (by simp only [List.mem_cons, List.mem_append]; simp [hk])
  | [], hk, _ => exact hk.elim
  | _ :: _ :: _, hk, _ => exact (by obtain ⟨S1, S2, _, h9, _⟩ := hk; exact h9.elim)
theorem new_zero {m b3 tb rt : Nat} {w WX W' : World} {Ds : List Nat} (htb : WX.heap[tb]? = some (.cells #[.int .i64 m, .int .i64 0, .pointer (some ⟨rt, 0, none⟩)] 76 (0, 0))) (hrt : WX.heap[rt]? = some (.cells #[.slice none 0 0, .slice none 0 0, .slice none 0 0] 74 (0, 0))) (hne : tb ≠ rt)
    (hds : ∀ D ∈ Ds, b3 ≤ D ∧ WX.heap[D]? = some (Obj.deferred (some []))) (hb : Below b3 w WX) (hb3 : b3 ≤ tb) (hb4 : b3 ≤ rt) (hf : Fr Ds WX W') : Tr m W' tb [] [tb, rt] ∧ Below b3 w W' ∧ ∀ k ∈ [tb, rt], b3 ≤ k := by
  have hd : ∀ D ∈ Ds, WX.heap[D]? = some (Obj.deferred (some [])) := fun D hD => (hds D hD).2
  refine ⟨⟨0, ([] : List KV), ⟨rt, [rt], (ds_apart hf hd ⟨_, _, _, htb⟩).trans htb, ⟨.slice none 0 0, .slice none 0 0, (ds_apart hf hd ⟨_, _, _, hrt⟩).trans hrt, RowV.nil _ _, RowV.nil _ _, rfl, by simp⟩, rfl, by simpa using hne⟩, ⟨⟨List.Pairwise.nil, fun p hp => by cases hp⟩, Nat.zero_le _, fun h => absurd h (Nat.lt_irrefl 0)⟩, rfl⟩, hb.trans (hf.below_base (fun k hk => (hds k hk).1) (by have := blk_lt htb; omega)), fun k hk => ?_⟩
  simp only [List.mem_cons, List.not_mem_nil, or_false] at hk
  rcases hk with rfl | rfl
  · exact hb3
  · exact hb4
/-- A row made anew. -/
def One (e : TypeId) (WD w2 : World) (v : Value) (ys : List Value) : Prop := RowV e w2 v ys ∧ (∀ y ∈ v.ownBlock.toList, WD.heap.size ≤ y) ∧ Below WD.heap.size WD w2
def Both (WD w3 : World) (vk vc : Value) (ysK ysC : List Value) : Prop := RowV 9 w3 vk ysK ∧ RowV 70 w3 vc ysC ∧ (vk.ownBlock.toList ++ vc.ownBlock.toList).Nodup ∧ (∀ y ∈ vk.ownBlock.toList ++ vc.ownBlock.toList, WD.heap.size ≤ y) ∧ Below WD.heap.size WD w3
theorem one_keys {WD W' : World} {ge a b c : Nat} {ks : List Nm} (h : RowV 9 WD (.slice (some ⟨ge, 0, none⟩) ks.length c) (encKs ks)) (hb : Below WD.heap.size WD W') (h1 : a + 2 ≤ b) (h2 : b ≤ ks.length) (hl : ks.length ≤ 2147483648) :
    Calls Try.prog 29 #[.slice (some ⟨ge, a + 1, none⟩) (b - (a + 1)) (c - (a + 1))] W' fun e w' => ∃ A c', e = .returned (.slice A (b - (a + 1)) c') ∧ RowV 9 w' (.slice A (b - (a + 1)) c') (encKs ((ks.drop (a + 1)).take (b - (a + 1)))) ∧ Below W'.heap.size W' w' ∧ ∀ y ∈ (Value.slice A (b - (a + 1)) c').ownBlock.toList, W'.heap.size ≤ y := by
  have e1 : encKs ((ks.drop (a + 1)).take (b - (a + 1))) = ((encKs ks).drop (a + 1)).take (b - (a + 1)) := by simp only [encKs, List.map_take, List.map_drop]
  have e2 : (encKs ((ks.drop (a + 1)).take (b - (a + 1)))).length = b - (a + 1) := by simp only [encKs, List.length_map, List.length_take, List.length_drop]; omega
  have hc := h.cap.2
  rw [encKs, List.length_map] at hc
  have hs : SrcV W' (some ⟨ge, a + 1, none⟩) (encKs ((ks.drop (a + 1)).take (b - (a + 1)))) := by rw [e1]; exact ((h.srcDrop (a + 1)).take _).below hb
  have h9 := cloneS (c := c - (a + 1)) hs (one_encKs _) (by rw [e2]; omega) (fun e => by rw [e] at e2; simp at e2; omega) (by rw [e2]; omega)
  rw [e2] at h9
  refine h9.mono ?_
  rintro e w' ⟨v', rfl, g1, g2, g3⟩
  obtain ⟨A, c', rfl, -, -⟩ := g1.shape
  rw [e2] at g1 g3 ⊢
  exact ⟨A, c', rfl, g1, g2, g3⟩
theorem one_kids {WD W' : World} {ga a b c : Nat} {bs : List Nat} (h : RowV 70 WD (.slice (some ⟨ga, 0, none⟩) bs.length c) (bs.map encP)) (hb : Below WD.heap.size WD W') (h1 : a + 2 ≤ b) (h2 : b ≤ bs.length) (hl : bs.length ≤ 2147483648) :
    Calls Try.prog 30 #[.slice (some ⟨ga, a, none⟩) (b - a) (c - a)] W' fun e w' => ∃ A c', e = .returned (.slice A (b - a) c') ∧ RowV 70 w' (.slice A (b - a) c') (((bs.drop a).take (b - a)).map encP) ∧ Below W'.heap.size W' w' ∧ ∀ y ∈ (Value.slice A (b - a) c').ownBlock.toList, W'.heap.size ≤ y := by
  have e1 : ((bs.drop a).take (b - a)).map encP = ((bs.map encP).drop a).take (b - a) := by simp only [List.map_take, List.map_drop]
  have e2 : (((bs.drop a).take (b - a)).map encP).length = b - a := by simp only [List.length_map, List.length_take, List.length_drop]; omega
  have hc := h.cap.2
  rw [List.length_map] at hc
  have hs : SrcV W' (some ⟨ga, a, none⟩) (((bs.drop a).take (b - a)).map encP) := by rw [e1]; exact ((h.srcDrop a).take _).below hb
  have h9 := cloneN (c := c - a) hs (one_encP _) (by rw [e2]; omega) (fun e => by rw [e] at e2; simp at e2; omega) (by rw [e2]; omega)
  rw [e2] at h9
  refine h9.mono ?_
  rintro e w' ⟨v', rfl, g1, g2, g3⟩
  obtain ⟨A, c', rfl, -, -⟩ := g1.shape
  rw [e2] at g1 g3 ⊢
  exact ⟨A, c', rfl, g1, g2, g3⟩
theorem shal_made {w3 : World} {vk vc : Value} {ks' : List Nm} {bs' : List Nat} {o : Obj} (hK : RowV 9 w3 vk (encKs ks')) (hC : RowV 70 w3 vc (bs'.map encP)) (nd : (vk.ownBlock.toList ++ vc.ownBlock.toList).Nodup) : Shal ((w3.alloc (.cells #[vk, .slice none 0 0, vc] 74)).alloc o) w3.heap.size (ks', bs') (w3.heap.size :: (vk.ownBlock.toList ++ vc.ownBlock.toList)) := by
  have hb : Below w3.heap.size w3 ((w3.alloc (.cells #[vk, .slice none 0 0, vc] 74)).alloc o) := below_alloc (below_alloc (Below.refl _ _) _) _
  refine ⟨vk, vc, blk_alloc (blk_new w3 _) _, hK.below hb, hC.below hb, rfl, List.nodup_cons.2 ⟨fun h => ?_, nd⟩⟩
  rcases List.mem_append.1 h with h | h
  · exact Nat.lt_irrefl _ (hK.lt _ h)
  · exact Nat.lt_irrefl _ (hC.lt _ h)
theorem adj_next {l : List KV} {i i0 : Nat} {p q : KV} (h : AdjTo l i) (hi : i = i0 + 1) (hp : l[i0]? = some p) (hq : l[i]? = some q) (hlt : p.1 < q.1) : AdjTo l (i + 1) := fun j a b hj ha hb => by
  by_cases h9 : j + 1 < i
  · exact h j a b h9 ha hb
  · obtain rfl : j = i0 := by omega
    rw [hp] at ha
    rw [← hi, hq] at hb
    cases ha
    cases hb
    exact hlt
end Go.Proofs.YtmomohljnmopfaaX
end
section
namespace Go.Proofs.YtmomohljnmopfaaX
open Go.RowKit Go.Lib Go.Proofs.YtmomohljnmopfaaW.PrintWords Go.Proofs.YtmomohljnmopfaaW.PrintLast Go.Proofs.YtmomohljnmopfaaW.PrintMore
set_option linter.unusedVariables false
set_option linter.unusedSimpArgs false
/-- Levels below a root: N nodes in the first, each as wide as it may be; behind each level as many nodes as it has kids. -/
def Lev (m keys : Nat) : List (List Nat) → Nat → Prop
  | [], N => N = keys
  | s :: r, N => s.length = N ∧ (∀ n ∈ s, m / 2 ≤ n ∧ n ≤ m) ∧ Lev m keys r s.sum
/-- A tree's levels. -/
def ShapeL (m keys : Nat) (L : List (List Nat)) : Prop := ∃ n r, L = [n] :: r ∧ n ≤ m ∧ (r = [] ∨ 2 ≤ n) ∧ Lev m keys r n
theorem sum_len0 : ∀ cs : List (T 0), (cs.map (sizeT 0)).sum = (flats cs).length
  | [] => rfl
  | c :: cs => by rw [List.map_cons, List.sum_cons, sum_len0 cs, flats_cons, List.length_append]; rfl
theorem sum_len1 {h : Nat} : ∀ cs : List (T (h + 1)), (cs.map (sizeT (h + 1))).sum = (List.flatMap (fun c : List Nm × List (T h) => c.2) cs).length
  | [] => rfl
  | c :: cs => by rw [List.map_cons, List.sum_cons, sum_len1 cs]; exact List.length_append.symm
theorem lev_kids {m : Nat} : ∀ {h : Nat} {cs : List (T h)}, (∀ c ∈ cs, ∃ lo hi, Kid m h c lo hi) → Lev m (flats cs).length (levF h cs) cs.length
  | 0, cs, hc => ⟨List.length_map .., fun n hn => by obtain ⟨c, h1, rfl⟩ := List.mem_map.1 hn; obtain ⟨lo, hi, h2⟩ := hc c h1; exact h2.2, sum_len0 cs⟩
  | h + 1, cs, hc => by
    have ih := lev_kids (m := m) (kids_down (fun c hcm => by obtain ⟨lo, hi, h2⟩ := hc c hcm; exact ⟨lo, hi, h2.1⟩))
    rw [flats_down, ← sum_len1] at ih
    exact ⟨List.length_map .., fun n hn => by obtain ⟨c, h1, rfl⟩ := List.mem_map.1 hn; obtain ⟨lo, hi, h2⟩ := hc c h1; exact h2.2, ih⟩
theorem right_shape {m : Nat} : ∀ {h : Nat} {t : T h}, Right m h t → ShapeL m (flat h t).length (levF h [t])
  | 0, t, hR => ⟨sizeT 0 t, [], rfl, hR.2.1, .inl rfl, rfl⟩
  | h + 1, t, hR => by
    refine ⟨sizeT (h + 1) t, _, rfl, hR.2.1, .inr (hR.2.2 (Nat.succ_pos _)), ?_⟩
    have ih := lev_kids (m := m) (kids_down (cs := [t]) (fun c hcm => by simp at hcm; subst hcm; exact ⟨_, _, hR.1⟩))
    rw [flats_down, ← sum_len1] at ih
    have e1 : flats [t] = flat (h + 1) t := by rw [flats_cons]; simp [flats]
    have e2 : ([t].map (sizeT (h + 1))).sum = sizeT (h + 1) t := by simp
    rw [e1, e2] at ih
    exact ih
theorem lev_sum {s : List Nat} {q : Nat} (h : ∀ n ∈ s, q ≤ n) : s.length * q ≤ s.sum := by
  induction s with
  | nil => simp
  | cons a s ih =>
    have h1 := ih (fun n hn => h n (by simp [hn]))
    have h2 := h a (by simp)
    rw [List.length_cons, List.sum_cons, Nat.succ_mul]; omega
theorem lev_many {m keys : Nat} (hm : 4 ≤ m) : ∀ {r : List (List Nat)} {N : Nat}, Lev m keys r N → N * (m / 2) ^ r.length ≤ keys
  | [], N, h => by rw [show N = keys from h]; simp
  | s :: r, N, ⟨h1, h2, h3⟩ => by
    have h4 := lev_many hm h3
    have h5 := lev_sum (fun n hn => (h2 n hn).1)
    rw [h1] at h5
    rw [List.length_cons, Nat.pow_succ, Nat.mul_comm ((m / 2) ^ r.length), ← Nat.mul_assoc]
    exact Nat.le_trans (Nat.mul_le_mul_right _ h5) h4
theorem pow_pos' {m k : Nat} (hm : 4 ≤ m) : 1 ≤ (m / 2) ^ k := Nat.one_le_pow _ _ (by omega)
theorem lev_le {m keys : Nat} (hm : 4 ≤ m) {r : List (List Nat)} {N : Nat} (h : Lev m keys r N) : N ≤ keys := by
  have h1 := lev_many hm h
  exact Nat.le_trans (Nat.le_mul_of_pos_right _ (pow_pos' hm)) h1
theorem lev_at {m keys : Nat} (hm : 4 ≤ m) : ∀ {r : List (List Nat)} {N i : Nat} {s : List Nat}, Lev m keys r N → r[i]? = some s →
    N * (m / 2) ^ i ≤ s.length ∧ (∀ n ∈ s, m / 2 ≤ n ∧ n ≤ m) ∧ s.sum ≤ keys ∧ (i + 1 = r.length → s.sum = keys) ∧ ∀ s', r[i + 1]? = some s' → s.sum = s'.length
  | [], N, i, s, _, hi => by simp at hi
  | s :: r, N, 0, s', ⟨h1, h2, h3⟩, hi => by
    cases hi
    refine ⟨by simp [h1], h2, lev_le hm h3, fun h9 => ?_, fun s' hs => ?_⟩
    · obtain rfl : r = [] := List.eq_nil_of_length_eq_zero (by simp only [List.length_cons] at h9; omega)
      exact h3
    · match r, h3, hs with
      | s2 :: r, h3, hs => simp at hs; subst hs; exact h3.1.symm
      | [], _, hs => simp at hs
  | s :: r, N, i + 1, s', ⟨h1, h2, h3⟩, hi => by
    obtain ⟨g1, g2, g3, g4, g5⟩ := lev_at hm (i := i) h3 (by simpa using hi)
    have h5 := lev_sum (fun n hn => (h2 n hn).1)
    rw [h1] at h5
    refine ⟨?_, g2, g3, fun h9 => g4 (by simp only [List.length_cons] at h9; omega), fun s'' hs => g5 s'' (by simpa using hs)⟩
    rw [Nat.pow_succ, Nat.mul_comm ((m / 2) ^ i), ← Nat.mul_assoc]
    exact Nat.le_trans (Nat.mul_le_mul_right _ h5) g1
/-- Each level of a tree, the root's too. -/
theorem shape_at {m keys : Nat} (hm : 4 ≤ m) {L : List (List Nat)} (h : ShapeL m keys L) {i : Nat} {s : List Nat} (hi : L[i]? = some s) :
    (∀ n ∈ s, n ≤ m ∧ n ≤ keys ∧ (0 < i → m / 2 ≤ n) ∧ (i = 0 → 1 < L.length → 2 ≤ n)) ∧ s.sum ≤ keys ∧ (i + 1 = L.length → s.sum = keys) ∧ (∀ s', L[i + 1]? = some s' → s.sum = s'.length) ∧ (i = 0 → s.length = 1) ∧ (0 < i → 2 * (m / 2) ^ (i - 1) ≤ s.length ∧ 2 * (m / 2) ^ i ≤ keys) := by
  obtain ⟨n, r, rfl, h1, h2, h3⟩ := h
  have le_sum : ∀ {s : List Nat} {n : Nat}, n ∈ s → n ≤ s.sum := fun {s n} hn => by
    induction s with
    | nil => cases hn
    | cons a s ih =>
      rw [List.sum_cons]
      rcases List.mem_cons.1 hn with rfl | hn
      · omega
      · have := ih hn; omega
  cases i with
  | zero =>
    cases hi
    have hk := lev_le hm h3
    refine ⟨fun k hk => ?_, by simpa using hk, fun h9 => ?_, fun s' hs => ?_, fun _ => rfl, fun h0 => absurd h0 (Nat.lt_irrefl _)⟩
    · simp at hk
      subst hk
      refine ⟨h1, lev_le hm h3, fun h0 => absurd h0 (Nat.lt_irrefl _), fun _ h9 => h2.elim (fun h8 => by subst h8; simp at h9) id⟩
    · obtain rfl : r = [] := List.eq_nil_of_length_eq_zero (by simp only [List.length_cons] at h9; omega)
      have h8 : n = keys := h3
      simpa using h8
    · match r, h3, hs with
      | s2 :: r, h3, hs => simp at hs; subst hs; simpa using h3.1.symm
      | [], _, hs => simp at hs
  | succ i =>
    have hi' : r[i]? = some s := by simpa using hi
    obtain ⟨g1, g2, g3, g4, g5⟩ := lev_at hm h3 hi'
    have hn : 2 ≤ n := h2.elim (fun h8 => by subst h8; simp at hi') id
    have h5 := lev_sum (fun n hn => (g2 n hn).1)
    have h6 : 2 * (m / 2) ^ i ≤ s.length := Nat.le_trans (Nat.mul_le_mul_right _ hn) g1
    refine ⟨fun k hk => ⟨(g2 k hk).2, Nat.le_trans (le_sum hk) g3, fun _ => (g2 k hk).1, (fun h0 => by cases h0)⟩, g3, fun h9 => g4 (by simp only [List.length_cons] at h9; omega), (fun s'' hs => g5 s'' (by simpa using hs)), (fun h0 => by cases h0), fun _ => ⟨h6, ?_⟩⟩
    rw [Nat.pow_succ, ← Nat.mul_assoc]
    exact Nat.le_trans (Nat.mul_le_mul_right _ h6) (Nat.le_trans h5 g3)
theorem shape_pos {m keys : Nat} {L : List (List Nat)} (h : ShapeL m keys L) : 0 < L.length := by
  obtain ⟨n, r, rfl, -⟩ := h
  simp
theorem shape_last {m keys : Nat} (hm : 4 ≤ m) {L : List (List Nat)} (h : ShapeL m keys L) : L.length = 1 ∨ 2 * (m / 2) ^ (L.length - 1) ≤ keys := by
  rcases Nat.lt_or_ge 1 L.length with h1 | h1
  · exact .inr ((shape_at hm h (List.getElem?_eq_getElem (show L.length - 1 < L.length by omega))).2.2.2.2.2 (by omega)).2
  · have := shape_pos h; exact .inl (by omega)
theorem rows_below {base : Nat} {w w' : World} {v : Value} {L : List (List Nat)} (h : RowsI base w v L) (hb : Below w.heap.size w w') : RowsI base w' v L := by
  obtain ⟨vs, S, h1, h2, h3, h4⟩ := h
  exact ⟨vs, S, h1.below hb, rowsAt_step h2 (fun k hk => hb.block k (rowsAt_lt h2 k hk)), h3, h4⟩
theorem rows_at {base : Nat} {w : World} {v : Value} {L : List (List Nat)} (h : RowsI base w v L) {i : Nat} {s : List Nat} (hi : L[i]? = some s) :
    ∃ g c A' c', v = .slice (some ⟨g, 0, none⟩) L.length c ∧ w.cell? ⟨g, i, none⟩ = some (.slice A' s.length c') ∧ RowV 3 w (.slice A' s.length c') (s.map encI) := by
  obtain ⟨vs, S, h1, h2, -, -⟩ := h
  obtain ⟨u, hu, hr, -⟩ := rowsAt_get h2 hi
  obtain ⟨g, c, e, hc, -, -⟩ := h1.at hu
  obtain ⟨A', c', rfl, -, -⟩ := hr.shape
  rw [List.length_map] at hc hr
  exact ⟨g, c, A', c', by rw [e, rowsAt_len h2], hc, hr⟩
theorem shape_len {m keys : Nat} (hm : 4 ≤ m) {L : List (List Nat)} (h : ShapeL m keys L) : L.length ≤ keys + 1 := by
  rcases shape_last hm h with h1 | h1
  · omega
  · have h2 : 2 ^ (L.length - 1) ≤ (m / 2) ^ (L.length - 1) := Nat.pow_le_pow_left (by omega) _
    have h3 : L.length - 1 < 2 ^ (L.length - 1) := Nat.lt_two_pow_self
    omega
theorem shape_wide {m keys : Nat} (hm : 4 ≤ m) {L : List (List Nat)} (h : ShapeL m keys L) {i : Nat} {s : List Nat} (hi : L[i]? = some s) : s.length ≤ keys + 1 := by
  obtain ⟨h1, h2, h3, h4, h5, h6⟩ := shape_at hm h hi
  rcases Nat.eq_zero_or_pos i with h0 | h0
  · rw [h5 h0]; omega
  · have h7 := lev_sum (fun n hn => (h1 n hn).2.2.1 h0)
    have h8 : s.length * 1 ≤ s.length * (m / 2) := Nat.mul_le_mul_left _ (by omega)
    omega
theorem sum_take {s : List Nat} {k n : Nat} (hk : s[k]? = some n) : (s.take (k + 1)).sum = (s.take k).sum + n := by
  rw [List.take_add_one, hk, List.sum_append]; simp
theorem sum_take_le {s : List Nat} (k : Nat) : (s.take k).sum ≤ s.sum := by
  have h := congrArg List.sum (List.take_append_drop k s)
  rw [List.sum_append] at h; omega
/-- Levels of a tree that has these pairs. -/
theorem levels_tr {m : Nat} {w : World} {tb : Nat} {l : List KV} {S : List Nat} (h4 : 4 ≤ m) (hl : l.length ≤ 4294967296) (hT : Tr m w tb l S) :
    Calls Try.prog 19 #[.pointer (some ⟨tb, 0, none⟩)] w fun e w' => ∃ v L, e = .returned v ∧ RowsI w.heap.size w' v L ∧ ShapeL m l.length L ∧ Below w.heap.size w w' := by
  obtain ⟨h, t, hA, hR, rfl⟩ := hT
  exact (levels_calls h4 hA hR hl).mono (fun e w' ⟨v, h1, h2, h3⟩ => ⟨v, _, h1, h2, right_shape hR, h3⟩)
end Go.Proofs.YtmomohljnmopfaaX
end
