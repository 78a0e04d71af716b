/- Several texts in one: TP, TQ, TR, TT, TS, TU, TV, TW, UA, UB, UC; no conditions beyond those in each theorem's head. -/
import Derived.Test.YtmomohljnmopfaaMR
import Derived.Test.YtmomohljnmopfaaMA
import Derived.Deep.RegionWith
import Derived.Test.YtmomohljnmopfaaWTab
import Derived.Tactics
import Derived.Test.YtmomohljnmopfaaPK
section
namespace Go.Proofs.YtmomohljnmopfaaX
open Go.RowKit Go.Lib Go.Proofs.YtmomohljnmopfaaW.PrintWords Go.Proofs.YtmomohljnmopfaaW.PrintLast Go.Proofs.YtmomohljnmopfaaW.PrintMore
set_option linter.unusedVariables false
set_option linter.unusedSimpArgs false
attribute [local go_sem high] eqlNil71 eqlNil72
theorem at_rank : ∀ {ks : List Nm} {x : Nm}, RisesK ks → atK ks x = if ks[rank ks x]? = some x then rank ks x + 1 else rank ks x
  | [], x, _ => by simp [atK, rank]
  | k :: ks, x, h => by
    obtain ⟨h1, h2⟩ := List.pairwise_cons.1 h
    have ih := at_rank (x := x) h2
    unfold atK rank
    by_cases hlt : k < x
    · rw [if_neg (fun h9 => nm_irrefl _ (nm_trans hlt h9)), if_pos hlt, List.getElem?_cons_succ, ih]
      split <;> rfl
    · rw [if_neg hlt]
      by_cases he : k = x
      · subst he
        rw [if_neg (nm_irrefl k), List.getElem?_cons_zero, if_pos rfl, ih]
        have hr : rank ks k = 0 := by
          cases ks with
          | nil => rfl
          | cons q ks => unfold rank; rw [if_neg (fun h9 => nm_irrefl _ (nm_trans h9 (h1 q (by simp))))]
        rw [hr, if_neg (fun h9 => by
          cases ks with
          | nil => simp at h9
          | cons q ks => simp at h9; exact nm_ne (h1 q (by simp)) h9.symm)]
      · rw [if_pos (nm_tri hlt he), List.getElem?_cons_zero, if_neg (fun h9 => he (Option.some.inj h9))]
theorem at_calls {w : World} {b : Nat} {kv : Value} {ks : List Nm} {x : Nm} (h0 : w.cell? ⟨b, 0, none⟩ = some kv) (hk : RowV 9 w kv (encKs ks)) (hn : ks.length ≤ 70368744177664) (hr : RisesK ks) :
    Calls Try.prog 44 #[.pointer (some ⟨b, 0, none⟩), .string ⟨x.toArray⟩] w fun e w' => e = .returned (.int .i64 (atK ks x)) ∧ w' = w := by
  obtain ⟨A, c, rfl, hc, -⟩ := hk.shape
  have hs := hk.src rfl
  rw [encKs_len] at hc
  have cS := search_calls (x := x) hs hc hn hr
  rw [encKs_len] at h0
  have HA := Aside0.mk (at_rank (x := x) hr)
  have e1 : IntKind.i64.wrap ((rank ks x : Int) + 1) = (rank ks x : Int) + 1 := by have := rank_le ks x; rw [i64_w]; unfold wrap64; omega
  clear hk hn hr hs hc
  by_cases hf : ks[rank ks x]? = some x
  · rw [decide_eq_true hf] at cS
    have HF := Aside0.mk hf
    clear hf
    go_enter Try.func44, Try.ntmps44
    go_wp2_with (go_at_call 40; refine cS.mono ?_; rintro e w1 ⟨rfl, rfl⟩)
    go_ret
    refine ⟨?_, rfl⟩
    rw [HA.out, if_pos HF.out]
    rfl
  · rw [decide_eq_false hf] at cS
    have HF : Aside0 (¬ ks[rank ks x]? = some x) := ⟨hf⟩
    clear hf
    go_enter Try.func44, Try.ntmps44
    go_wp2_with (go_at_call 40; refine cS.mono ?_; rintro e w1 ⟨rfl, rfl⟩)
    go_ret
    refine ⟨?_, rfl⟩
    rw [HA.out, if_neg HF.out]
    rfl
/-- What split leaves. -/
def SplitP (h : Nat) (t : T h) (b : Nat) (S : List Nat) (w : World) (e : Ending) (w' : World) : Prop :=
  ∃ rb Sl Sr, e = .returned (.tuple #[.pointer (some ⟨rb, 0, none⟩), .string ⟨(splitT h t).2.1.toArray⟩]) ∧ NodeAt h w' b (splitT h t).1 Sl ∧ NodeAt h w' rb (splitT h t).2.2 Sr ∧ Fr S w w' ∧ (∀ k ∈ Sl ++ Sr, k ∈ S ∨ w.heap.size ≤ k) ∧ (Sl ++ Sr).Nodup
theorem encKs_drop (ks : List Nm) (i : Nat) : (encKs ks).drop i = encKs (ks.drop i) := by unfold encKs; rw [List.map_drop]
theorem encKs_take (ks : List Nm) (i : Nat) : (encKs ks).take i = encKs (ks.take i) := by unfold encKs; rw [List.map_take]
theorem encVs_drop (l : List KV) (i : Nat) : (encVs l).drop i = encVs (l.drop i) := by unfold encVs; rw [List.map_drop]
theorem encVs_take (l : List KV) (i : Nat) : (encVs l).take i = encVs (l.take i) := by unfold encVs; rw [List.map_take]
theorem keysOf_drop (l : List KV) (i : Nat) : (keysOf l).drop i = keysOf (l.drop i) := by unfold keysOf; rw [List.map_drop]
theorem keysOf_take (l : List KV) (i : Nat) : (keysOf l).take i = keysOf (l.take i) := by unfold keysOf; rw [List.map_take]
theorem keysOf_len (l : List KV) : (keysOf l).length = l.length := List.length_map _
theorem encVs_len (l : List KV) : (encVs l).length = l.length := List.length_map _
theorem one_encKs (ks : List Nm) : ∀ u ∈ encKs ks, u.oneCell' = true := fun u hu => by obtain ⟨k, _, rfl⟩ := List.mem_map.1 hu; rfl
theorem one_encVs (l : List KV) : ∀ u ∈ encVs l, u.oneCell' = true := fun u hu => by obtain ⟨k, _, rfl⟩ := List.mem_map.1 hu; rfl
theorem one_encP (bs : List Nat) : ∀ u ∈ bs.map encP, u.oneCell' = true := fun u hu => by obtain ⟨k, _, rfl⟩ := List.mem_map.1 hu; rfl
/-- v[k:] is read. -/
theorem RowV.srcDrop {e : TypeId} {w : World} {xs : List Value} {g n c : Nat} (h : RowV e w (.slice (some ⟨g, 0, none⟩) n c) xs) (k : Nat) : SrcV w (some ⟨g, k, none⟩) (xs.drop k) := fun hne => by
  rcases h with ⟨h1, rfl⟩ | ⟨g', cap, cur, h0, hg, h1, h2, h3, h4, _⟩
  · cases h1
  · cases h0
    refine ⟨_, rfl, fun j u hj => ?_⟩
    rw [List.getElem?_drop] at hj
    have hl := (List.getElem?_eq_some_iff.1 hj).1
    rw [Addr.add_lit]
    rw [← h4, List.getElem?_take, if_pos hl, Array.getElem?_toList] at hj
    rw [cell_of_row w g (k + j) cur e (0, 0) hg, hj]
theorem SrcV.below {w w' : World} {A : Option Addr} {xs : List Value} (h : SrcV w A xs) (hb : Below w.heap.size w w') : SrcV w' A xs := fun hne => by
  obtain ⟨ad, h1, h2⟩ := h hne
  exact ⟨ad, h1, fun j u hj => (hb.cell (World.block_lt_of_cell? _ _ (h2 j u hj))).trans (h2 j u hj)⟩
set_option maxRecDepth 100000 in
set_option maxHeartbeats 8000000 in
theorem splitLeaf_calls {w : World} {b : Nat} {l : List KV} {S : List Nat} (hh : LeafAt w b l S) (h2 : 2 ≤ l.length) (hm : l.length ≤ 1000) : Calls Try.prog 36 #[.pointer (some ⟨b, 0, none⟩)] w (SplitP 0 l b S w) := by
  have H := Aside0.mk hh
  obtain ⟨kv, vv, h1, hk, hv, hS, hn⟩ := hh
  obtain ⟨gk, ck, rfl⟩ := row_some hk (by rw [encKs_len, keysOf_len]; omega)
  obtain ⟨gv, cv, rfl⟩ := row_some hv (by rw [encVs_len]; omega)
  rw [encKs_len, keysOf_len] at h1 hk
  rw [encVs_len] at h1 hv
  obtain ⟨c0, c1, c2⟩ := leaf_cells h1
  obtain ⟨_, _, e1, hck, -⟩ := hk.shape
  rw [encKs_len, keysOf_len] at e1 hck
  cases e1
  obtain ⟨_, _, e1, hcv, -⟩ := hv.shape
  rw [encVs_len] at e1 hcv
  cases e1
  have f0 := blk_frozen h1 0
  have f1 := blk_frozen h1 1
  obtain ⟨q, hq⟩ : ∃ q, l.length / 2 = q := ⟨_, rfl⟩
  have hql : q < l.length := by omega
  have hq0 : 0 < q := by omega
  have SK := hk.srcDrop q
  have SV := hv.srcDrop q
  rw [encKs_drop, keysOf_drop] at SK
  rw [encVs_drop] at SV
  have cK : Aside0 (∀ W, Below w.heap.size w W → Calls Try.prog 29 #[.slice (some ⟨gk, q, none⟩) (l.length - q) (ck - q)] W fun e w' => ∃ v', e = .returned v' ∧ RowV 9 w' v' (encKs (keysOf (l.drop q))) ∧ Below W.heap.size W w' ∧ ∀ k ∈ v'.ownBlock.toList, W.heap.size ≤ k) := ⟨fun W hW => by
    have h9 := cloneS (c := ck - q) (SK.below hW) (one_encKs _) (by rw [encKs_len, keysOf_len, List.length_drop]; omega) (fun e => by have := congrArg List.length e; rw [encKs_len, keysOf_len, List.length_drop] at this; simp at this; omega) (by rw [encKs_len, keysOf_len, List.length_drop]; omega)
    rw [encKs_len, keysOf_len, List.length_drop] at h9
    exact h9⟩
  have cV : Aside0 (∀ W, Below w.heap.size w W → Calls Try.prog 29 #[.slice (some ⟨gv, q, none⟩) (l.length - q) (cv - q)] W fun e w' => ∃ v', e = .returned v' ∧ RowV 9 w' v' (encVs (l.drop q)) ∧ Below W.heap.size W w' ∧ ∀ k ∈ v'.ownBlock.toList, W.heap.size ≤ k) := ⟨fun W hW => by
    have h9 := cloneS (c := cv - q) (SV.below hW) (one_encVs _) (by rw [encVs_len, List.length_drop]; omega) (fun e => by have := congrArg List.length e; rw [encVs_len, List.length_drop] at this; simp at this; omega) (by rw [encVs_len, List.length_drop]; omega)
    rw [encVs_len, List.length_drop] at h9
    exact h9⟩
  have e2 : (l.length : Int) / 2 = (q : Int) := by omega
  have e3 : (q : Int) ≤ (l.length : Int) := by omega
  have e4 : ¬ (ck = q) := by omega
  have e5 : ¬ (cv = q) := by omega
  have e6 : q ≤ l.length := by omega
  have HQ := Aside0.mk hq
  have HP : Aside0 (0 < l.length - q) := ⟨by omega⟩
  have HKV := Aside0.mk (And.intro hk (And.intro hv (And.intro hS hn)))
  have HF := Aside0.mk (And.intro h1 (And.intro hck hcv))
  have e7 : (q : Int) ≤ (ck : Int) := by omega
  have e8 : (q : Int) ≤ (cv : Int) := by omega
  clear hq hS hn hk hv SK SV h1 f0 f1
  go_enter Try.func36, Try.ntmps36
  go_upto_region 3 with fail
  have c0' : ∀ W, Below w.heap.size w W → W.cell? ⟨b, 0, none⟩ = some (.slice (some ⟨gk, 0, none⟩) l.length ck) := fun W hW => (hW.cell (World.block_lt_of_cell? _ _ c0)).trans c0
  have c1' : ∀ W, Below w.heap.size w W → W.cell? ⟨b, 1, none⟩ = some (.slice (some ⟨gv, 0, none⟩) l.length cv) := fun W hW => (hW.cell (World.block_lt_of_cell? _ _ c1)).trans c1
  have C0 := Aside0.mk c0'
  have C1 := Aside0.mk c1'
  clear c0' c1'
  go_region_with (first
    | (go_at_call 29; refine (cK.out _ (below_drew1 (Below.refl _ _))).mono ?_; rintro e w1 ⟨vk, rfl, hr, hb, hf⟩; obtain ⟨ga, ck2, rfl⟩ := row_some hr (by rw [encKs_len, keysOf_len, List.length_drop]; exact HP.out); rw [encKs_len, keysOf_len, List.length_drop] at hr hf; rw [encKs_len, keysOf_len, List.length_drop]; have hb1 : Below w.heap.size w w1 := (below_drew1 (Below.refl _ _)).trans hb; have B1 := Aside0.mk hb1; have R1 := Aside0.mk (And.intro hr hf); have d1 := C1.out _ hb1; clear hr hb hb1 hf cK)
    | (go_at_call 29; refine (cV.out _ B1.out).mono ?_; rintro e w2 ⟨vv', rfl, hr, hb, hf⟩; obtain ⟨gw, cv2, rfl⟩ := row_some hr (by rw [encVs_len, List.length_drop]; exact HP.out); rw [encVs_len, List.length_drop] at hr hf; rw [encVs_len, List.length_drop]; have B2 := Aside0.mk hb; have R2 := Aside0.mk (And.intro hr hf); clear hr hb hf cV))
  all_goals
    obtain ⟨W, hW⟩ : ∃ W, (w2.alloc (.cells #[.slice (some ⟨ga, 0, none⟩) (l.length - q) ck2, .slice (some ⟨gw, 0, none⟩) (l.length - q) cv2, .slice none 0 0] 74)) = W := ⟨_, rfl⟩
    obtain ⟨rb, hrb⟩ : ∃ rb, rb = w2.heap.size := ⟨_, rfl⟩
    have hRB : W.heap[rb]? = some (.cells #[.slice (some ⟨ga, 0, none⟩) (l.length - q) ck2, .slice (some ⟨gw, 0, none⟩) (l.length - q) cv2, .slice none 0 0] 74 (0, 0)) := by rw [← hW, hrb]; exact blk_new w2 _
    have BW2 : Below w2.heap.size w2 W := by rw [← hW]; exact below_alloc (Below.refl _ _) _
    have BW1 : Below w1.heap.size w1 W := B2.out.trans (BW2.mono B2.out.size)
    have BW : Below w.heap.size w W := B1.out.trans (BW1.mono B1.out.size)
    have hB := (BW.block b (blk_lt HF.out.1)).trans HF.out.1
    have RKW := R1.out.1.below BW1
    have RVW := R2.out.1.below BW2
    have f0 := blk_frozen hB 0
    have f1 := blk_frozen hB 1
    obtain ⟨x0, x1, -⟩ := leaf_cells hB
    obtain ⟨y0, -, -⟩ := leaf_cells hRB
    obtain ⟨hd, hhd⟩ : ∃ p, l[q]? = some p := ⟨_, List.getElem?_eq_getElem hql⟩
    have hk0 : (encKs (keysOf (l.drop q)))[0]? = some (.string ⟨hd.1.toArray⟩) := encKs_get (by rw [keysOf, List.getElem?_map, List.getElem?_drop, Nat.add_zero, hhd]; rfl)
    obtain ⟨g9, c9, hv9, z0, -, -⟩ := RKW.at hk0
    have e9 : ga = g9 := by
      simp only [Value.slice.injEq, Option.some.injEq, Addr.mk.injEq] at hv9
      exact hv9.1.1
    subst e9
    have ND : Aside0 (b < w.heap.size ∧ gk < w.heap.size ∧ gv < w.heap.size ∧ w.heap.size ≤ ga ∧ ga < w1.heap.size ∧ w1.heap.size ≤ gw ∧ gw < w2.heap.size ∧ rb = w2.heap.size ∧ w1.heap.size ≤ w2.heap.size ∧ w.heap.size ≤ w1.heap.size) := ⟨blk_lt HF.out.1, HKV.out.1.lt gk (by simp [Value.ownBlock]), HKV.out.2.1.lt gv (by simp [Value.ownBlock]), R1.out.2 ga (by simp [Value.ownBlock]), R1.out.1.lt ga (by simp [Value.ownBlock]), R2.out.2 gw (by simp [Value.ownBlock]), R2.out.1.lt gw (by simp [Value.ownBlock]), hrb, B2.out.size, B1.out.size⟩
    have AB := Aside0.mk (And.intro hRB (And.intro BW (And.intro RKW (And.intro RVW hB))))
    have HHD : Aside0 (headK (l.drop q) = hd.1) := ⟨by rw [List.drop_eq_getElem_cons hql]; have := (List.getElem?_eq_some_iff.1 hhd).2; rw [this]; rfl⟩
    have HPI : (0 : Int) < ((l.length - q : Nat) : Int) := by have := HP.out; omega
    have HPN := HP.out
    rw [hW]
    go_simp
    rw [← hrb]
    clear hW hrb hRB BW2 BW1 BW RKW RVW hB c0 c1 c2 d1 hhd hk0 hv9
    go_upto_region 4 with fail
    go_region
    obtain ⟨W5, hW5⟩ : ∃ W5, ((W.setCell ⟨b, 0, none⟩ (.slice (some ⟨gk, 0, none⟩) q q)).setCell ⟨b, 1, none⟩ (.slice (some ⟨gv, 0, none⟩) q q)).drew = W5 := ⟨_, rfl⟩
    have FB : Aside0 (Fr [b] W W5) := ⟨by rw [← hW5]; exact (((Fr.refl [b] W).setCell (p := ⟨b, 0, none⟩) (.inl (by simp)) _).setCell (p := ⟨b, 1, none⟩) (.inl (by simp)) _).drew⟩
    have HB5 : Aside0 (W5.heap[b]? = some (.cells #[.slice (some ⟨gk, 0, none⟩) q q, .slice (some ⟨gv, 0, none⟩) q q, .slice none 0 0] 74 (0, 0))) := ⟨by rw [← hW5]; exact blk_put (blk_put AB.out.2.2.2.2 0 _ rfl) 1 _ rfl⟩
    have HR5 := Aside0.mk (FB.out.blk AB.out.1 (by simp only [List.mem_singleton]; have := ND.out; omega))
    have KR5 := Aside0.mk (AB.out.2.2.1.fr FB.out (fun k hk => by simp [Value.ownBlock] at hk; simp only [List.mem_singleton]; have := ND.out; omega))
    have VR5 := Aside0.mk (AB.out.2.2.2.1.fr FB.out (fun k hk => by simp [Value.ownBlock] at hk; simp only [List.mem_singleton]; have := ND.out; omega))
    rw [hW5]
    clear hW5 x0 x1 y0 z0 f0 f1
    obtain ⟨y0, -, -⟩ := leaf_cells HR5.out
    have hk0 : (encKs (keysOf (l.drop q)))[0]? = some (.string ⟨hd.1.toArray⟩) := encKs_get (by rw [← HHD.out, keysOf, List.getElem?_map, List.drop_eq_getElem_cons hql]; rfl)
    obtain ⟨g8, c8, hv8, z0, -, -⟩ := KR5.out.at hk0
    have e9 : g8 = ga := by
      simp only [Value.slice.injEq, Option.some.injEq, Addr.mk.injEq] at hv8
      exact hv8.1.1.symm
    rw [e9] at z0
    clear hv8 hk0 e9
    go_upto_region 5 with fail
    go_quiet (fail)
    go_wp2
    go_ret2
    obtain ⟨hk1, hv1, hS1, hn1⟩ := HKV.out
    have hn2 := hn1
    rw [hS1] at hn2
    simp [Value.ownBlock] at hn2
    have ND' := ND.out
    refine ⟨rb, S, [rb, ga, gw], ?_, ?_, ?_, ?_, ?_, ?_⟩
    · show _ = Ending.returned (.tuple #[_, .string ⟨(headK (List.drop (α := KV) (l.length / 2) l)).toArray⟩])
      rw [HQ.out, HHD.out]
      rfl
    · show LeafAt _ b (List.take (α := KV) (l.length / 2) l) S
      rw [HQ.out]
      refine ⟨_, _, HB5.out, ?_, ?_, hS1, hn1⟩
      · have h9 := ((hk1.below AB.out.2.1).fr FB.out (fun k hk => by simp [Value.ownBlock] at hk; simp only [List.mem_singleton]; intro e9; exact hn2.1.1 (by rw [← e9, hk]))).cut rfl (k := q) (c' := q) (by rw [encKs_len, keysOf_len]; omega) (.inr rfl)
        rw [encKs_take, keysOf_take] at h9
        exact h9.step (fun _ _ => rfl)
      · have h9 := ((hv1.below AB.out.2.1).fr FB.out (fun k hk => by simp [Value.ownBlock] at hk; simp only [List.mem_singleton]; intro e9; exact hn2.1.2 (by rw [← e9, hk]))).cut rfl (k := q) (c' := q) (by rw [encVs_len]; omega) (.inr rfl)
        rw [encVs_take] at h9
        exact h9.step (fun _ _ => rfl)
    · show LeafAt _ rb (List.drop (α := KV) (l.length / 2) l) _
      rw [HQ.out]
      refine ⟨_, _, HR5.out, KR5.out.step (fun _ _ => rfl), VR5.out.step (fun _ _ => rfl), by simp [Value.ownBlock], ?_⟩
      simp only [List.nodup_cons, List.mem_cons, List.not_mem_nil, or_false, not_or, List.nodup_nil, and_true, not_false_eq_true]
      omega
    · exact ((Fr.of_below AB.out.2.1 S).trans FB.out (fun x hx => by simp only [List.mem_singleton] at hx; rw [hx, hS1]; exact .inl (by simp))).drewN _
    · intro k hk
      rcases List.mem_append.1 hk with hk | hk
      · exact .inl hk
      · simp only [List.mem_cons, List.not_mem_nil, or_false] at hk
        right
        omega
    · refine List.nodup_append.2 ⟨hn1, ?_, fun x hx y hy => ?_⟩
      · simp only [List.nodup_cons, List.mem_cons, List.not_mem_nil, or_false, not_or, List.nodup_nil, and_true, not_false_eq_true]
        omega
      · have h9 := leaf_lt H.out x hx
        simp only [List.mem_cons, List.not_mem_nil, or_false] at hy
        omega
end Go.Proofs.YtmomohljnmopfaaX
end
section
namespace Go.Proofs.YtmomohljnmopfaaX
open Go.RowKit Go.Lib Go.Proofs.YtmomohljnmopfaaW.PrintWords Go.Proofs.YtmomohljnmopfaaW.PrintLast Go.Proofs.YtmomohljnmopfaaW.PrintMore
set_option linter.unusedVariables false
set_option linter.unusedSimpArgs false
attribute [local go_sem high] eqlNil71 eqlNil72
theorem kids_split {α : Type} {R : Nat → α → List Nat → Prop} : ∀ {bs : List Nat} {cs : List α} {S : List Nat} (q : Nat), KidsAt R bs cs S → ∃ Sa Sb, KidsAt R (bs.take q) (cs.take q) Sa ∧ KidsAt R (bs.drop q) (cs.drop q) Sb ∧ S = Sa ++ Sb
  | bs, cs, S, 0, h => ⟨[], S, rfl, h, rfl⟩
  | [], [], S, q + 1, h => ⟨[], [], rfl, rfl, h⟩
  | b :: bs, c :: cs, S, q + 1, ⟨S1, S2, h1, h2, h3⟩ => by
    obtain ⟨Sa, Sb, k1, k2, k3⟩ := kids_split q h2
    exact ⟨S1 ++ Sa, Sb, ⟨S1, Sa, h1, k1, rfl⟩, k2, by rw [h3, k3, List.append_assoc]⟩
  | [], c :: cs, S, q + 1, h => h.elim
  | b :: bs, [], S, q + 1, h => h.elim
theorem RowV.cap {e : TypeId} {w : World} {A : Option Addr} {n c : Nat} {xs : List Value} (h : RowV e w (.slice A n c) xs) : n = xs.length ∧ xs.length ≤ c := by
  obtain ⟨_, _, e1, hc, _⟩ := h.shape
  simp only [Value.slice.injEq] at e1
  exact ⟨e1.2.1, by rw [e1.2.2]; exact hc⟩
theorem ptrs_drop (bs : List Nat) (i : Nat) : (bs.map encP).drop i = (bs.drop i).map encP := by rw [List.map_drop]
theorem ptrs_take (bs : List Nat) (i : Nat) : (bs.map encP).take i = (bs.take i).map encP := by rw [List.map_take]
set_option maxRecDepth 100000 in
set_option maxHeartbeats 8000000 in
theorem splitInner_calls {h : Nat} {w : World} {b : Nat} {t : T (h + 1)} {S : List Nat} (hh : NodeAt (h + 1) w b t S) (h2 : 4 ≤ t.2.length) (hm : t.2.length ≤ 1000) : Calls Try.prog 36 #[.pointer (some ⟨b, 0, none⟩)] w (SplitP (h + 1) t b S w) := by
  have H := Aside0.mk hh
  obtain ⟨ks, cs⟩ := t
  obtain ⟨kv, vv, bs, S2, h1, hk, hv, hkids, hlen, hS, hn⟩ := hh
  simp only at h2 hm hk hkids hlen
  have hbl := kids_len hkids
  obtain ⟨gk, ck, rfl⟩ := row_some hk (by rw [encKs_len]; omega)
  obtain ⟨gv, cv, rfl⟩ := row_some hv (by rw [List.length_map]; omega)
  rw [encKs_len] at h1 hk
  rw [List.length_map, hbl] at h1 hv
  obtain ⟨c0, c1, c2⟩ := inner_cells h1
  have hck := hk.cap.2
  have hcv := hv.cap.2
  rw [encKs_len] at hck
  rw [List.length_map, hbl] at hcv
  obtain ⟨q, hq⟩ : ∃ q, cs.length / 2 = q + 1 := ⟨cs.length / 2 - 1, by omega⟩
  have hql : q + 1 < cs.length := by omega
  have hqk : q + 1 < ks.length := by omega
  have SK := hk.srcDrop (q + 1)
  have SV := hv.srcDrop (q + 1)
  rw [encKs_drop] at SK
  rw [ptrs_drop] at SV
  have cK : Aside0 (∀ W, Below w.heap.size w W → Calls Try.prog 29 #[.slice (some ⟨gk, q + 1, none⟩) (ks.length - (q + 1)) (ck - (q + 1))] W fun e w' => ∃ v', e = .returned v' ∧ RowV 9 w' v' (encKs (ks.drop (q + 1))) ∧ Below W.heap.size W w' ∧ ∀ k ∈ v'.ownBlock.toList, W.heap.size ≤ k) := ⟨fun W hW => by
    have h9 := cloneS (c := ck - (q + 1)) (SK.below hW) (one_encKs _) (by rw [encKs_len, List.length_drop]; omega) (fun e => by have := congrArg List.length e; rw [encKs_len, List.length_drop] at this; simp at this; omega) (by rw [encKs_len, List.length_drop]; omega)
    rw [encKs_len, List.length_drop] at h9
    exact h9⟩
  have cV : Aside0 (∀ W, Below w.heap.size w W → Calls Try.prog 30 #[.slice (some ⟨gv, q + 1, none⟩) (cs.length - (q + 1)) (cv - (q + 1))] W fun e w' => ∃ v', e = .returned v' ∧ RowV 70 w' v' ((bs.drop (q + 1)).map encP) ∧ Below W.heap.size W w' ∧ ∀ k ∈ v'.ownBlock.toList, W.heap.size ≤ k) := ⟨fun W hW => by
    have h9 := cloneN (c := cv - (q + 1)) (SV.below hW) (one_encP _) (by rw [List.length_map, List.length_drop]; omega) (fun e => by have := congrArg List.length e; rw [List.length_map, List.length_drop] at this; simp at this; omega) (by rw [List.length_map, List.length_drop]; omega)
    rw [List.length_map, List.length_drop, hbl] at h9
    exact h9⟩
  have e2 : (cs.length : Int) / 2 = (q : Int) + 1 := by omega
  have e3 : (q : Int) + 1 ≤ (ks.length : Int) := by omega
  have e3' : (q : Int) + 1 ≤ (cs.length : Int) := by omega
  have e4 : ¬ (ck = q + 1) := by omega
  have e5 : ¬ (cv = q + 1) := by omega
  have e6 : q + 1 ≤ ks.length := by omega
  have e6' : q + 1 ≤ cs.length := by omega
  have e10 : ((q : Int) + 1).toNat = q + 1 := by omega
  have e11 : (0 : Int) ≤ (q : Int) + 1 := by omega
  have e12 : IntKind.i64.wrap ((q : Int) + 1 - 1) = (q : Int) := by rw [i64_w]; unfold wrap64; omega
  have e12' : (q : Int) + 1 - 1 = (q : Int) := by omega
  have HQ := Aside0.mk hq
  have HPK : Aside0 (0 < ks.length - (q + 1)) := ⟨by omega⟩
  have HPV : Aside0 (0 < cs.length - (q + 1)) := ⟨by omega⟩
  have HKV := Aside0.mk (And.intro hk (And.intro hv (And.intro hS hn)))
  have HKID := Aside0.mk (And.intro hkids hlen)
  have HF := Aside0.mk (And.intro h1 (And.intro hck hcv))
  have HBL := Aside0.mk hbl
  have e7 : (q : Int) ≤ (ck : Int) := by omega
  have e8 : (q : Int) + 1 ≤ (cv : Int) := by omega
  have e13 : (q : Int) < (ks.length : Int) := by omega
  clear hq hS hn hk hv SK SV h1 hkids hlen hbl
  go_enter Try.func36, Try.ntmps36
  go_upto_region 7 with fail
  have c0' : ∀ W, Below w.heap.size w W → W.cell? ⟨b, 0, none⟩ = some (.slice (some ⟨gk, 0, none⟩) ks.length ck) := fun W hW => (hW.cell (World.block_lt_of_cell? _ _ c0)).trans c0
  have c2' : ∀ W, Below w.heap.size w W → W.cell? ⟨b, 2, none⟩ = some (.slice (some ⟨gv, 0, none⟩) cs.length cv) := fun W hW => (hW.cell (World.block_lt_of_cell? _ _ c2)).trans c2
  have C0 := Aside0.mk c0'
  have C2 := Aside0.mk c2'
  clear c0' c2'
  go_region_with (first
    | (go_at_call 29; refine (cK.out _ (below_drew1 (Below.refl _ _))).mono ?_; rintro e w1 ⟨vk, rfl, hr, hb, hf⟩; obtain ⟨ga, ck2, rfl⟩ := row_some hr (by rw [encKs_len, List.length_drop]; exact HPK.out); rw [encKs_len, List.length_drop] at hr hf; rw [encKs_len, List.length_drop]; have hb1 : Below w.heap.size w w1 := (below_drew1 (Below.refl _ _)).trans hb; have B1 := Aside0.mk hb1; have R1 := Aside0.mk (And.intro hr hf); have d1 := C2.out _ hb1; clear hr hb hb1 hf cK)
    | (go_at_call 30; refine (cV.out _ B1.out).mono ?_; rintro e w2 ⟨vv', rfl, hr, hb, hf⟩; obtain ⟨gw, cv2, rfl⟩ := row_some hr (by rw [List.length_map, List.length_drop, HBL.out]; exact HPV.out); rw [List.length_map, List.length_drop, HBL.out] at hr hf; rw [List.length_map, List.length_drop, HBL.out]; have B2 := Aside0.mk hb; have R2 := Aside0.mk (And.intro hr hf); clear hr hb hf cV))
  all_goals
    obtain ⟨W, hW⟩ : ∃ W, (w2.alloc (.cells #[.slice (some ⟨ga, 0, none⟩) (ks.length - (q + 1)) ck2, .slice none 0 0, .slice (some ⟨gw, 0, none⟩) (cs.length - (q + 1)) cv2] 74)) = W := ⟨_, rfl⟩
    obtain ⟨rb, hrb⟩ : ∃ rb, rb = w2.heap.size := ⟨_, rfl⟩
    have hRB : W.heap[rb]? = some (.cells #[.slice (some ⟨ga, 0, none⟩) (ks.length - (q + 1)) ck2, .slice none 0 0, .slice (some ⟨gw, 0, none⟩) (cs.length - (q + 1)) cv2] 74 (0, 0)) := by rw [← hW, hrb]; exact blk_new w2 _
    have BW2 : Below w2.heap.size w2 W := by rw [← hW]; exact below_alloc (Below.refl _ _) _
    have BW1 : Below w1.heap.size w1 W := B2.out.trans (BW2.mono B2.out.size)
    have BW : Below w.heap.size w W := B1.out.trans (BW1.mono B1.out.size)
    have hB := (BW.block b (blk_lt HF.out.1)).trans HF.out.1
    have RKW := R1.out.1.below BW1
    have RVW := R2.out.1.below BW2
    have f0 := blk_frozen hB 0
    have f2 := blk_frozen hB 2
    obtain ⟨x0, -, x2⟩ := inner_cells hB
    obtain ⟨kq, hkq⟩ : ∃ k, ks[q]? = some k := ⟨_, List.getElem?_eq_getElem (by omega)⟩
    obtain ⟨g9, c9, hv9, z0, -, -⟩ := (HKV.out.1.below BW).at (encKs_get hkq)
    have e9 : g9 = gk := by
      simp only [Value.slice.injEq, Option.some.injEq, Addr.mk.injEq] at hv9
      exact hv9.1.1.symm
    rw [e9] at z0
    have ND : Aside0 (b < w.heap.size ∧ gk < w.heap.size ∧ gv < w.heap.size ∧ w.heap.size ≤ ga ∧ ga < w1.heap.size ∧ w1.heap.size ≤ gw ∧ gw < w2.heap.size ∧ rb = w2.heap.size ∧ w1.heap.size ≤ w2.heap.size ∧ w.heap.size ≤ w1.heap.size) := ⟨blk_lt HF.out.1, HKV.out.1.lt gk (by simp [Value.ownBlock]), HKV.out.2.1.lt gv (by simp [Value.ownBlock]), R1.out.2 ga (by simp [Value.ownBlock]), R1.out.1.lt ga (by simp [Value.ownBlock]), R2.out.2 gw (by simp [Value.ownBlock]), R2.out.1.lt gw (by simp [Value.ownBlock]), hrb, B2.out.size, B1.out.size⟩
    have AB := Aside0.mk (And.intro hRB (And.intro BW (And.intro RKW (And.intro RVW hB))))
    have HHD : Aside0 (ks.getD (cs.length / 2 - 1) [] = kq) := ⟨by rw [HQ.out, Nat.add_sub_cancel, List.getD_eq_getElem?_getD, hkq]; rfl⟩
    rw [hW]
    go_simp
    rw [← hrb]
    clear hW hrb hRB BW2 BW1 BW RKW RVW hB c0 c1 c2 d1 hkq hv9 e9
    go_upto_region 9 with fail
    go_region
    obtain ⟨W5, hW5⟩ : ∃ W5, ((W.setCell ⟨b, 0, none⟩ (.slice (some ⟨gk, 0, none⟩) q q)).setCell ⟨b, 2, none⟩ (.slice (some ⟨gv, 0, none⟩) (q + 1) (q + 1))).drew = W5 := ⟨_, rfl⟩
    have FB : Aside0 (Fr [b] W W5) := ⟨by rw [← hW5]; exact (((Fr.refl [b] W).setCell (p := ⟨b, 0, none⟩) (.inl (by simp)) _).setCell (p := ⟨b, 2, none⟩) (.inl (by simp)) _).drew⟩
    have HB5 : Aside0 (W5.heap[b]? = some (.cells #[.slice (some ⟨gk, 0, none⟩) q q, .slice none 0 0, .slice (some ⟨gv, 0, none⟩) (q + 1) (q + 1)] 74 (0, 0))) := ⟨by rw [← hW5]; exact blk_put (blk_put AB.out.2.2.2.2 0 _ rfl) 2 _ rfl⟩
    rw [hW5]
    clear hW5 x0 x2 z0 f0 f2
    go_wp2
    go_ret2
    obtain ⟨hk1, hv1, hS1, hn1⟩ := HKV.out
    obtain ⟨hkids, hlen⟩ := HKID.out
    have ND' := ND.out
    obtain ⟨Sa, Sb, ka, kb, hSab⟩ := kids_split (q + 1) hkids
    have hS2 : S = (b :: ([gk] ++ ([gv] ++ Sa))) ++ Sb := by
      rw [hS1, hSab]
      simp [Value.ownBlock]
    have hn2 := hn1
    rw [hS2] at hn2
    obtain ⟨nl, nr, nd⟩ := List.nodup_append.1 hn2
    have hlt : ∀ k ∈ S, k < w.heap.size := node_lt H.out
    have hbl : ∀ k ∈ [gk] ++ ([gv] ++ Sa), k ≠ b := fun k hk e9 => (List.nodup_cons.1 nl).1 (e9 ▸ hk)
    have hbr : ∀ k ∈ Sb, k ≠ b := fun k hk e9 => nd b (by simp) k hk e9.symm
    have keep : ∀ k, k < w.heap.size → k ≠ b → W5.heap[k]? = w.heap[k]? := fun k h1 h2 => (FB.out.block k (Nat.lt_of_lt_of_le h1 AB.out.2.1.size) (by simp only [List.mem_singleton]; exact h2)).trans (AB.out.2.1.block k h1)
    have hSaS : ∀ k ∈ Sa, k ∈ S := fun k hk => by rw [hS2]; simp [hk]
    have hSbS : ∀ k ∈ Sb, k ∈ S := fun k hk => by rw [hS2]; simp [hk]
    refine ⟨rb, b :: ([gk] ++ ([gv] ++ Sa)), rb :: ([ga] ++ ([gw] ++ Sb)), ?_, ?_, ?_, ?_, ?_, ?_⟩
    · show _ = Ending.returned (.tuple #[_, .string ⟨(ks.getD (cs.length / 2 - 1) []).toArray⟩])
      rw [HHD.out]
      rfl
    · show InnerAt (NodeAt h W5) W5 b (ks.take (cs.length / 2 - 1)) (cs.take (cs.length / 2)) _
      rw [HQ.out, Nat.add_sub_cancel]
      refine ⟨_, _, bs.take (q + 1), Sa, HB5.out, ?_, ?_, ?_, ?_, rfl, nl⟩
      · have h9 := hk1.cut rfl (k := q) (c' := q) (by rw [encKs_len]; omega) (.inr rfl)
        rw [encKs_take] at h9
        exact h9.step (fun k hk => by simp [Value.ownBlock] at hk; rw [hk]; exact keep gk ND'.2.1 (hbl gk (by simp)))
      · have h9 := hv1.cut rfl (k := q + 1) (c' := q + 1) (by rw [List.length_map, HBL.out]; omega) (.inr rfl)
        rw [ptrs_take] at h9
        exact h9.step (fun k hk => by simp [Value.ownBlock] at hk; rw [hk]; exact keep gv ND'.2.2.1 (hbl gv (by simp)))
      · exact kids_imp ka (fun b' c' S1 hs hr => node_step hr (fun k hk => keep k (hlt k (hSaS k (hs k hk))) (hbl k (by simp [hs k hk]))))
      · rw [List.length_take, List.length_take]; omega
    · show InnerAt (NodeAt h W5) W5 rb (ks.drop (cs.length / 2)) (cs.drop (cs.length / 2)) _
      rw [HQ.out]
      refine ⟨_, _, bs.drop (q + 1), Sb, FB.out.blk AB.out.1 (by simp only [List.mem_singleton]; omega), AB.out.2.2.1.fr FB.out (fun k hk => by simp [Value.ownBlock] at hk; simp only [List.mem_singleton]; omega), AB.out.2.2.2.1.fr FB.out (fun k hk => by simp [Value.ownBlock] at hk; simp only [List.mem_singleton]; omega), kids_imp kb (fun b' c' S1 hs hr => node_step hr (fun k hk => keep k (hlt k (hSbS k (hs k hk))) (hbr k (hs k hk)))), ?_, rfl, ?_⟩
      · rw [List.length_drop, List.length_drop]; omega
      · refine List.nodup_cons.2 ⟨?_, List.nodup_cons.2 ⟨?_, List.nodup_cons.2 ⟨?_, nr⟩⟩⟩
        · simp only [List.mem_append, List.mem_singleton, not_or]
          exact ⟨by omega, by omega, fun hx => by have := hlt _ (hSbS _ hx); omega⟩
        · show ga ∉ gw :: Sb
          simp only [List.mem_cons, not_or]
          exact ⟨by omega, fun hx => by have := hlt _ (hSbS _ hx); omega⟩
        · exact fun hx => by have := hlt _ (hSbS _ hx); omega
    · exact (Fr.of_below AB.out.2.1 S).trans FB.out (fun x hx => by simp only [List.mem_singleton] at hx; rw [hx, hS2]; exact .inl (by simp))
    · intro k hk
      rcases List.mem_append.1 hk with hk | hk
      · exact .inl (by rw [hS2]; exact List.mem_append_left _ hk)
      · rcases List.mem_cons.1 hk with rfl | hk
        · right; omega
        · rcases List.mem_append.1 hk with hk | hk
          · right; simp only [List.mem_singleton] at hk; omega
          · rcases List.mem_append.1 hk with hk | hk
            · right; simp only [List.mem_singleton] at hk; omega
            · exact .inl (hSbS k hk)
    · refine List.nodup_append.2 ⟨nl, ?_, fun x hx y hy => ?_⟩
      · refine List.nodup_cons.2 ⟨?_, List.nodup_cons.2 ⟨?_, List.nodup_cons.2 ⟨?_, nr⟩⟩⟩
        · simp only [List.mem_append, List.mem_singleton, not_or]
          exact ⟨by omega, by omega, fun hx => by have := hlt _ (hSbS _ hx); omega⟩
        · show ga ∉ gw :: Sb
          simp only [List.mem_cons, not_or]
          exact ⟨by omega, fun hx => by have := hlt _ (hSbS _ hx); omega⟩
        · exact fun hx => by have := hlt _ (hSbS _ hx); omega
      · have h9 := hlt x (by rw [hS2]; exact List.mem_append_left _ hx)
        rcases List.mem_cons.1 hy with rfl | hy
        · omega
        · rcases List.mem_append.1 hy with hy | hy
          · simp only [List.mem_singleton] at hy; omega
          · rcases List.mem_append.1 hy with hy | hy
            · simp only [List.mem_singleton] at hy; omega
            · exact nd x hx y hy
end Go.Proofs.YtmomohljnmopfaaX
end
section
namespace Go.Proofs.YtmomohljnmopfaaX
open Go.RowKit Go.Lib Go.Proofs.YtmomohljnmopfaaW.PrintWords Go.Proofs.YtmomohljnmopfaaW.PrintLast Go.Proofs.YtmomohljnmopfaaW.PrintMore
set_option linter.unusedVariables false
set_option linter.unusedSimpArgs false
theorem keysOf_rises {l : List KV} (h : Rises l) : RisesK (keysOf l) := List.pairwise_map.2 h
theorem seps_rises {hi : Option Nm} : ∀ {lo : Option Nm} {ks : List Nm}, Seps lo ks hi → RisesK ks
  | _, [], _ => List.Pairwise.nil
  | lo, k :: ks, h => List.pairwise_cons.2 ⟨fun q hq => seps_gt h.2 q hq k rfl, seps_rises h.2⟩
theorem keysOf_cons (p : KV) (l : List KV) : keysOf (p :: l) = p.1 :: keysOf l := rfl
theorem rank_cons_lt {k x : Nm} {ks : List Nm} (h : k < x) : rank (k :: ks) x = rank ks x + 1 := by rw [rank, if_pos h]
theorem rank_cons_ge {k x : Nm} {ks : List Nm} (h : ¬ k < x) : rank (k :: ks) x = 0 := by rw [rank, if_neg h]
theorem found_facts {x : Nm} {v : ByteArray} : ∀ {l : List KV}, (keysOf l)[rank (keysOf l) x]? = some x →
    ∃ o, l[rank (keysOf l) x]? = some (x, o) ∧ getF x l = some o ∧ putF x v l = l.set (rank (keysOf l) x) (x, v) ∧ delF x l = delAt (rank (keysOf l) x) l
  | [], h => by simp [keysOf] at h
  | (k, o) :: l, h => by
    rw [keysOf_cons] at h ⊢
    by_cases hk : k < x
    · rw [rank_cons_lt hk, List.getElem?_cons_succ] at h
      obtain ⟨o', h1, h2, h3, h4⟩ := found_facts (v := v) h
      have hne : ¬ k = x := nm_ne hk
      refine ⟨o', ?_, ?_, ?_, ?_⟩
      · rw [rank_cons_lt hk, List.getElem?_cons_succ]; exact h1
      · rw [getF, if_neg hne]; exact h2
      · rw [putF, if_pos hk, h3, rank_cons_lt hk]; rfl
      · rw [delF, if_neg hne, h4, rank_cons_lt hk]; rfl
    · rw [rank_cons_ge hk] at h ⊢
      have hx : k = x := Option.some.inj h
      subst hx
      exact ⟨o, rfl, by rw [getF, if_pos rfl], by rw [putF, if_neg hk, if_pos rfl]; rfl, by rw [delF, if_pos rfl]; rfl⟩
theorem missed_facts {x : Nm} {v : ByteArray} : ∀ {l : List KV}, Rises l → ¬ (keysOf l)[rank (keysOf l) x]? = some x →
    getF x l = none ∧ putF x v l = insAt (rank (keysOf l) x) (x, v) l ∧ delF x l = l
  | [], _, h => ⟨rfl, rfl, rfl⟩
  | (k, o) :: l, hr, h => by
    rw [keysOf_cons] at h ⊢
    obtain ⟨r1, r2⟩ := rises_cons.1 hr
    by_cases hk : k < x
    · rw [rank_cons_lt hk, List.getElem?_cons_succ] at h
      obtain ⟨h2, h3, h4⟩ := missed_facts (v := v) r2 h
      have hne : ¬ k = x := nm_ne hk
      refine ⟨?_, ?_, ?_⟩
      · rw [getF, if_neg hne]; exact h2
      · rw [putF, if_pos hk, h3, rank_cons_lt hk]; rfl
      · rw [delF, if_neg hne, h4]
    · rw [rank_cons_ge hk] at h ⊢
      have hx : ¬ k = x := fun e => h (by rw [e]; rfl)
      have h5 := nm_tri hk hx
      have hall : ∀ p ∈ (k, o) :: l, p.1 ≠ x := fun p hp => by
        rcases List.mem_cons.1 hp with rfl | hp
        · exact hx
        · exact fun e => by have := nm_trans h5 (r1 p hp); rw [e] at this; exact nm_irrefl _ this
      exact ⟨getF_none hall, by rw [putF, if_neg hk, if_neg hx]; rfl, delF_none hall⟩
theorem keysOf_set {l : List KV} {i : Nat} {x : Nm} {o v : ByteArray} (h : l[i]? = some (x, o)) : keysOf (l.set i (x, v)) = keysOf l := by
  unfold keysOf
  rw [List.map_set]
  apply List.ext_getElem?
  intro j
  rw [List.getElem?_set]
  split
  · rename_i e
    subst e
    rw [List.getElem?_map, h, List.length_map, if_pos (List.getElem?_eq_some_iff.1 h).1]; rfl
  · rfl
theorem encVs_set (l : List KV) (i : Nat) (x : Nm) (v : ByteArray) : encVs (l.set i (x, v)) = (encVs l).set i (.string v) := by unfold encVs; rw [List.map_set]
theorem map_insAt {α β : Type} (f : α → β) (i : Nat) (x : α) (l : List α) : (insAt i x l).map f = insAt i (f x) (l.map f) := by unfold insAt; rw [List.map_append, List.map_cons, List.map_take, List.map_drop]
theorem map_delAt {α β : Type} (f : α → β) (i : Nat) (l : List α) : (delAt i l).map f = delAt i (l.map f) := by unfold delAt; rw [List.map_append, List.map_take, List.map_drop]
theorem encKs_insAt (i : Nat) (x : Nm) (ks : List Nm) : encKs (insAt i x ks) = insAt i (.string ⟨x.toArray⟩) (encKs ks) := map_insAt _ _ _ _
theorem encVs_insAt (i : Nat) (x : Nm) (v : ByteArray) (l : List KV) : encVs (insAt i (x, v) l) = insAt i (.string v) (encVs l) := map_insAt _ _ _ _
theorem keysOf_insAt (i : Nat) (p : KV) (l : List KV) : keysOf (insAt i p l) = insAt i p.1 (keysOf l) := map_insAt _ _ _ _
theorem encKs_delAt (i : Nat) (ks : List Nm) : encKs (delAt i ks) = delAt i (encKs ks) := map_delAt _ _ _
theorem encVs_delAt (i : Nat) (l : List KV) : encVs (delAt i l) = delAt i (encVs l) := map_delAt _ _ _
theorem keysOf_delAt (i : Nat) (l : List KV) : keysOf (delAt i l) = delAt i (keysOf l) := map_delAt _ _ _
theorem ptrs_insAt (i b : Nat) (bs : List Nat) : (insAt i b bs).map encP = insAt i (encP b) (bs.map encP) := map_insAt _ _ _ _
theorem ptrs_delAt (i : Nat) (bs : List Nat) : (delAt i bs).map encP = delAt i (bs.map encP) := map_delAt _ _ _
/-- What stands under a key in a node stands so in its kid. -/
theorem get_kid {m h : Nat} {ks : List Nm} {cs : List (T h)} {lo hi : Option Nm} {x : Nm} {c : T h} (hk : Ok m (h + 1) (mkT ks cs) lo hi) (hlo : geO lo x) (hhi : ltH x hi) (hc : cs[atK ks x]? = some c) :
    getF x (flats cs) = getF x (flat h c) ∧ ∃ l2 h2, Kid m h c l2 h2 ∧ geO l2 x ∧ ltH x h2 := by
  obtain ⟨hs, hL⟩ := hk
  have hs1 : Seps lo ks hi := hs
  have hL1 : OkL (Kid m h) ks cs lo hi := hL
  obtain ⟨c', hc', ha, hcc, hb⟩ := okL_at hL1 (at_le ks x)
  rw [hc] at hc'
  cases hc'
  obtain ⟨p1, p2⟩ := sides hs1 hlo hhi ha hb
  obtain ⟨a1, a2⟩ := at_split (ks := ks) (lo := lo) hlo hhi
  refine ⟨?_, _, _, hcc, a1, a2⟩
  rw [flats_at hc, getF_app_r (fun p hp => nm_ne (p1 p hp)), getF_app_l (fun p hp => (nm_ne (p2 p hp)).symm)]
/-- One part of a list of blocks is another one. -/
theorem nodup_swap {B : Nat} {L M R M' : List Nat} (h : (L ++ (M ++ R)).Nodup) (hM : M'.Nodup) (hs : ∀ k ∈ M', k ∈ M ∨ B ≤ k) (hL : ∀ k ∈ L, k < B) (hR : ∀ k ∈ R, k < B) : (L ++ (M' ++ R)).Nodup := by
  obtain ⟨n1, n2, n3⟩ := List.nodup_append.1 h
  obtain ⟨n4, n5, n6⟩ := List.nodup_append.1 n2
  refine List.nodup_append.2 ⟨n1, List.nodup_append.2 ⟨hM, n5, fun a ha b hb => ?_⟩, fun a ha b hb => ?_⟩
  · rcases hs a ha with h9 | h9
    · exact n6 a h9 b hb
    · have := hR b hb; omega
  · rcases List.mem_append.1 hb with hb | hb
    · rcases hs b hb with h9 | h9
      · exact n3 a ha b (List.mem_append_left _ h9)
      · have := hL a ha; omega
    · exact n3 a ha b (List.mem_append_right _ hb)
/-- A kid in its place; what turns the kid turns the node. -/
theorem inner_kid {h : Nat} {w : World} {b : Nat} {ks : List Nm} {cs : List (T h)} {S : List Nat} {i : Nat} {c : T h} (hh : NodeAt (h + 1) w b (mkT ks cs) S) (hc : cs[i]? = some c) :
    ∃ kv gv cv kb Sc, w.heap[b]? = some (.cells #[kv, .slice none 0 0, .slice (some ⟨gv, 0, none⟩) cs.length cv] 74 (0, 0)) ∧ RowV 9 w kv (encKs ks) ∧ w.cell? ⟨gv, i, none⟩ = some (encP kb) ∧ NodeAt h w kb c Sc ∧ (∀ k ∈ Sc, k ∈ S) ∧ b ∉ Sc ∧ gv ∉ Sc ∧ (∀ k ∈ kv.ownBlock.toList, k ∉ Sc) ∧
      ∀ w1 c' Sc', NodeAt h w1 kb c' Sc' → Fr Sc w w1 → (∀ k ∈ Sc', k ∈ Sc ∨ w.heap.size ≤ k) → ∃ S', NodeAt (h + 1) w1 b (mkT ks (cs.set i c')) S' ∧ (∀ k ∈ S', k ∈ S ∨ w.heap.size ≤ k) ∧ (∀ k ∈ Sc', k ∈ S') ∧
        ∀ D, (Sc' ++ D).Nodup → (∀ k ∈ D, k ∈ Sc ∨ w.heap.size ≤ k) → (S' ++ D).Nodup := by
  have H := hh
  obtain ⟨kv, cv, bs, S2, h1, hk, hv, hkids, hlen, hS, hn⟩ := hh
  have hkids : KidsAt (NodeAt h w) bs cs S2 := hkids
  have hk : RowV 9 w kv (encKs ks) := hk
  have hlen : cs.length = ks.length + 1 := hlen
  have hbl := kids_len hkids
  have hil := (List.getElem?_eq_some_iff.1 hc).1
  obtain ⟨gv, cp, rfl⟩ := row_some hv (by rw [List.length_map]; omega)
  rw [List.length_map, hbl] at h1 hv
  obtain ⟨kb, S1, Sc, S3, e1, k1, k2, k3, k4⟩ := kids_at hkids hc
  obtain ⟨g9, c9, hv9, z0, -, -⟩ := hv.at (i := i) (u := encP kb) (by rw [List.getElem?_map, e1]; rfl)
  have e9 : g9 = gv := by
    simp only [Value.slice.injEq, Option.some.injEq, Addr.mk.injEq] at hv9
    exact hv9.1.1.symm
  rw [e9] at z0
  have hS9 : S = (b :: (kv.ownBlock.toList ++ ([gv] ++ S1))) ++ (Sc ++ S3) := by rw [hS, k4]; simp [Value.ownBlock]
  have hn9 := hn
  rw [hS9] at hn9
  obtain ⟨n1, n2, n3⟩ := List.nodup_append.1 hn9
  obtain ⟨n4, n5, n6⟩ := List.nodup_append.1 n2
  have hlt : ∀ k ∈ S, k < w.heap.size := node_lt H
  refine ⟨kv, gv, cp, kb, Sc, h1, hk, z0, k2, fun k hx => by rw [hS9]; simp [hx], fun hx => n3 b (by simp) b (List.mem_append_left _ hx) rfl, fun hx => n3 gv (by simp) gv (List.mem_append_left _ hx) rfl, fun k hx hy => n3 k (by simp [hx]) k (List.mem_append_left _ hy) rfl, fun w1 c' Sc' q1 q2 q3 => ?_⟩
  have hnc := node_nodup q1
  have keepL : ∀ k ∈ b :: (kv.ownBlock.toList ++ ([gv] ++ S1)), w1.heap[k]? = w.heap[k]? := fun k hx => q2.block k (hlt k (by rw [hS9]; exact List.mem_append_left _ hx)) (fun hy => n3 k hx k (List.mem_append_left _ hy) rfl)
  have keepR : ∀ k ∈ S3, w1.heap[k]? = w.heap[k]? := fun k hx => q2.block k (hlt k (by rw [hS9]; simp [hx])) (fun hy => n6 k hy k hx rfl)
  have hnew := nodup_swap (B := w.heap.size) hn9 hnc q3 (fun k hx => hlt k (by rw [hS9]; exact List.mem_append_left _ hx)) (fun k hx => hlt k (by rw [hS9]; simp [hx]))
  refine ⟨(b :: (kv.ownBlock.toList ++ ([gv] ++ S1))) ++ (Sc' ++ S3), ?_, fun k hx => ?_, fun k hx => by simp [hx], fun D hD hd => ?_⟩
  · refine ⟨kv, _, bs, S1 ++ (Sc' ++ S3), (keepL b (by simp)).trans h1, hk.step (fun k hx => keepL k (by simp [hx])), ?_, ?_, ?_, ?_, hnew⟩
    · exact hv.step (fun k hx => keepL k (by simp [Value.ownBlock] at hx; simp [hx]))
    · show KidsAt (NodeAt h w1) bs (cs.set i c') _
      have hb9 : bs = bs.take i ++ kb :: bs.drop (i + 1) := take_get e1
      rw [hb9, set_is hil]
      exact kids_app (kids_imp k1 (fun b' c9 T1 hs hr => node_step hr (fun k hx => keepL k (by simp [hs k hx])))) ⟨Sc', S3, q1, kids_imp k3 (fun b' c9 T1 hs hr => node_step hr (fun k hx => keepR k (hs k hx))), rfl⟩
    · show (cs.set i c').length = ks.length + 1
      rw [List.length_set]; exact hlen
    · simp [Value.ownBlock]
  · rcases List.mem_append.1 hx with hx | hx
    · exact .inl (by rw [hS9]; exact List.mem_append_left _ hx)
    · rcases List.mem_append.1 hx with hx | hx
      · exact (q3 k hx).imp (fun h9 => by rw [hS9]; simp [h9]) id
      · exact .inl (by rw [hS9]; simp [hx])
  · obtain ⟨d1, d2, d3⟩ := List.nodup_append.1 hD
    refine List.nodup_append.2 ⟨hnew, d2, fun a ha d hd9 => ?_⟩
    rcases List.mem_append.1 ha with ha | ha
    · rcases hd d hd9 with h9 | h9
      · exact n3 a ha d (List.mem_append_left _ h9)
      · have := hlt a (by rw [hS9]; exact List.mem_append_left _ ha); omega
    · rcases List.mem_append.1 ha with ha | ha
      · exact d3 a ha d hd9
      · rcases hd d hd9 with h9 | h9
        · exact fun e => n6 d h9 a ha e.symm
        · have := hlt a (by rw [hS9]; simp [ha]); omega
end Go.Proofs.YtmomohljnmopfaaX
end
section
namespace Go.Proofs.YtmomohljnmopfaaX
open Go.RowKit Go.Lib Go.Proofs.YtmomohljnmopfaaW.PrintWords Go.Proofs.YtmomohljnmopfaaW.PrintLast Go.Proofs.YtmomohljnmopfaaW.PrintMore
set_option linter.unusedVariables false
set_option linter.unusedSimpArgs false
/-- A row is another one now. -/
def Turn (e : TypeId) (W w' : World) (v v' : Value) (xs' : List Value) : Prop := RowV e w' v' xs' ∧ W.grownBy w' v.ownBlock ∧ (v'.ownBlock = v.ownBlock ∨ ∃ b, v'.ownBlock = some b ∧ W.heap.size ≤ b)
structure Two (w : World) (b : Nat) (kv cv : Value) (R : List Nat) : Prop where
  blt : b < w.heap.size
  klt : ∀ k ∈ kv.ownBlock.toList, k < w.heap.size
  clt : ∀ k ∈ cv.ownBlock.toList, k < w.heap.size
  rlt : ∀ k ∈ R, k < w.heap.size
  nd : (b :: (kv.ownBlock.toList ++ (cv.ownBlock.toList ++ R))).Nodup
def Step1 (e : TypeId) (w W w2 : World) (kv kv' : Value) (xs' : List Value) : Prop := Below w.heap.size w W ∧ Turn e W w2 kv kv' xs'
def Step2 (e e2 : TypeId) (w W w2 W2 w3 : World) (kv kv' : Value) (xs' : List Value) (cv cv' : Value) (ys' : List Value) : Prop := Step1 e w W w2 kv kv' xs' ∧ Below w2.heap.size w2 W2 ∧ Turn e2 W2 w3 cv cv' ys'
structure Done (e e2 : TypeId) (w w3 : World) (b : Nat) (kv kv' : Value) (xs' : List Value) (cv cv' : Value) (ys' : List Value) (R : List Nat) : Prop where
  row1 : RowV e w3 kv' xs'
  row2 : RowV e2 w3 cv' ys'
  fr : Fr (kv.ownBlock.toList ++ cv.ownBlock.toList) w w3
  nd : (b :: (kv'.ownBlock.toList ++ (cv'.ownBlock.toList ++ R))).Nodup
  sub1 : ∀ k ∈ kv'.ownBlock.toList, k ∈ kv.ownBlock.toList ∨ w.heap.size ≤ k
  sub2 : ∀ k ∈ cv'.ownBlock.toList, k ∈ cv.ownBlock.toList ∨ w.heap.size ≤ k
theorem own_mem {v : Value} {k : Nat} : k ∈ v.ownBlock.toList ↔ some k = v.ownBlock := by
  cases v.ownBlock with
  | none => simp
  | some b => simp
theorem own_nodup (v : Value) : v.ownBlock.toList.Nodup := by
  cases v.ownBlock with
  | none => exact List.nodup_nil
  | some b => simp
section
variable {e e2 : TypeId} {w W w2 W2 w3 : World} {b : Nat} {kv kv' cv cv' : Value} {xs' ys' : List Value} {R : List Nat}
theorem Turn.sub (h : Turn e W w2 kv kv' xs') {B : Nat} (hB : B ≤ W.heap.size) : ∀ k ∈ kv'.ownBlock.toList, k ∈ kv.ownBlock.toList ∨ B ≤ k := fun k hk => by
  rcases h.2.2 with h9 | ⟨g, h9, h8⟩
  · rw [h9] at hk; exact .inl hk
  · rw [h9] at hk
    simp at hk
    subst hk
    exact .inr (Nat.le_trans hB h8)
theorem Step1.size (h : Step1 e w W w2 kv kv' xs') : w.heap.size ≤ w2.heap.size := Nat.le_trans h.1.size h.2.2.1.size
theorem Step1.fr (h : Step1 e w W w2 kv kv' xs') : Fr kv.ownBlock.toList w w2 :=
  (Fr.of_below h.1 kv.ownBlock.toList).grown h.2.2.1 (fun k hk => .inl (own_mem.2 hk.symm))
theorem Step1.keep (h : Step1 e w W w2 kv kv' xs') {k : Nat} (hk : k < w.heap.size) (hn : k ∉ kv.ownBlock.toList) : w2.heap[k]? = w.heap[k]? := h.fr.block k hk hn
theorem Step1.row (h : Step1 e w W w2 kv kv' xs') {ys : List Value} (hr : RowV e2 w cv ys) (T : Two w b kv cv R) : RowV e2 w2 cv ys := hr.fr h.fr (fun k hk hx => by
  have h9 := List.nodup_cons.1 T.nd
  exact (List.nodup_append.1 h9.2).2.2 k hx k (List.mem_append_left _ hk) rfl)
theorem Step1.blk (h : Step1 e w W w2 kv kv' xs') {o : Obj} (hb : w.heap[b]? = some o) (T : Two w b kv cv R) : w2.heap[b]? = some o := h.fr.blk hb (fun hx => (List.nodup_cons.1 T.nd).1 (List.mem_append_left _ hx))
/-- What was made ahead of the call. -/
theorem Step1.new (h : Step1 e w W w2 kv kv' xs') {o : Obj} {vb : Nat} (hb : W.heap[vb]? = some o) (hv : w.heap.size ≤ vb) (hl : ∀ k ∈ kv.ownBlock.toList, k < w.heap.size) : w2.heap[vb]? = some o :=
  blk_grown hb h.2.2.1 (fun e9 => by have := hl vb (own_mem.2 e9); omega)
theorem Step2.done (h : Step2 e e2 w W w2 W2 w3 kv kv' xs' cv cv' ys') (T : Two w b kv cv R) : Done e e2 w w3 b kv kv' xs' cv cv' ys' R := by
  obtain ⟨s1, hB, ht⟩ := h
  have hz := s1.size
  have hW := s1.1.size
  have sub1 := s1.2.sub hW
  have sub2 := ht.sub (Nat.le_trans hz hB.size)
  have n0 := T.nd
  obtain ⟨n1, n2⟩ := List.nodup_cons.1 n0
  obtain ⟨n3, n4, n5⟩ := List.nodup_append.1 n2
  obtain ⟨n6, n7, n8⟩ := List.nodup_append.1 n4
  have hk2 := s1.2.1.lt
  have sub2' := ht.sub hB.size
  have nd1 : (b :: (kv'.ownBlock.toList ++ (cv.ownBlock.toList ++ R))).Nodup := nodup_swap (B := w.heap.size) (L := [b]) (M := kv.ownBlock.toList) n0 (own_nodup _) sub1 (fun k hk => by simp at hk; rw [hk]; exact T.blt) (fun k hk => by
    rcases List.mem_append.1 hk with hk | hk
    · exact T.clt k hk
    · exact T.rlt k hk)
  have nd2 : ((b :: kv'.ownBlock.toList) ++ (cv'.ownBlock.toList ++ R)).Nodup := nodup_swap (B := w2.heap.size) (L := b :: kv'.ownBlock.toList) (M := cv.ownBlock.toList) nd1 (own_nodup _) sub2' (fun k hk => by
    rcases List.mem_cons.1 hk with rfl | hk
    · exact Nat.lt_of_lt_of_le T.blt hz
    · exact hk2 k hk) (fun k hk => Nat.lt_of_lt_of_le (T.rlt k hk) hz)
  have f2 : Fr cv.ownBlock.toList w2 w3 := (Fr.of_below hB cv.ownBlock.toList).grown ht.2.1 (fun k hk => .inl (own_mem.2 hk.symm))
  refine ⟨s1.2.1.fr f2 (fun k hk hx => ?_), ht.1, (s1.fr.mono (T := kv.ownBlock.toList ++ cv.ownBlock.toList) (fun x hx => List.mem_append_left _ hx)).trans f2 (fun x hx => .inl (List.mem_append_right _ hx)), nd2, sub1, sub2⟩
  have h9 := List.nodup_append.1 (List.nodup_cons.1 nd1).2
  exact h9.2.2 k hk k (List.mem_append_left _ hx) rfl
theorem Done.blk (h : Done e e2 w w3 b kv kv' xs' cv cv' ys' R) (T : Two w b kv cv R) {o : Obj} (hb : w.heap[b]? = some o) : w3.heap[b]? = some o := h.fr.blk hb (fun hx => (List.nodup_cons.1 T.nd).1 (by
  rcases List.mem_append.1 hx with hx | hx
  · exact List.mem_append_left _ hx
  · exact List.mem_append_right _ (List.mem_append_left _ hx)))
/-- The rest of the node's blocks. -/
theorem Done.rest (h : Done e e2 w w3 b kv kv' xs' cv cv' ys' R) (T : Two w b kv cv R) : ∀ k ∈ R, w3.heap[k]? = w.heap[k]? := fun k hk => h.fr.block k (T.rlt k hk) (fun hx => by
  obtain ⟨n1, n2⟩ := List.nodup_cons.1 T.nd
  obtain ⟨n3, n4, n5⟩ := List.nodup_append.1 n2
  obtain ⟨n6, n7, n8⟩ := List.nodup_append.1 n4
  rcases List.mem_append.1 hx with hx | hx
  · exact n5 k hx k (List.mem_append_right _ hk) rfl
  · exact n8 k hx k hk rfl)
theorem Done.stored (h : Done e e2 w w3 b kv kv' xs' cv cv' ys' R) {w4 : World} (hf : Fr [b] w3 w4) : RowV e w4 kv' xs' ∧ RowV e2 w4 cv' ys' := by
  obtain ⟨n1, n2⟩ := List.nodup_cons.1 h.nd
  exact ⟨h.row1.fr hf (fun k hk hx => by simp at hx; subst hx; exact n1 (List.mem_append_left _ hk)), h.row2.fr hf (fun k hk hx => by simp at hx; subst hx; exact n1 (List.mem_append_right _ (List.mem_append_left _ hk)))⟩
end
theorem blk_new2 (w : World) (o o' : Obj) : ((w.alloc o).alloc o').heap[w.heap.size + 1]? = some o' := by
  have h := blk_new (w.alloc o) o'
  have e : (w.alloc o).heap.size = w.heap.size + 1 := by simp
  rw [e] at h
  exact h
end Go.Proofs.YtmomohljnmopfaaX
end
section
namespace Go.Proofs.YtmomohljnmopfaaX
open Go.RowKit Go.Lib Go.Proofs.YtmomohljnmopfaaW.PrintWords Go.Proofs.YtmomohljnmopfaaW.PrintLast Go.Proofs.YtmomohljnmopfaaW.PrintMore
set_option linter.unusedVariables false
set_option linter.unusedSimpArgs false
attribute [local go_sem high] eqlNil71 eqlNil72
/-- What a look at a key tells. -/
def ansG (o : Option ByteArray) : Value := .tuple #[.string (o.getD ⟨#[]⟩), .bool o.isSome]
set_option maxRecDepth 100000 in
set_option maxHeartbeats 8000000 in
theorem putFound {w : World} {b tb : Nat} {l : List KV} {S : List Nat} {x : Nm} {v : ByteArray} (hh : LeafAt w b l S) (hr : Rises l) (hm : l.length ≤ 1000) (hf : (keysOf l)[rank (keysOf l) x]? = some x) :
    Calls Try.prog 34 #[.pointer (some ⟨tb, 0, none⟩), .pointer (some ⟨b, 0, none⟩), .string ⟨x.toArray⟩, .string v] w fun e w' => e = .returned (ansG (getF x l)) ∧ NDid 0 w w' b S (putF x v l) := by
  have H := Aside0.mk hh
  obtain ⟨kv, vv, h1, hk, hv, hS, hn⟩ := hh
  obtain ⟨o, hl, hg, hp, -⟩ := found_facts (v := v) hf
  have hil := (List.getElem?_eq_some_iff.1 hl).1
  obtain ⟨gk, ck, rfl⟩ := row_some hk (by rw [encKs_len, keysOf_len]; omega)
  obtain ⟨gv, cv, rfl⟩ := row_some hv (by rw [encVs_len]; omega)
  rw [encKs_len, keysOf_len] at h1 hk
  rw [encVs_len] at h1 hv
  obtain ⟨c0, c1, c2⟩ := leaf_cells h1
  have hck := hk.cap.2
  have hcv := hv.cap.2
  rw [encKs_len, keysOf_len] at hck
  rw [encVs_len] at hcv
  have cS := search_calls (x := x) (hk.src rfl) (c := ck) (by rw [keysOf_len]; exact hck) (by rw [keysOf_len]; omega) (keysOf_rises hr)
  rw [decide_eq_true hf, keysOf_len] at cS
  obtain ⟨q, hq⟩ : ∃ q, rank (keysOf l) x = q := ⟨_, rfl⟩
  rw [hq] at cS hl hp hil hf
  have hu : (encVs l)[q]? = some (.string o) := by rw [encVs, List.getElem?_map, hl]; rfl
  obtain ⟨g9, c9, hv9, z0, zf, -⟩ := hv.at hu
  have e9 : g9 = gv := by
    simp only [Value.slice.injEq, Option.some.injEq, Addr.mk.injEq] at hv9
    exact hv9.1.1.symm
  rw [e9] at z0 zf
  have zq := zf q
  have e3 : (q : Int) < (l.length : Int) := by omega
  have HV := Aside0.mk (And.intro hk (And.intro hv (And.intro hS (And.intro hn h1))))
  have HL := Aside0.mk (And.intro hl (And.intro hg (And.intro hp hil)))
  clear hk hv hS hn hl hg hp hu hv9 zf h1 hil hf hq hr
  go_enter Try.func34, Try.ntmps34
  go_wp2_with (go_at_call 40; refine cS.mono ?_; rintro e w1 ⟨rfl, rfl⟩)
  go_ret2
  obtain ⟨hk, hv, hS, hn, h1⟩ := HV.out
  obtain ⟨hl, hg, hp, hil⟩ := HL.out
  have hS9 := hn
  rw [hS] at hS9
  simp [Value.ownBlock] at hS9
  refine ⟨by rw [hg]; rfl, S, ?_, ((Fr.refl S w1).setCell (p := ⟨gv, q, none⟩) (.inl (by rw [hS]; simp [Value.ownBlock])) _), fun k hk => .inl hk⟩
  show LeafAt _ b (putF x v l) S
  rw [hp]
  refine ⟨.slice (some ⟨gk, 0, none⟩) l.length ck, .slice (some ⟨gv, 0, none⟩) l.length cv, ?_, ?_, ?_, hS, hn⟩
  · exact blk_far h1 (p := ⟨gv, q, none⟩) hS9.1.2 _
  · rw [keysOf_set hl]
    exact hk.step (fun k hx => Below.heap_setCell w1 ⟨gv, q, none⟩ _ k (by simp [Value.ownBlock] at hx; rw [hx]; exact hS9.2))
  · rw [encVs_set]
    exact hv.put (u := .string v) (by rw [encVs_len]; exact hil) rfl
set_option maxRecDepth 100000 in
set_option maxHeartbeats 8000000 in
theorem putMissed {w : World} {b tb : Nat} {l : List KV} {S : List Nat} {x : Nm} {v : ByteArray} (hh : LeafAt w b l S) (hr : Rises l) (hm : l.length ≤ 1000) (hf : ¬ (keysOf l)[rank (keysOf l) x]? = some x) :
    Calls Try.prog 34 #[.pointer (some ⟨tb, 0, none⟩), .pointer (some ⟨b, 0, none⟩), .string ⟨x.toArray⟩, .string v] w fun e w' => e = .returned (ansG (getF x l)) ∧ NDid 0 w w' b S (putF x v l) := by
  have H := Aside0.mk hh
  obtain ⟨kv, vv, h1, hk, hv, hS, hn⟩ := hh
  obtain ⟨hg, hp, -⟩ := missed_facts (v := v) hr hf
  have hrl := rank_le (keysOf l) x
  rw [keysOf_len] at hrl
  obtain ⟨Ak, ck, rfl, hck, -⟩ := hk.shape
  obtain ⟨Av, cv, rfl, hcv, -⟩ := hv.shape
  rw [encKs_len, keysOf_len] at h1 hk hck
  rw [encVs_len] at h1 hv hcv
  obtain ⟨c0, c1, c2⟩ := leaf_cells h1
  have cS := search_calls (x := x) (hk.src rfl) (c := ck) (by rw [keysOf_len]; exact hck) (by rw [keysOf_len]; omega) (keysOf_rises hr)
  rw [decide_eq_false hf, keysOf_len] at cS
  obtain ⟨q, hq⟩ : ∃ q, rank (keysOf l) x = q := ⟨_, rfl⟩
  rw [hq] at cS hp hf hrl
  have HV := Aside0.mk (And.intro hk (And.intro hv (And.intro hS (And.intro hn h1))))
  have HL := Aside0.mk (And.intro hg (And.intro hp (And.intro hrl hm)))
  clear hk hv hS hn hg hp h1 hf hq hr hrl hm
  go_enter Try.func34, Try.ntmps34
  go_upto_region 7 with (go_at_call 40; refine cS.mono ?_; rintro e w1 ⟨rfl, rfl⟩)
  have hS9 := HV.out.2.2.2.1
  rw [HV.out.2.2.1, encKs_len, keysOf_len, encVs_len] at hS9
  have TW : Aside0 (Two w1 b (.slice Ak l.length ck) (.slice Av l.length cv) []) := ⟨⟨blk_lt HV.out.2.2.2.2, HV.out.1.lt, HV.out.2.1.lt, fun k hk => (by cases hk), (by rw [List.append_nil]; exact hS9)⟩⟩
  clear hS9
  have cK : Aside0 (∀ W vb, Below w1.heap.size w1 W → W.heap[vb]? = some (.cells #[.string ⟨x.toArray⟩] 9 (0, 0)) → w1.heap.size ≤ vb → Calls Try.prog 47 #[.slice Ak l.length ck, .int .i64 q, .slice (some ⟨vb, 0, none⟩) 1 1] W fun e w2 => ∃ A c, e = .returned (.slice A (l.length + 1) c) ∧ Step1 9 w1 W w2 (.slice Ak l.length ck) (.slice A (l.length + 1) c) (insAt q (.string ⟨x.toArray⟩) (encKs (keysOf l)))) := ⟨fun W vb hW hvb hvl =>
    (insertS (HV.out.1.below hW) (by rw [encKs_len, keysOf_len]; exact HL.out.2.2.1) rfl hvb (fun e => by have := HV.out.1.lt vb (own_mem.2 e); omega) (by rw [encKs_len, keysOf_len]; have := HL.out.2.2.2; omega)).mono (by
      rintro e w2 ⟨v', rfl, ht⟩
      obtain ⟨A, c, rfl, -, -⟩ := ht.1.shape
      rw [insAt_len (by rw [encKs_len, keysOf_len]; exact HL.out.2.2.1), encKs_len, keysOf_len] at ht ⊢
      exact ⟨A, c, rfl, hW, ht⟩)⟩
  have cV : Aside0 (∀ w2 A c W W2 vb, Step1 9 w1 W w2 (.slice Ak l.length ck) (.slice A (l.length + 1) c) (insAt q (.string ⟨x.toArray⟩) (encKs (keysOf l))) → Below w2.heap.size w2 W2 → W2.heap[vb]? = some (.cells #[.string v] 9 (0, 0)) → w1.heap.size ≤ vb → Calls Try.prog 47 #[.slice Av l.length cv, .int .i64 q, .slice (some ⟨vb, 0, none⟩) 1 1] W2 fun e w3 => ∃ A' c', e = .returned (.slice A' (l.length + 1) c') ∧ Done 9 9 w1 w3 b (.slice Ak l.length ck) (.slice A (l.length + 1) c) (insAt q (.string ⟨x.toArray⟩) (encKs (keysOf l))) (.slice Av l.length cv) (.slice A' (l.length + 1) c') (insAt q (.string v) (encVs l)) []) := ⟨fun w2 A c W W2 vb s1 hW hvb hvl =>
    (insertS ((s1.row HV.out.2.1 TW.out).below hW) (by rw [encVs_len]; exact HL.out.2.2.1) rfl hvb (fun e => by have := HV.out.2.1.lt vb (own_mem.2 e); omega) (by rw [encVs_len]; have := HL.out.2.2.2; omega)).mono (by
      rintro e w3 ⟨v', rfl, ht⟩
      obtain ⟨A', c', rfl, -, -⟩ := ht.1.shape
      rw [insAt_len (by rw [encVs_len]; exact HL.out.2.2.1), encVs_len] at ht ⊢
      exact ⟨A', c', rfl, Step2.done ⟨s1, hW, ht⟩ TW.out⟩)⟩
  clear cS
  have FIN : Aside0 (∀ w3 A2 c2 A3 c3, Done 9 9 w1 w3 b (.slice Ak l.length ck) (.slice A2 (l.length + 1) c2) (insAt q (.string ⟨x.toArray⟩) (encKs (keysOf l))) (.slice Av l.length cv) (.slice A3 (l.length + 1) c3) (insAt q (.string v) (encVs l)) [] →
      Ending.returned (.tuple #[.string ⟨#[]⟩, .bool false]) = .returned (ansG (getF x l)) ∧ NDid 0 w1 ((w3.setCell ⟨b, 0, none⟩ (.slice A2 (l.length + 1) c2)).setCell ⟨b, 1, none⟩ (.slice A3 (l.length + 1) c3)) b S (putF x v l)) := ⟨fun w3 A2 c2 A3 c3 dn => by
    have hb3 := dn.blk TW.out HV.out.2.2.2.2
    obtain ⟨hk, hv, hS, hn, h1⟩ := HV.out
    obtain ⟨hg, hp, hrl, hm⟩ := HL.out
    have hf : Fr [b] w3 ((w3.setCell ⟨b, 0, none⟩ (.slice A2 (l.length + 1) c2)).setCell ⟨b, 1, none⟩ (.slice A3 (l.length + 1) c3)) := ((Fr.refl [b] w3).setCell (p := ⟨b, 0, none⟩) (.inl (by simp)) _).setCell (p := ⟨b, 1, none⟩) (.inl (by simp)) _
    obtain ⟨r1, r2⟩ := dn.stored hf
    have hl9 : (insAt q (x, v) l).length = l.length + 1 := insAt_len hrl
    have hnd := dn.nd
    rw [List.append_nil] at hnd
    refine ⟨by rw [hg]; rfl, b :: ((Value.slice A2 (l.length + 1) c2).ownBlock.toList ++ (Value.slice A3 (l.length + 1) c3).ownBlock.toList), ?_, ?_, ?_⟩
    · show LeafAt _ b (putF x v l) _
      rw [hp]
      refine ⟨.slice A2 (l.length + 1) c2, .slice A3 (l.length + 1) c3, blk_put (blk_put hb3 0 _ rfl) 1 _ rfl, ?_, ?_, rfl, hnd⟩
      · rw [keysOf_insAt, encKs_insAt]; exact r1
      · rw [encVs_insAt]; exact r2
    · refine (dn.fr.mono (T := S) ?_).trans hf (fun y hy => .inl (by rw [hS]; simp only [List.mem_singleton] at hy; rw [hy]; simp))
      intro y hy
      rw [hS]
      exact List.mem_cons_of_mem _ (by rw [encKs_len, keysOf_len, encVs_len]; exact hy)
    · intro k hk9
      rw [hS, encKs_len, keysOf_len, encVs_len]
      rcases List.mem_cons.1 hk9 with rfl | hk9
      · exact .inl (by simp)
      · rcases List.mem_append.1 hk9 with hk9 | hk9
        · exact (dn.sub1 k hk9).imp (fun h9 => List.mem_cons_of_mem _ (List.mem_append_left _ h9)) id
        · exact (dn.sub2 k hk9).imp (fun h9 => List.mem_cons_of_mem _ (List.mem_append_right _ h9)) id⟩
  refine start_ (n := 24) (S := fun w' => w'.cell? ⟨b, 0, none⟩ = some (.slice Ak l.length ck) ∧ w'.cell? ⟨b, 1, none⟩ = some (.slice Av l.length cv)) (ds := [20, 23]) (mK 24 0) (by kernel_rfl) rfl rfl ⟨c0, c1⟩ (fun hHeld => ?_)
  refine with_tabW (T := (true, [([], []), ([], []), ([], []), ([2], [2]), ([3], [3]), ([4], [4]), ([], []), ([], []), ([7], [7]), ([5, 6, 8], [5, 6, 8]), ([], []), ([10], [10]), ([11], [11]), ([12], [12]), ([], []), ([], []), ([15], [15]), ([13, 14, 16, 9], [13, 14, 16]), ([0, 0, 2, 3, 4, 5, 6, 7, 8, 9, 13, 17], [0]), ([18, 0, 2, 3, 4, 5, 6, 7, 8, 9, 13, 17], [18]), ([19, 9, 17, 0, 2, 3, 4, 5, 6, 7, 8, 9, 13, 17], [9, 19]), ([1, 0, 1, 2, 3, 4, 5, 6, 7, 8, 9, 10, 11, 12, 13, 14, 15, 16, 17, 18, 19, 20], [1]), ([21, 0, 1, 2, 3, 4, 5, 6, 7, 8, 9, 10, 11, 12, 13, 14, 15, 16, 17, 18, 19, 20], [21]), ([22, 17, 20, 0, 1, 2, 3, 4, 5, 6, 7, 8, 9, 10, 11, 12, 13, 14, 15, 16, 17, 18, 19, 20], [17, 22])])) (B := [0, 0, 0, 4, 12, 28, 0, 0, 128, 508, 0, 1024, 3072, 7168, 0, 0, 32768, 131068, 262141, 524285, 1048573, 2097151, 4194303, 8388607]) (by kernel_rfl) (by kernel_rfl) (fun HT_ HW_ => ?_)
  refine pK 0 48 (mK 24 1) rfl rfl HT_ ?_
  refine pK 1 49 (mK 24 3) rfl rfl HT_ ?_
  refine pK 2 50 (mK 24 7) rfl rfl HT_ ?_
  refine pK 3 51 (mK 24 15) rfl rfl HT_ ?_
  refine pK 4 52 (mK 24 31) rfl rfl HT_ ?_
  refine pK 6 54 (mK 24 95) rfl rfl HT_ ?_
  refine pK 7 55 (mK 24 223) rfl rfl HT_ ?_
  refine pK 10 58 (mK 24 1247) rfl rfl HT_ ?_
  refine pK 11 59 (mK 24 3295) rfl rfl HT_ ?_
  refine pK 12 60 (mK 24 7391) rfl rfl HT_ ?_
  refine pK 14 62 (mK 24 23775) rfl rfl HT_ ?_
  refine pK 15 63 (mK 24 56543) rfl rfl HT_ ?_
  refine take_ (i := 5) (N := some 53) (v := ?_) (a' := ?_) (mK 24 56575) rfl rfl (take_ofW HT_.out HW_.out (by kernel_rfl)) (fun _ _ _ h => h) (Or.inl ⟨by rfl, ?_⟩) hHeld ?_ ?_
  rotate_left; focus (rintro w' ⟨s0, s1⟩; go_simp; with_reducible rfl; done)
  rotate_left; focus (first | (simp only [Act.put, List.setIfInBounds_toArray, List.set_cons_zero, List.set_cons_succ, i64_w, i32_w]; rfl; done) | (rfl; done))
  refine take_ (i := 13) (N := some 61) (v := ?_) (a' := ?_) (mK 24 64767) rfl rfl (take_ofW HT_.out HW_.out (by kernel_rfl)) (fun _ _ _ h => h) (Or.inl ⟨by rfl, ?_⟩) hHeld ?_ ?_
  rotate_left; focus (rintro w' ⟨s0, s1⟩; go_simp; with_reducible rfl; done)
  rotate_left; focus (first | (simp only [Act.put, List.setIfInBounds_toArray, List.set_cons_zero, List.set_cons_succ, i64_w, i32_w]; rfl; done) | (rfl; done))
  refine two_ (i := 8) (j := 16) (mK 24 65023) (mK 24 130303) rfl rfl rfl rfl (two_of HT_.out (by kernel_rfl)) (by decide) (by decide) (fun K hK => ?_) (fun K hK => ?_)
  focus
   go_simp
   refine hK.out _ _ (by refine ⟨?_, ?_⟩ <;> simp [*, World.cell?_alloc_some]) (fun hHeld => ?_)
   clear hK K
   refine two_ (i := 9) (j := 16) (mK 24 65535) (mK 24 130559) rfl rfl rfl rfl (two_of HT_.out (by kernel_rfl)) (by decide) (by decide) (fun K hK => ?_) (fun K hK => ?_)
   focus
    go_simp
    refine (cK.out _ _ ?_ ?_ ?_).mono ?_
    exact (by first | exact below_drew1 (below_alloc (Below.refl _ _) _) | exact below_drew1 (below_alloc (below_alloc (Below.refl _ _) _) _))
    exact (by first | exact blk_new _ _ | exact blk_new2 _ _ _ | exact blk_alloc (blk_new _ _) _)
    exact (by first | exact Nat.le_refl _ | exact Nat.le_succ _)
    rintro e w2 ⟨A2, c2, rfl, s1⟩
    have S1 := Aside0.mk s1
    have HB2 := Aside0.mk (s1.blk HV.out.2.2.2.2 TW.out)
    clear s1
    go_simp
    refine hK.out _ _ ⟨(leaf_cells HB2.out).1, (leaf_cells HB2.out).2.1⟩ (fun hHeld => ?_)
    clear hK K
    refine one_ (i := 16) (N := some 64) (mK 24 131071) rfl rfl (one_of HT_.out (by kernel_rfl)) (by decide) (fun K hK => ?_)
    focus
     go_simp
     refine hK.out _ _ (by refine ⟨?_, ?_⟩ <;> simp [*, World.cell?_alloc_some]) (fun hHeld => ?_)
     clear hK K
     refine one_ (i := 17) (N := some 65) (mK 24 262143) rfl rfl (one_of HT_.out (by kernel_rfl)) (by decide) (fun K hK => ?_)
     focus
      go_simp
      refine (cV.out _ _ _ _ _ _ S1.out ?_ ?_ ?_).mono ?_
      exact (by first | exact Below.refl _ _ | exact below_alloc (Below.refl _ _) _)
      exact (by first | exact blk_new _ _ | exact S1.out.new (by first | exact blk_new _ _ | exact blk_new2 _ _ _ | exact blk_alloc (blk_new _ _) _) (by first | exact Nat.le_refl _ | exact Nat.le_succ _) TW.out.klt)
      exact (by first | exact Nat.le_refl _ | exact Nat.le_succ _ | exact S1.out.size)
      rintro e w3 ⟨A3, c3, rfl, dn⟩
      have DN := Aside0.mk dn
      have HB3 := Aside0.mk (dn.blk TW.out HV.out.2.2.2.2)
      have f0 := blk_frozen HB3.out 0
      have f1 := blk_frozen HB3.out 1
      have g0 := (leaf_cells HB3.out).1
      have g1 := (leaf_cells HB3.out).2.1
      clear dn
      go_simp
      refine hK.out _ _ ⟨(leaf_cells HB3.out).1, (leaf_cells HB3.out).2.1⟩ (fun hHeld => ?_)
      clear hK K
      refine pK 18 66 (mK 24 524287) rfl rfl HT_ ?_
      refine pK 19 67 (mK 24 1048575) rfl rfl HT_ ?_
      refine last_ (i := 20) (N := none) (mK 24 2097151) rfl rfl (one_of HT_.out (by kernel_rfl)) (by decide) (fun K hK => ?_)
      focus
       go_simp
       skip
       refine hK.out _ _ ?_
       clear hK K
       refine pK 21 68 (mK 24 4194303) rfl rfl HT_ ?_
       refine pK 22 69 (mK 24 8388607) rfl rfl HT_ ?_
       refine last_ (i := 23) (N := none) (mK 24 16777215) rfl rfl (one_of HT_.out (by kernel_rfl)) (by decide) (fun K hK => ?_)
       focus
        go_simp
        skip
        refine hK.out _ _ ?_
        clear hK K
        refine done_ (done_of HT_.out (by kernel_rfl)) ?_
        go_wp2
        go_ret2
        exact FIN.out _ _ _ _ _ DN.out
   focus
    go_simp
    refine hK.out _ _ (by refine ⟨?_, ?_⟩ <;> simp [*, World.cell?_alloc_some]) (fun hHeld => ?_)
    clear hK K
    refine one_ (i := 9) (N := some 57) (mK 24 131071) rfl rfl (one_of HT_.out (by kernel_rfl)) (by decide) (fun K hK => ?_)
    focus
     go_simp
     refine (cK.out _ _ ?_ ?_ ?_).mono ?_
     exact (by first | exact below_drew1 (below_alloc (Below.refl _ _) _) | exact below_drew1 (below_alloc (below_alloc (Below.refl _ _) _) _))
     exact (by first | exact blk_new _ _ | exact blk_new2 _ _ _ | exact blk_alloc (blk_new _ _) _)
     exact (by first | exact Nat.le_refl _ | exact Nat.le_succ _)
     rintro e w2 ⟨A2, c2, rfl, s1⟩
     have S1 := Aside0.mk s1
     have HB2 := Aside0.mk (s1.blk HV.out.2.2.2.2 TW.out)
     clear s1
     go_simp
     refine hK.out _ _ ⟨(leaf_cells HB2.out).1, (leaf_cells HB2.out).2.1⟩ (fun hHeld => ?_)
     clear hK K
     refine one_ (i := 17) (N := some 65) (mK 24 262143) rfl rfl (one_of HT_.out (by kernel_rfl)) (by decide) (fun K hK => ?_)
     focus
      go_simp
      refine (cV.out _ _ _ _ _ _ S1.out ?_ ?_ ?_).mono ?_
      exact (by first | exact Below.refl _ _ | exact below_alloc (Below.refl _ _) _)
      exact (by first | exact blk_new _ _ | exact S1.out.new (by first | exact blk_new _ _ | exact blk_new2 _ _ _ | exact blk_alloc (blk_new _ _) _) (by first | exact Nat.le_refl _ | exact Nat.le_succ _) TW.out.klt)
      exact (by first | exact Nat.le_refl _ | exact Nat.le_succ _ | exact S1.out.size)
      rintro e w3 ⟨A3, c3, rfl, dn⟩
      have DN := Aside0.mk dn
      have HB3 := Aside0.mk (dn.blk TW.out HV.out.2.2.2.2)
      have f0 := blk_frozen HB3.out 0
      have f1 := blk_frozen HB3.out 1
      have g0 := (leaf_cells HB3.out).1
      have g1 := (leaf_cells HB3.out).2.1
      clear dn
      go_simp
      refine hK.out _ _ ⟨(leaf_cells HB3.out).1, (leaf_cells HB3.out).2.1⟩ (fun hHeld => ?_)
      clear hK K
      refine pK 18 66 (mK 24 524287) rfl rfl HT_ ?_
      refine pK 19 67 (mK 24 1048575) rfl rfl HT_ ?_
      refine last_ (i := 20) (N := none) (mK 24 2097151) rfl rfl (one_of HT_.out (by kernel_rfl)) (by decide) (fun K hK => ?_)
      focus
       go_simp
       skip
       refine hK.out _ _ ?_
       clear hK K
       refine pK 21 68 (mK 24 4194303) rfl rfl HT_ ?_
       refine pK 22 69 (mK 24 8388607) rfl rfl HT_ ?_
       refine last_ (i := 23) (N := none) (mK 24 16777215) rfl rfl (one_of HT_.out (by kernel_rfl)) (by decide) (fun K hK => ?_)
       focus
        go_simp
        skip
        refine hK.out _ _ ?_
        clear hK K
        refine done_ (done_of HT_.out (by kernel_rfl)) ?_
        go_wp2
        go_ret2
        exact FIN.out _ _ _ _ _ DN.out
  focus
   go_simp
   refine hK.out _ _ (by refine ⟨?_, ?_⟩ <;> simp [*, World.cell?_alloc_some]) (fun hHeld => ?_)
   clear hK K
   refine one_ (i := 8) (N := some 56) (mK 24 130559) rfl rfl (one_of HT_.out (by kernel_rfl)) (by decide) (fun K hK => ?_)
   focus
    go_simp
    refine hK.out _ _ (by refine ⟨?_, ?_⟩ <;> simp [*, World.cell?_alloc_some]) (fun hHeld => ?_)
    clear hK K
    refine one_ (i := 9) (N := some 57) (mK 24 131071) rfl rfl (one_of HT_.out (by kernel_rfl)) (by decide) (fun K hK => ?_)
    focus
     go_simp
     refine (cK.out _ _ ?_ ?_ ?_).mono ?_
     exact (by first | exact below_drew1 (below_alloc (Below.refl _ _) _) | exact below_drew1 (below_alloc (below_alloc (Below.refl _ _) _) _))
     exact (by first | exact blk_new _ _ | exact blk_new2 _ _ _ | exact blk_alloc (blk_new _ _) _)
     exact (by first | exact Nat.le_refl _ | exact Nat.le_succ _)
     rintro e w2 ⟨A2, c2, rfl, s1⟩
     have S1 := Aside0.mk s1
     have HB2 := Aside0.mk (s1.blk HV.out.2.2.2.2 TW.out)
     clear s1
     go_simp
     refine hK.out _ _ ⟨(leaf_cells HB2.out).1, (leaf_cells HB2.out).2.1⟩ (fun hHeld => ?_)
     clear hK K
     refine one_ (i := 17) (N := some 65) (mK 24 262143) rfl rfl (one_of HT_.out (by kernel_rfl)) (by decide) (fun K hK => ?_)
     focus
      go_simp
      refine (cV.out _ _ _ _ _ _ S1.out ?_ ?_ ?_).mono ?_
      exact (by first | exact Below.refl _ _ | exact below_alloc (Below.refl _ _) _)
      exact (by first | exact blk_new _ _ | exact S1.out.new (by first | exact blk_new _ _ | exact blk_new2 _ _ _ | exact blk_alloc (blk_new _ _) _) (by first | exact Nat.le_refl _ | exact Nat.le_succ _) TW.out.klt)
      exact (by first | exact Nat.le_refl _ | exact Nat.le_succ _ | exact S1.out.size)
      rintro e w3 ⟨A3, c3, rfl, dn⟩
      have DN := Aside0.mk dn
      have HB3 := Aside0.mk (dn.blk TW.out HV.out.2.2.2.2)
      have f0 := blk_frozen HB3.out 0
      have f1 := blk_frozen HB3.out 1
      have g0 := (leaf_cells HB3.out).1
      have g1 := (leaf_cells HB3.out).2.1
      clear dn
      go_simp
      refine hK.out _ _ ⟨(leaf_cells HB3.out).1, (leaf_cells HB3.out).2.1⟩ (fun hHeld => ?_)
      clear hK K
      refine pK 18 66 (mK 24 524287) rfl rfl HT_ ?_
      refine pK 19 67 (mK 24 1048575) rfl rfl HT_ ?_
      refine last_ (i := 20) (N := none) (mK 24 2097151) rfl rfl (one_of HT_.out (by kernel_rfl)) (by decide) (fun K hK => ?_)
      focus
       go_simp
       skip
       refine hK.out _ _ ?_
       clear hK K
       refine pK 21 68 (mK 24 4194303) rfl rfl HT_ ?_
       refine pK 22 69 (mK 24 8388607) rfl rfl HT_ ?_
       refine last_ (i := 23) (N := none) (mK 24 16777215) rfl rfl (one_of HT_.out (by kernel_rfl)) (by decide) (fun K hK => ?_)
       focus
        go_simp
        skip
        refine hK.out _ _ ?_
        clear hK K
        refine done_ (done_of HT_.out (by kernel_rfl)) ?_
        go_wp2
        go_ret2
        exact FIN.out _ _ _ _ _ DN.out
end Go.Proofs.YtmomohljnmopfaaX
end
section
namespace Go.Proofs.YtmomohljnmopfaaX
open Go.RowKit Go.Lib Go.Proofs.YtmomohljnmopfaaW.PrintWords Go.Proofs.YtmomohljnmopfaaW.PrintLast Go.Proofs.YtmomohljnmopfaaW.PrintMore
set_option linter.unusedVariables false
set_option linter.unusedSimpArgs false
def PutSpec (m tb : Nat) (x : Nm) (v : ByteArray) (h : Nat) : Prop := ∀ (w : World) (b : Nat) (t : T h) (S : List Nat) (lo hi : Option Nm), NodeAt h w b t S → Ok m h t lo hi → geO lo x → ltH x hi → sizeT h t ≤ m →
  w.cell? ⟨tb, 0, none⟩ = some (.int .i64 m) → tb ∉ S → Calls Try.prog 34 #[.pointer (some ⟨tb, 0, none⟩), .pointer (some ⟨b, 0, none⟩), .string ⟨x.toArray⟩, .string v] w fun e w' => e = .returned (ansG (getF x (flat h t))) ∧ NDid h w w' b S (putT m h t x v)
theorem put_leaf (m tb : Nat) (x : Nm) (v : ByteArray) (hm : m ≤ 64) : PutSpec m tb x v 0 := fun w b t S lo hi hn hk _ _ hs _ _ => by
  have hs2 : List.length (α := KV) t ≤ m := hs
  by_cases hf : (keysOf t)[rank (keysOf t) x]? = some x
  · exact putFound hn hk.1 (Nat.le_trans hs2 (by omega)) hf
  · exact putMissed hn hk.1 (Nat.le_trans hs2 (by omega)) hf
theorem split_calls {w : World} {b : Nat} : ∀ {h : Nat} {t : T h} {S : List Nat}, NodeAt h w b t S → 4 ≤ sizeT h t → sizeT h t ≤ 1000 → Calls Try.prog 36 #[.pointer (some ⟨b, 0, none⟩)] w (SplitP h t b S w)
  | 0, t, S, hn, h1, h2 => splitLeaf_calls hn (Nat.le_trans (by omega) h1) h2
  | h + 1, t, S, hn, h1, h2 => splitInner_calls hn h1 h2
theorem Fr.cell {S : List Nat} {w w' : World} (h : Fr S w w') {a : Addr} {u : Value} (hc : w.cell? a = some u) (hn : a.block ∉ S) : w'.cell? a = some u := by
  have h9 := h.block a.block (World.block_lt_of_cell? _ _ hc) hn
  rw [← hc]
  unfold World.cell?
  rw [h9]
theorem nodup_move {A B C D : List Nat} (h : (A ++ ((B ++ C) ++ D)).Nodup) : (A ++ (B ++ (D ++ C))).Nodup := by
  refine (List.Perm.nodup_iff ?_).1 h
  refine List.Perm.append_left A ?_
  rw [List.append_assoc]
  exact List.Perm.append_left B List.perm_append_comm
/-- A node, one kid more behind kid i. -/
theorem inner_inserted {h : Nat} {w2 w3 : World} {b rb i : Nat} {k : Nm} {r : T h} {ks : List Nm} {cs : List (T h)} {bs S3 Sr : List Nat} {kv kv' cv cv' : Value} (hkids : KidsAt (NodeAt h w2) bs cs S3) (hr : NodeAt h w2 rb r Sr) (hlen : cs.length = ks.length + 1) (hi : i ≤ ks.length)
    (TW : Two w2 b kv cv (S3 ++ Sr)) (hb : w2.heap[b]? = some (.cells #[kv, .slice none 0 0, cv] 74 (0, 0))) (dn : Done 9 70 w2 w3 b kv kv' (insAt i (.string ⟨k.toArray⟩) (encKs ks)) cv cv' (insAt (i + 1) (encP rb) (bs.map encP)) (S3 ++ Sr)) :
    ∃ S4, NodeAt (h + 1) ((w3.setCell ⟨b, 0, none⟩ kv').setCell ⟨b, 2, none⟩ cv') b (mkT (insAt i k ks) (insAt (i + 1) r cs)) S4 ∧ Fr (b :: (kv.ownBlock.toList ++ (cv.ownBlock.toList ++ S3))) w2 ((w3.setCell ⟨b, 0, none⟩ kv').setCell ⟨b, 2, none⟩ cv') ∧ ∀ q ∈ S4, q ∈ b :: (kv.ownBlock.toList ++ (cv.ownBlock.toList ++ (S3 ++ Sr))) ∨ w2.heap.size ≤ q := by
  obtain ⟨W, hW⟩ : ∃ W, (w3.setCell ⟨b, 0, none⟩ kv').setCell ⟨b, 2, none⟩ cv' = W := ⟨_, rfl⟩
  have hf : Fr [b] w3 W := by rw [← hW]; exact ((Fr.refl [b] w3).setCell (p := ⟨b, 0, none⟩) (.inl (by simp)) _).setCell (p := ⟨b, 2, none⟩) (.inl (by simp)) _
  have hB : W.heap[b]? = some (.cells #[kv', .slice none 0 0, cv'] 74 (0, 0)) := by rw [← hW]; exact blk_put (blk_put (dn.blk TW hb) 0 _ rfl) 2 _ rfl
  rw [hW]
  obtain ⟨r1, r2⟩ := dn.stored hf
  have hnd := dn.nd
  have hbS : ∀ q ∈ S3 ++ Sr, q ≠ b := fun q hq e => (List.nodup_cons.1 hnd).1 (by rw [← e]; exact List.mem_append_right _ (List.mem_append_right _ hq))
  have keep : ∀ q ∈ S3 ++ Sr, W.heap[q]? = w2.heap[q]? := fun q hq => (hf.block q (Nat.lt_of_lt_of_le (TW.rlt q hq) dn.fr.size) (by simp only [List.mem_singleton]; exact hbS q hq)).trans (dn.rest TW q hq)
  obtain ⟨Sa, Sb, ka, kb, hab⟩ := kids_split (i + 1) hkids
  have ka' : KidsAt (NodeAt h W) (bs.take (i + 1)) (cs.take (i + 1)) Sa := kids_imp ka (fun b' c' S1 hs hr => node_step hr (fun q hq => keep q (by rw [hab]; exact List.mem_append_left _ (List.mem_append_left _ (hs q hq)))))
  have kb' : KidsAt (NodeAt h W) (bs.drop (i + 1)) (cs.drop (i + 1)) Sb := kids_imp kb (fun b' c' S1 hs hr => node_step hr (fun q hq => keep q (by rw [hab]; exact List.mem_append_left _ (List.mem_append_right _ (hs q hq)))))
  have hr' : NodeAt h W rb r Sr := node_step hr (fun q hq => keep q (List.mem_append_right _ hq))
  refine ⟨b :: (kv'.ownBlock.toList ++ (cv'.ownBlock.toList ++ (Sa ++ (Sr ++ Sb)))), ?_, ?_, ?_⟩
  · refine ⟨kv', cv', insAt (i + 1) rb bs, Sa ++ (Sr ++ Sb), hB, ?_, ?_, kids_app ka' ⟨Sr, Sb, hr', kb', rfl⟩, ?_, rfl, ?_⟩
    · show RowV 9 W kv' (encKs (insAt i k ks))
      rw [encKs_insAt]; exact r1
    · rw [ptrs_insAt]; exact r2
    · show (insAt (i + 1) r cs).length = (insAt i k ks).length + 1
      rw [insAt_len (by omega), insAt_len hi, hlen]
    · rw [hab] at hnd
      have h9 := nodup_move (A := b :: (kv'.ownBlock.toList ++ cv'.ownBlock.toList)) (B := Sa) (C := Sb) (D := Sr) (by simpa [List.append_assoc] using hnd)
      simpa [List.append_assoc] using h9
  · refine (dn.fr.mono (T := b :: (kv.ownBlock.toList ++ (cv.ownBlock.toList ++ S3))) (fun q hq => ?_)).trans hf (fun y hy => .inl (by simp only [List.mem_singleton] at hy; rw [hy]; simp))
    rcases List.mem_append.1 hq with hq | hq
    · exact List.mem_cons_of_mem _ (List.mem_append_left _ hq)
    · exact List.mem_cons_of_mem _ (List.mem_append_right _ (List.mem_append_left _ hq))
  · intro q hq
    rcases List.mem_cons.1 hq with rfl | hq
    · exact .inl (by simp)
    · rcases List.mem_append.1 hq with hq | hq
      · exact (dn.sub1 q hq).imp (fun h9 => List.mem_cons_of_mem _ (List.mem_append_left _ h9)) id
      · rcases List.mem_append.1 hq with hq | hq
        · exact (dn.sub2 q hq).imp (fun h9 => List.mem_cons_of_mem _ (List.mem_append_right _ (List.mem_append_left _ h9))) id
        · refine .inl (List.mem_cons_of_mem _ (List.mem_append_right _ (List.mem_append_right _ ?_)))
          rw [hab]
          simp only [List.mem_append] at hq ⊢
          rcases hq with hq | hq | hq
          · exact .inl (.inl hq)
          · exact .inr hq
          · exact .inl (.inr hq)
end Go.Proofs.YtmomohljnmopfaaX
end
section
namespace Go.Proofs.YtmomohljnmopfaaX
open Go.RowKit Go.Lib Go.Proofs.YtmomohljnmopfaaW.PrintWords Go.Proofs.YtmomohljnmopfaaW.PrintLast Go.Proofs.YtmomohljnmopfaaW.PrintMore
set_option linter.unusedVariables false
set_option linter.unusedSimpArgs false
attribute [local go_sem high] eqlNil71 eqlNil72
set_option maxRecDepth 100000 in
set_option maxHeartbeats 8000000 in
theorem put_inner {m tb h : Nat} {x : Nm} {v : ByteArray} (h4 : 4 ≤ m) (hm : m ≤ 64) (ih : PutSpec m tb x v h) : PutSpec m tb x v (h + 1) := fun w b t S lo hi hn hk hlo hhi hs htb hts => by
  obtain ⟨ks, cs⟩ := t
  have hs : cs.length ≤ m := hs
  have hsep : Seps lo ks hi := hk.1
  have hL : OkL (Kid m h) ks cs lo hi := hk.2
  have hlen := okL_len hL
  obtain ⟨q, hq⟩ : ∃ q, atK ks x = q := ⟨_, rfl⟩
  have hql : q ≤ ks.length := by rw [← hq]; exact at_le ks x
  obtain ⟨c, hc⟩ : ∃ c, cs[q]? = some c := ⟨_, List.getElem?_eq_getElem (by omega)⟩
  obtain ⟨hget, lo2, hi2, hkid, hlo2, hhi2⟩ := get_kid hk hlo hhi (by rw [hq]; exact hc)
  obtain ⟨kv, gv, cv, kb, Sc, hb, hkr, hkb, hcn, hcS, hbc, hgc, hkc, hset⟩ := inner_kid (ks := ks) hn hc
  obtain ⟨c0, c1, c2⟩ := inner_cells hb
  obtain ⟨p1, p2, p3, p4⟩ := put_ok (v := v) h4 hkid.1 hlo2 hhi2
  have hput := putT_some (m := m) (v := v) (mkT ks cs) (x := x) (c := c) (by show cs[atK ks x]? = some c; rw [hq]; exact hc)
  have hput : putT m (h + 1) (mkT ks cs) x v = if m < sizeT h (putT m h c x v) then mkT (insAt q (splitT h (putT m h c x v)).2.1 ks) (insAt (q + 1) (splitT h (putT m h c x v)).2.2 (cs.set q (splitT h (putT m h c x v)).1)) else mkT ks (cs.set q (putT m h c x v)) := by rw [← hq]; exact hput
  have cA := at_calls (x := x) c0 hkr (by omega) (seps_rises hsep)
  rw [hq] at cA
  have cP := ih w kb c Sc lo2 hi2 hcn hkid.1 hlo2 hhi2 hkid.2.2 htb (fun h9 => hts (hcS tb h9))
  have hqi : (q : Int) < (cs.length : Int) := by omega
  have hk2 := hkid.2
  obtain ⟨c', hc'⟩ : ∃ c', putT m h c x v = c' := ⟨_, rfl⟩
  have hflat : getF x (flat (h + 1) (mkT ks cs)) = getF x (flat h c) := hget
  rw [hc'] at p1 p2 p3 p4 hput cP
  have A1 := Aside0.mk (And.intro hput (And.intro hset (And.intro hcS (And.intro hts hn))))
  have A2 := Aside0.mk (And.intro hlen (And.intro hql (And.intro hs (And.intro p3 (And.intro p4 hk2)))))
  have AF := Aside0.mk hflat
  have AT := Aside0.mk htb
  clear hput hset hcS hts hn hlen hql hs p1 p2 p3 p4 hk2 hflat hget hkid hlo2 hhi2 hc' hk hL hsep hlo hhi hq hc hkr hcn hbc hgc hkc hb htb ih
  unfold encP at hkb
  generalize getF x (flat h c) = o at cP AF
  go_enter Try.func34, Try.ntmps34
  go_upto_region 11 with (first
    | (go_at_call 44; refine cA.mono ?_; rintro e w9 ⟨rfl, h9⟩; obtain rfl := h9.symm)
    | (go_at_call 34; refine cP.mono ?_; rintro e w1 ⟨rfl, Sc', hn1, hf1, hsub1⟩; unfold ansG; have N1 := Aside0.mk (And.intro hn1 (And.intro hf1 hsub1)); clear hn1 hf1 hsub1))
  obtain ⟨hput, hset, hcS, hts, hn⟩ := A1.out
  obtain ⟨hlen, hql, hs, p3, p4, hk2⟩ := A2.out
  obtain ⟨hn1, hf1, hsub1⟩ := N1.out
  obtain ⟨S1, hN1, hS1, hScS1, hD1⟩ := hset w1 c' Sc' hn1 hf1 hsub1
  have F1 := hf1.mono (T := S) hcS
  have ht1 := F1.cell AT.out hts
  have hts1 : tb ∉ S1 := fun h9 => (hS1 tb h9).elim hts (fun h8 => absurd (World.block_lt_of_cell? _ _ AT.out) (Nat.not_lt.2 h8))
  have hql2 : q < cs.length := by omega
  have hc1 : (cs.set q c')[q]? = some c' := List.getElem?_set_self hql2
  obtain ⟨kv1, gv1, cv1, kb1, Sc1, hb1, hkr1, hkb1, hcn1, hcS1, hbc1, hgc1, hkc1, hset1⟩ := inner_kid (ks := ks) hN1 hc1
  rw [List.length_set] at hb1
  obtain ⟨d0, d1, d2⟩ := inner_cells hb1
  have cZ : ∀ n, Calls Try.prog 35 #[.pointer (some ⟨kb1, 0, none⟩)] (w1.drewN n) fun e w'' => e = .returned (.int .i64 (sizeT h c')) ∧ ∃ m, w'' = w1.drewN m := fun n => (size_calls (node_step (w' := w1.drewN n) hcn1 (fun _ _ => rfl))).mono (fun e w' ⟨h1, h2⟩ => ⟨h1, n, h2⟩)
  have B1 := Aside0.mk (And.intro hN1 (And.intro hS1 (And.intro F1 (And.intro hts1 hc1))))
  unfold encP at hkb1
  have hqi : (q : Int) < (cs.length : Int) := by omega
  clear hput hset hcS hts hn hlen hql hs p3 p4 hk2 hn1 hf1 hsub1 hN1 hS1 hScS1 hD1 F1 hts1 hql2 hc1 hb1 hkr1 hcn1 hcS1 hbc1 hgc1 hkc1 hset1 hkb c0 c1 c2
  obtain ⟨z, hz⟩ : ∃ z, sizeT h c' = z := ⟨_, rfl⟩
  rw [hz] at cZ
  by_cases hbig : m < z
  · have e1 : decide ((m : Int) < (z : Int)) = true := decide_eq_true (by omega)
    have e1' : decide (m < z) = true := decide_eq_true hbig
    have HBIG := Aside0.mk (And.intro hz hbig)
    clear hbig hz
    go_quiet ((go_at_call 35; exact cZ _))
    obtain ⟨W1, hW1⟩ : ∃ W1, w1.drewN nq = W1 := ⟨_, rfl⟩
    have BW : Aside0 (NodeAt (h + 1) W1 b (mkT ks (cs.set q c')) S1 ∧ Fr S w W1 ∧ W1.heap.size = w1.heap.size) := ⟨by rw [← hW1]; exact node_step B1.out.1 (fun _ _ => rfl), by rw [← hW1]; exact B1.out.2.2.1.drewN nq, by rw [← hW1]; rfl⟩
    obtain ⟨kv2, gv2, cv2, kb2, Sc2, hb2, hkr2, hkb2, hcn2, hcS2, hbc2, hgc2, hkc2, hset2⟩ := inner_kid (ks := ks) BW.out.1 B1.out.2.2.2.2
    rw [List.length_set] at hb2
    rw [hW1]
    obtain ⟨g0, g1, g2⟩ := inner_cells hb2
    unfold encP at hkb2
    have cS := split_calls hcn2 (by rw [HBIG.out.1]; have := HBIG.out.2; omega) (by have := A2.out.2.2.2.2.1; have := A2.out.2.2.2.2.2; omega)
    have B2 := Aside0.mk (And.intro hcn2 (And.intro hcS2 hset2))
    clear hW1 hb2 hkr2 hcn2 hcS2 hbc2 hgc2 hkc2 hset2 d0 d1 d2 hkb1 cZ ht1
    go_upto_region 13 with (go_at_call 36; refine cS.mono ?_; rintro e w2 ⟨rb, Sl, Sr, rfl, sp⟩; have SP := Aside0.mk sp; clear sp)
    obtain ⟨hN2, hN3, hF2, hsub2, hnd2⟩ := SP.out
    have hsub2' : ∀ k ∈ Sl, k ∈ Sc2 ∨ W1.heap.size ≤ k := fun k hk => hsub2 k (List.mem_append_left _ hk)
    have hsub3' : ∀ k ∈ Sr, k ∈ Sc2 ∨ W1.heap.size ≤ k := fun k hk => hsub2 k (List.mem_append_right _ hk)
    obtain ⟨S2, hM2, hS2, hSl2, hD2⟩ := B2.out.2.2 w2 _ Sl hN2 hF2 hsub2'
    have hnd3 := hD2 Sr hnd2 hsub3'
    have hM9 := hM2
    obtain ⟨kv3, cv3, bs, S3, hb3, hk3, hv3, hkids, hlen3, hS3, hn3⟩ := hM2
    have hk3 : RowV 9 w2 kv3 (encKs ks) := hk3
    have hkids : KidsAt (NodeAt h w2) bs ((cs.set q c').set q (splitT h c').1) S3 := hkids
    have hcs2 : ((cs.set q c').set q (splitT h c').1) = cs.set q (splitT h c').1 := List.set_set ..
    rw [hcs2] at hkids
    have hbl := kids_len hkids
    rw [List.length_set] at hbl
    obtain ⟨Ak, ck, rfl, hck, -⟩ := hk3.shape
    obtain ⟨Av, cw, rfl, hcw, -⟩ := hv3.shape
    rw [encKs_len] at hb3 hk3 hck hS3
    rw [List.length_map, hbl] at hb3 hv3 hcw hS3
    have hql := A2.out.2.1
    have hlen := A2.out.1
    have hb64 : cs.length ≤ 64 := Nat.le_trans A2.out.2.2.1 hm
    have TW : Aside0 (Two w2 b (.slice Ak ks.length ck) (.slice Av cs.length cw) (S3 ++ Sr)) := ⟨⟨blk_lt hb3, hk3.lt, hv3.lt, fun k hk => (by
      rcases List.mem_append.1 hk with hk | hk
      · exact node_lt hM9 k (by rw [hS3]; simp [hk])
      · exact node_lt hN3 k hk), (by rw [hS3] at hnd3; simpa [List.append_assoc] using hnd3)⟩⟩
    have HV := Aside0.mk (And.intro hk3 (And.intro hv3 hb3))
    have cK : Aside0 (∀ W vb, Below w2.heap.size w2 W → W.heap[vb]? = some (.cells #[.string ⟨(splitT h c').2.1.toArray⟩] 9 (0, 0)) → w2.heap.size ≤ vb → Calls Try.prog 47 #[.slice Ak ks.length ck, .int .i64 q, .slice (some ⟨vb, 0, none⟩) 1 1] W fun e w3 => ∃ A c, e = .returned (.slice A (ks.length + 1) c) ∧ Step1 9 w2 W w3 (.slice Ak ks.length ck) (.slice A (ks.length + 1) c) (insAt q (.string ⟨(splitT h c').2.1.toArray⟩) (encKs ks))) := ⟨fun W vb hW hvb hvl =>
      (insertS (HV.out.1.below hW) (by rw [encKs_len]; exact hql) rfl hvb (fun e => by have := HV.out.1.lt vb (own_mem.2 e); omega) (by rw [encKs_len]; omega)).mono (by
        rintro e w3 ⟨v', rfl, ht⟩
        obtain ⟨A, c, rfl, -, -⟩ := ht.1.shape
        rw [insAt_len (by rw [encKs_len]; exact hql), encKs_len] at ht ⊢
        exact ⟨A, c, rfl, hW, ht⟩)⟩
    have cV : Aside0 (∀ w3 A c W W2 vb, Step1 9 w2 W w3 (.slice Ak ks.length ck) (.slice A (ks.length + 1) c) (insAt q (.string ⟨(splitT h c').2.1.toArray⟩) (encKs ks)) → Below w3.heap.size w3 W2 → W2.heap[vb]? = some (.cells #[.pointer (some ⟨rb, 0, none⟩)] 70 (0, 0)) → w2.heap.size ≤ vb → Calls Try.prog 48 #[.slice Av cs.length cw, .int .i64 ((q : Int) + 1), .slice (some ⟨vb, 0, none⟩) 1 1] W2 fun e w4 => ∃ A' c2, e = .returned (.slice A' (cs.length + 1) c2) ∧ Done 9 70 w2 w4 b (.slice Ak ks.length ck) (.slice A (ks.length + 1) c) (insAt q (.string ⟨(splitT h c').2.1.toArray⟩) (encKs ks)) (.slice Av cs.length cw) (.slice A' (cs.length + 1) c2) (insAt (q + 1) (encP rb) (bs.map encP)) (S3 ++ Sr)) := ⟨fun w3 A c W W2 vb s1 hW hvb hvl => by
      rw [show ((q : Int) + 1) = ((q + 1 : Nat) : Int) from rfl]
      exact (insertN ((s1.row HV.out.2.1 TW.out).below hW) (by rw [List.length_map, hbl]; omega) rfl hvb (fun e => by have := HV.out.2.1.lt vb (own_mem.2 e); omega) (by rw [List.length_map, hbl]; omega)).mono (by
        rintro e w4 ⟨v', rfl, ht⟩
        obtain ⟨A', c', rfl, -, -⟩ := ht.1.shape
        rw [insAt_len (by rw [List.length_map, hbl]; omega), List.length_map, hbl] at ht ⊢
        exact ⟨A', c', rfl, Step2.done ⟨s1, hW, ht⟩ TW.out⟩)⟩
    have FIN : Aside0 (∀ w4 A c A' c2, Done 9 70 w2 w4 b (.slice Ak ks.length ck) (.slice A (ks.length + 1) c) (insAt q (.string ⟨(splitT h c').2.1.toArray⟩) (encKs ks)) (.slice Av cs.length cw) (.slice A' (cs.length + 1) c2) (insAt (q + 1) (encP rb) (bs.map encP)) (S3 ++ Sr) →
        NDid (h + 1) w ((w4.setCell ⟨b, 0, none⟩ (.slice A (ks.length + 1) c)).setCell ⟨b, 2, none⟩ (.slice A' (cs.length + 1) c2)) b S (putT m (h + 1) (mkT ks cs) x v)) := ⟨fun w4 A c A' c2 dn => by
      obtain ⟨S4, hN4, hF4, hs4⟩ := inner_inserted hkids hN3 (by rw [List.length_set]; exact hlen) hql TW.out HV.out.2.2 dn
      rw [← hS3] at hF4
      obtain ⟨hput, -⟩ := A1.out
      have hbg := HBIG.out
      rw [← hbg.1] at hbg
      have hz1 := BW.out.2.1.size
      have hz2 := hF2.size
      have up1 : ∀ k ∈ S1, k ∈ S ∨ w.heap.size ≤ k := B1.out.2.1
      have up2 : ∀ k ∈ S2, k ∈ S ∨ w.heap.size ≤ k := fun k hk => (hS2 k hk).elim (up1 k) (fun h9 => .inr (by omega))
      have upr : ∀ k ∈ Sr, k ∈ S ∨ w.heap.size ≤ k := fun k hk => (hsub3' k hk).elim (fun h9 => up1 k (B2.out.2.1 k h9)) (fun h9 => .inr (by omega))
      refine ⟨S4, ?_, ?_, fun k hk => ?_⟩
      · show NodeAt (h + 1) _ b (putT m (h + 1) (mkT ks cs) x v) S4
        rw [hput, if_pos hbg.2]
        exact hN4
      · exact (BW.out.2.1.trans hF2 (fun k hk => up1 k (B2.out.2.1 k hk))).trans hF4 (fun k hk => up2 k hk)
      · rcases hs4 k hk with h9 | h9
        · rw [List.mem_cons, List.mem_append, List.mem_append, List.mem_append] at h9
          rcases h9 with h9 | h9 | h9 | h9 | h9
          · exact up2 k (by rw [hS3, h9]; simp)
          · exact up2 k (by rw [hS3]; simp [h9])
          · exact up2 k (by rw [hS3]; simp [h9])
          · exact up2 k (by rw [hS3]; simp [h9])
          · exact upr k h9
        · exact .inr (by omega)⟩
    have e20 : IntKind.i64.wrap ((q : Int) + 1) = ((q + 1 : Nat) : Int) := by rw [i64_w]; unfold wrap64; omega
    obtain ⟨r0, r1, r2⟩ := inner_cells hb3
    clear hN2 hN3 hF2 hsub2 hnd2 hsub2' hsub3' hS2 hSl2 hD2 hnd3 hM9 hb3 hk3 hv3 hkids hlen3 hS3 hn3 hcs2 hbl hck hcw hql hlen hb64 cS g0 g1 g2 hkb2 hqi
    generalize (splitT h c').2.1 = least at *
    refine start_ (n := 25) (S := fun w' => w'.cell? ⟨b, 0, none⟩ = some (.slice Ak ks.length ck) ∧ w'.cell? ⟨b, 2, none⟩ = some (.slice Av cs.length cw)) (ds := [21, 24]) (mK 25 0) (by kernel_rfl) rfl rfl ⟨r0, r2⟩ (fun hHeld => ?_)
    refine with_tabW (T := (true, [([], []), ([], []), ([], []), ([2], [2]), ([3], [3]), ([4], [4]), ([], []), ([], []), ([7], [7]), ([5, 6, 8], [5, 6, 8]), ([], []), ([10], [10]), ([11], [11]), ([12], [12]), ([], []), ([14], [14]), ([], []), ([16], [16]), ([13, 15, 17, 9], [13, 15, 17]), ([0, 0, 2, 3, 4, 5, 6, 7, 8, 9, 13, 18], [0]), ([19, 0, 2, 3, 4, 5, 6, 7, 8, 9, 13, 18], [19]), ([20, 9, 18, 0, 2, 3, 4, 5, 6, 7, 8, 9, 13, 18], [9, 20]), ([1, 0, 1, 2, 3, 4, 5, 6, 7, 8, 9, 10, 11, 12, 13, 14, 15, 16, 17, 18, 19, 20, 21], [1]), ([22, 0, 1, 2, 3, 4, 5, 6, 7, 8, 9, 10, 11, 12, 13, 14, 15, 16, 17, 18, 19, 20, 21], [22]), ([23, 18, 21, 0, 1, 2, 3, 4, 5, 6, 7, 8, 9, 10, 11, 12, 13, 14, 15, 16, 17, 18, 19, 20, 21], [18, 23])])) (B := [0, 0, 0, 4, 12, 28, 0, 0, 128, 508, 0, 1024, 3072, 7168, 0, 16384, 0, 65536, 262140, 524285, 1048573, 2097149, 4194303, 8388607, 16777215]) (by kernel_rfl) (by kernel_rfl) (fun HT_ HW_ => ?_)
    refine pK 0 111 (mK 25 1) rfl rfl HT_ ?_
    refine pK 1 112 (mK 25 3) rfl rfl HT_ ?_
    refine pK 2 113 (mK 25 7) rfl rfl HT_ ?_
    refine pK 3 114 (mK 25 15) rfl rfl HT_ ?_
    refine pK 4 115 (mK 25 31) rfl rfl HT_ ?_
    refine pK 6 117 (mK 25 95) rfl rfl HT_ ?_
    refine pK 7 118 (mK 25 223) rfl rfl HT_ ?_
    refine pK 10 121 (mK 25 1247) rfl rfl HT_ ?_
    refine pK 11 122 (mK 25 3295) rfl rfl HT_ ?_
    refine pK 12 123 (mK 25 7391) rfl rfl HT_ ?_
    refine pK 14 125 (mK 25 23775) rfl rfl HT_ ?_
    refine pK 15 126 (mK 25 56543) rfl rfl HT_ ?_
    refine pK 16 127 (mK 25 122079) rfl rfl HT_ ?_
    refine take_ (i := 5) (N := some 116) (v := ?_) (a' := ?_) (mK 25 122111) rfl rfl (take_ofW HT_.out HW_.out (by kernel_rfl)) (fun _ _ _ h => h) (Or.inl ⟨by rfl, ?_⟩) hHeld ?_ ?_
    rotate_left; focus (rintro w' ⟨s0, s1⟩; go_simp; with_reducible rfl; done)
    rotate_left; focus (first | (simp only [Act.put, List.setIfInBounds_toArray, List.set_cons_zero, List.set_cons_succ, i64_w, i32_w]; rfl; done) | (rfl; done))
    refine take_ (i := 13) (N := some 124) (v := ?_) (a' := ?_) (mK 25 130303) rfl rfl (take_ofW HT_.out HW_.out (by kernel_rfl)) (fun _ _ _ h => h) (Or.inl ⟨by rfl, ?_⟩) hHeld ?_ ?_
    rotate_left; focus (rintro w' ⟨s0, s1⟩; go_simp; with_reducible rfl; done)
    rotate_left; focus (first | (simp only [Act.put, List.setIfInBounds_toArray, List.set_cons_zero, List.set_cons_succ, i64_w, i32_w]; rfl; done) | (rfl; done))
    refine two_ (i := 8) (j := 17) (mK 25 130559) (mK 25 261375) rfl rfl rfl rfl (two_of HT_.out (by kernel_rfl)) (by decide) (by decide) (fun K hK => ?_) (fun K hK => ?_)
    focus
     go_simp
     refine hK.out _ _ (by refine ⟨?_, ?_⟩ <;> simp [*, World.cell?_alloc_some]) (fun hHeld => ?_)
     clear hK K
     refine two_ (i := 9) (j := 17) (mK 25 131071) (mK 25 261631) rfl rfl rfl rfl (two_of HT_.out (by kernel_rfl)) (by decide) (by decide) (fun K hK => ?_) (fun K hK => ?_)
     focus
      go_simp
      refine (cK.out _ _ ?_ ?_ ?_).mono ?_
      exact (by first | exact below_drew1 (below_alloc (Below.refl _ _) _) | exact below_drew1 (below_alloc (below_alloc (Below.refl _ _) _) _))
      exact (by first | exact blk_new _ _ | exact blk_new2 _ _ _ | exact blk_alloc (blk_new _ _) _)
      exact (by first | exact Nat.le_refl _ | exact Nat.le_succ _)
      rintro e w3 ⟨A2, c2, rfl, s1⟩
      have S1 := Aside0.mk s1
      have HB2 := Aside0.mk (s1.blk HV.out.2.2 TW.out)
      clear s1
      go_simp
      refine hK.out _ _ ⟨(inner_cells HB2.out).1, (inner_cells HB2.out).2.2⟩ (fun hHeld => ?_)
      clear hK K
      refine one_ (i := 17) (N := some 128) (mK 25 262143) rfl rfl (one_of HT_.out (by kernel_rfl)) (by decide) (fun K hK => ?_)
      focus
       go_simp
       refine hK.out _ _ (by refine ⟨?_, ?_⟩ <;> simp [*, World.cell?_alloc_some]) (fun hHeld => ?_)
       clear hK K
       refine one_ (i := 18) (N := some 129) (mK 25 524287) rfl rfl (one_of HT_.out (by kernel_rfl)) (by decide) (fun K hK => ?_)
       focus
        go_simp
        refine (cV.out _ _ _ _ _ _ S1.out ?_ ?_ ?_).mono ?_
        exact (by first | exact Below.refl _ _ | exact below_alloc (Below.refl _ _) _)
        exact (by first | exact blk_new _ _ | exact S1.out.new (by first | exact blk_new _ _ | exact blk_new2 _ _ _ | exact blk_alloc (blk_new _ _) _) (by first | exact Nat.le_refl _ | exact Nat.le_succ _) TW.out.klt)
        exact (by first | exact Nat.le_refl _ | exact Nat.le_succ _ | exact S1.out.size)
        rintro e w4 ⟨A3, c3, rfl, dn⟩
        have DN := Aside0.mk dn
        have HB3 := Aside0.mk (dn.blk TW.out HV.out.2.2)
        have f0 := blk_frozen HB3.out 0
        have f1 := blk_frozen HB3.out 2
        have g0 := (inner_cells HB3.out).1
        have g1 := (inner_cells HB3.out).2.2
        clear dn
        go_simp
        refine hK.out _ _ ⟨(inner_cells HB3.out).1, (inner_cells HB3.out).2.2⟩ (fun hHeld => ?_)
        clear hK K
        refine pK 19 130 (mK 25 1048575) rfl rfl HT_ ?_
        refine pK 20 131 (mK 25 2097151) rfl rfl HT_ ?_
        refine last_ (i := 21) (N := none) (mK 25 4194303) rfl rfl (one_of HT_.out (by kernel_rfl)) (by decide) (fun K hK => ?_)
        focus
         go_simp
         skip
         refine hK.out _ _ ?_
         clear hK K
         refine pK 22 132 (mK 25 8388607) rfl rfl HT_ ?_
         refine pK 23 133 (mK 25 16777215) rfl rfl HT_ ?_
         refine last_ (i := 24) (N := none) (mK 25 33554431) rfl rfl (one_of HT_.out (by kernel_rfl)) (by decide) (fun K hK => ?_)
         focus
          go_simp
          skip
          refine hK.out _ _ ?_
          clear hK K
          refine done_ (done_of HT_.out (by kernel_rfl)) ?_
          go_wp2
          go_ret2
          refine ⟨?_, FIN.out _ _ _ _ _ DN.out⟩
          show _ = Ending.returned (ansG (getF x (flat (h + 1) (mkT ks cs))))
          rw [AF.out]
          rfl
     focus
      go_simp
      refine hK.out _ _ (by refine ⟨?_, ?_⟩ <;> simp [*, World.cell?_alloc_some]) (fun hHeld => ?_)
      clear hK K
      refine one_ (i := 9) (N := some 120) (mK 25 262143) rfl rfl (one_of HT_.out (by kernel_rfl)) (by decide) (fun K hK => ?_)
      focus
       go_simp
       refine (cK.out _ _ ?_ ?_ ?_).mono ?_
       exact (by first | exact below_drew1 (below_alloc (Below.refl _ _) _) | exact below_drew1 (below_alloc (below_alloc (Below.refl _ _) _) _))
       exact (by first | exact blk_new _ _ | exact blk_new2 _ _ _ | exact blk_alloc (blk_new _ _) _)
       exact (by first | exact Nat.le_refl _ | exact Nat.le_succ _)
       rintro e w3 ⟨A2, c2, rfl, s1⟩
       have S1 := Aside0.mk s1
       have HB2 := Aside0.mk (s1.blk HV.out.2.2 TW.out)
       clear s1
       go_simp
       refine hK.out _ _ ⟨(inner_cells HB2.out).1, (inner_cells HB2.out).2.2⟩ (fun hHeld => ?_)
       clear hK K
       refine one_ (i := 18) (N := some 129) (mK 25 524287) rfl rfl (one_of HT_.out (by kernel_rfl)) (by decide) (fun K hK => ?_)
       focus
        go_simp
        refine (cV.out _ _ _ _ _ _ S1.out ?_ ?_ ?_).mono ?_
        exact (by first | exact Below.refl _ _ | exact below_alloc (Below.refl _ _) _)
        exact (by first | exact blk_new _ _ | exact S1.out.new (by first | exact blk_new _ _ | exact blk_new2 _ _ _ | exact blk_alloc (blk_new _ _) _) (by first | exact Nat.le_refl _ | exact Nat.le_succ _) TW.out.klt)
        exact (by first | exact Nat.le_refl _ | exact Nat.le_succ _ | exact S1.out.size)
        rintro e w4 ⟨A3, c3, rfl, dn⟩
        have DN := Aside0.mk dn
        have HB3 := Aside0.mk (dn.blk TW.out HV.out.2.2)
        have f0 := blk_frozen HB3.out 0
        have f1 := blk_frozen HB3.out 2
        have g0 := (inner_cells HB3.out).1
        have g1 := (inner_cells HB3.out).2.2
        clear dn
        go_simp
        refine hK.out _ _ ⟨(inner_cells HB3.out).1, (inner_cells HB3.out).2.2⟩ (fun hHeld => ?_)
        clear hK K
        refine pK 19 130 (mK 25 1048575) rfl rfl HT_ ?_
        refine pK 20 131 (mK 25 2097151) rfl rfl HT_ ?_
        refine last_ (i := 21) (N := none) (mK 25 4194303) rfl rfl (one_of HT_.out (by kernel_rfl)) (by decide) (fun K hK => ?_)
        focus
         go_simp
         skip
         refine hK.out _ _ ?_
         clear hK K
         refine pK 22 132 (mK 25 8388607) rfl rfl HT_ ?_
         refine pK 23 133 (mK 25 16777215) rfl rfl HT_ ?_
         refine last_ (i := 24) (N := none) (mK 25 33554431) rfl rfl (one_of HT_.out (by kernel_rfl)) (by decide) (fun K hK => ?_)
         focus
          go_simp
          skip
          refine hK.out _ _ ?_
          clear hK K
          refine done_ (done_of HT_.out (by kernel_rfl)) ?_
          go_wp2
          go_ret2
          refine ⟨?_, FIN.out _ _ _ _ _ DN.out⟩
          show _ = Ending.returned (ansG (getF x (flat (h + 1) (mkT ks cs))))
          rw [AF.out]
          rfl
    focus
     go_simp
     refine hK.out _ _ (by refine ⟨?_, ?_⟩ <;> simp [*, World.cell?_alloc_some]) (fun hHeld => ?_)
     clear hK K
     refine one_ (i := 8) (N := some 119) (mK 25 261631) rfl rfl (one_of HT_.out (by kernel_rfl)) (by decide) (fun K hK => ?_)
     focus
      go_simp
      refine hK.out _ _ (by refine ⟨?_, ?_⟩ <;> simp [*, World.cell?_alloc_some]) (fun hHeld => ?_)
      clear hK K
      refine one_ (i := 9) (N := some 120) (mK 25 262143) rfl rfl (one_of HT_.out (by kernel_rfl)) (by decide) (fun K hK => ?_)
      focus
       go_simp
       refine (cK.out _ _ ?_ ?_ ?_).mono ?_
       exact (by first | exact below_drew1 (below_alloc (Below.refl _ _) _) | exact below_drew1 (below_alloc (below_alloc (Below.refl _ _) _) _))
       exact (by first | exact blk_new _ _ | exact blk_new2 _ _ _ | exact blk_alloc (blk_new _ _) _)
       exact (by first | exact Nat.le_refl _ | exact Nat.le_succ _)
       rintro e w3 ⟨A2, c2, rfl, s1⟩
       have S1 := Aside0.mk s1
       have HB2 := Aside0.mk (s1.blk HV.out.2.2 TW.out)
       clear s1
       go_simp
       refine hK.out _ _ ⟨(inner_cells HB2.out).1, (inner_cells HB2.out).2.2⟩ (fun hHeld => ?_)
       clear hK K
       refine one_ (i := 18) (N := some 129) (mK 25 524287) rfl rfl (one_of HT_.out (by kernel_rfl)) (by decide) (fun K hK => ?_)
       focus
        go_simp
        refine (cV.out _ _ _ _ _ _ S1.out ?_ ?_ ?_).mono ?_
        exact (by first | exact Below.refl _ _ | exact below_alloc (Below.refl _ _) _)
        exact (by first | exact blk_new _ _ | exact S1.out.new (by first | exact blk_new _ _ | exact blk_new2 _ _ _ | exact blk_alloc (blk_new _ _) _) (by first | exact Nat.le_refl _ | exact Nat.le_succ _) TW.out.klt)
        exact (by first | exact Nat.le_refl _ | exact Nat.le_succ _ | exact S1.out.size)
        rintro e w4 ⟨A3, c3, rfl, dn⟩
        have DN := Aside0.mk dn
        have HB3 := Aside0.mk (dn.blk TW.out HV.out.2.2)
        have f0 := blk_frozen HB3.out 0
        have f1 := blk_frozen HB3.out 2
        have g0 := (inner_cells HB3.out).1
        have g1 := (inner_cells HB3.out).2.2
        clear dn
        go_simp
        refine hK.out _ _ ⟨(inner_cells HB3.out).1, (inner_cells HB3.out).2.2⟩ (fun hHeld => ?_)
        clear hK K
        refine pK 19 130 (mK 25 1048575) rfl rfl HT_ ?_
        refine pK 20 131 (mK 25 2097151) rfl rfl HT_ ?_
        refine last_ (i := 21) (N := none) (mK 25 4194303) rfl rfl (one_of HT_.out (by kernel_rfl)) (by decide) (fun K hK => ?_)
        focus
         go_simp
         skip
         refine hK.out _ _ ?_
         clear hK K
         refine pK 22 132 (mK 25 8388607) rfl rfl HT_ ?_
         refine pK 23 133 (mK 25 16777215) rfl rfl HT_ ?_
         refine last_ (i := 24) (N := none) (mK 25 33554431) rfl rfl (one_of HT_.out (by kernel_rfl)) (by decide) (fun K hK => ?_)
         focus
          go_simp
          skip
          refine hK.out _ _ ?_
          clear hK K
          refine done_ (done_of HT_.out (by kernel_rfl)) ?_
          go_wp2
          go_ret2
          refine ⟨?_, FIN.out _ _ _ _ _ DN.out⟩
          show _ = Ending.returned (ansG (getF x (flat (h + 1) (mkT ks cs))))
          rw [AF.out]
          rfl
  · have e1 : decide ((m : Int) < (z : Int)) = false := decide_eq_false (by omega)
    have e1' : decide (m < z) = false := decide_eq_false hbig
    have HBIG := Aside0.mk (And.intro hz hbig)
    clear hbig hz
    go_quiet ((go_at_call 35; exact cZ _))
    go_wp2
    go_ret2
    obtain ⟨hput, -⟩ := A1.out
    refine ⟨?_, S1, ?_, B1.out.2.2.1.drewN nq, ?_⟩
    · show _ = Ending.returned (ansG (getF x (flat (h + 1) (mkT ks cs))))
      rw [AF.out]
      rfl
    · have h9 := HBIG.out
      rw [← h9.1] at h9
      show NodeAt (h + 1) _ b (putT m (h + 1) (mkT ks cs) x v) S1
      rw [hput, if_neg h9.2]
      exact node_step B1.out.1 (fun _ _ => rfl)
    · exact B1.out.2.1
end Go.Proofs.YtmomohljnmopfaaX
end
section
namespace Go.Proofs.YtmomohljnmopfaaX
open Go.RowKit Go.Lib Go.Proofs.YtmomohljnmopfaaW.PrintWords Go.Proofs.YtmomohljnmopfaaW.PrintLast Go.Proofs.YtmomohljnmopfaaW.PrintMore
set_option linter.unusedVariables false
set_option linter.unusedSimpArgs false
attribute [local go_sem high] eqlNil71 eqlNil72
theorem put_node (m tb : Nat) (x : Nm) (v : ByteArray) (h4 : 4 ≤ m) (hm : m ≤ 64) : ∀ h, PutSpec m tb x v h
  | 0 => put_leaf m tb x v hm
  | h + 1 => put_inner h4 hm (put_node m tb x v h4 hm h)
/-- A root as it may be. -/
def Right (m h : Nat) (t : T h) : Prop := Ok m h t none none ∧ sizeT h t ≤ m ∧ (0 < h → 2 ≤ sizeT h t)
def TreeAt (m : Nat) (w : World) (tb : Nat) (h : Nat) (t : T h) (S : List Nat) : Prop := ∃ root S0, w.heap[tb]? = some (.cells #[.int .i64 m, .int .i64 (flat h t).length, .pointer (some ⟨root, 0, none⟩)] 76 (0, 0)) ∧ NodeAt h w root t S0 ∧ S = tb :: S0 ∧ tb ∉ S0
/-- A tree that has these pairs. -/
def Tr (m : Nat) (w : World) (tb : Nat) (l : List KV) (S : List Nat) : Prop := ∃ h t, TreeAt m w tb h t S ∧ Right m h t ∧ flat h t = l
theorem tree_cells {w : World} {tb : Nat} {a b c : Value} (h : w.heap[tb]? = some (.cells #[a, b, c] 76 (0, 0))) : w.cell? ⟨tb, 0, none⟩ = some a ∧ w.cell? ⟨tb, 1, none⟩ = some b ∧ w.cell? ⟨tb, 2, none⟩ = some c :=
  ⟨(blk_cell h 0).trans rfl, (blk_cell h 1).trans rfl, (blk_cell h 2).trans rfl⟩
theorem tr_lt {m : Nat} {w : World} {tb : Nat} {l : List KV} {S : List Nat} (h : Tr m w tb l S) : ∀ k ∈ S, k < w.heap.size := by
  obtain ⟨h, t, ⟨root, S0, h1, h2, rfl, h4⟩, -⟩ := h
  intro k hk
  rcases List.mem_cons.1 hk with rfl | hk
  · exact blk_lt h1
  · exact node_lt h2 k hk
theorem tr_step {m : Nat} {w w' : World} {tb : Nat} {l : List KV} {S : List Nat} (h : Tr m w tb l S) (hb : ∀ k ∈ S, w'.heap[k]? = w.heap[k]?) : Tr m w' tb l S := by
  obtain ⟨h, t, ⟨root, S0, h1, h2, rfl, h4⟩, h5⟩ := h
  exact ⟨h, t, ⟨root, S0, (hb tb (by simp)).trans h1, node_step h2 (fun k hk => hb k (by simp [hk])), rfl, h4⟩, h5⟩
theorem tr_below {m : Nat} {w w' : World} {tb : Nat} {l : List KV} {S : List Nat} (h : Tr m w tb l S) (hb : Below w.heap.size w w') : Tr m w' tb l S := tr_step h (fun k hk => hb.block k (tr_lt h k hk))
theorem tr_fr {m : Nat} {w w' : World} {tb : Nat} {l : List KV} {S S' : List Nat} (h : Tr m w tb l S) (hf : Fr S' w w') (hd : ∀ k ∈ S, k ∉ S') : Tr m w' tb l S := tr_step h (fun k hk => hf.block k (tr_lt h k hk) (hd k hk))
theorem tr_rises {m : Nat} {w : World} {tb : Nat} {l : List KV} {S : List Nat} (h : Tr m w tb l S) : Rises l := by
  obtain ⟨h, t, -, h5, rfl⟩ := h
  exact (ok_flat h5.1).1
/-- What a call has done to a tree. -/
def TDid (m : Nat) (w w' : World) (tb : Nat) (S : List Nat) (l' : List KV) : Prop := ∃ S', Tr m w' tb l' S' ∧ Fr S w w' ∧ ∀ k ∈ S', k ∈ S ∨ w.heap.size ≤ k
theorem put_right {m h : Nat} {t : T h} {x : Nm} {v : ByteArray} (h4 : 4 ≤ m) (hr : Right m h t) (hb : ¬ m < sizeT h (putT m h t x v)) : Right m h (putT m h t x v) ∧ flat h (putT m h t x v) = putF x v (flat h t) := by
  obtain ⟨p1, p2, p3, p4⟩ := put_ok (v := v) (x := x) h4 hr.1 (fun a ha => by cases ha) (fun a ha => by cases ha)
  exact ⟨⟨p1, by omega, fun h0 => Nat.le_trans (hr.2.2 h0) p3⟩, p2⟩
theorem put_grown {m h : Nat} {t : T h} {x : Nm} {v : ByteArray} (h4 : 4 ≤ m) (hr : Right m h t) (hb : m < sizeT h (putT m h t x v)) :
    Right m (h + 1) (mkT [(splitT h (putT m h t x v)).2.1] [(splitT h (putT m h t x v)).1, (splitT h (putT m h t x v)).2.2]) ∧ flat (h + 1) (mkT [(splitT h (putT m h t x v)).2.1] [(splitT h (putT m h t x v)).1, (splitT h (putT m h t x v)).2.2]) = putF x v (flat h t) := by
  obtain ⟨p1, p2, p3, p4⟩ := put_ok (v := v) (x := x) h4 hr.1 (fun a ha => by cases ha) (fun a ha => by cases ha)
  have hm := hr.2.1
  obtain ⟨t1, t2, t3, t4, t5, t6, t7⟩ := split_ok p1 (by omega)
  generalize putT m h t x v = c' at *
  generalize splitT h c' = sp at *
  refine ⟨⟨⟨?_, ?_⟩, ?_, fun _ => Nat.le_refl 2⟩, ?_⟩
  · exact ⟨t3, fun a ha b hb => by cases hb⟩
  · exact ⟨⟨t1, by omega, by omega⟩, (⟨t2, by omega, by omega⟩ : Kid m h _ _ _)⟩
  · show 2 ≤ m
    omega
  · show flats [sp.1, sp.2.2] = _
    rw [← p2, ← t5, flats_cons, flats_cons]
    simp [flats]
/-- A new root over two nodes. -/
theorem new_root {m n h : Nat} {W : World} {tb root rb : Nat} {p : Value} {k : Nm} {l r : T h} {Sl Sr : List Nat} (hb : W.heap[tb]? = some (.cells #[.int .i64 m, .int .i64 n, p] 76 (0, 0))) (hl : NodeAt h W root l Sl) (hr : NodeAt h W rb r Sr) (hn : (Sl ++ Sr).Nodup) (ht : tb ∉ Sl ++ Sr) (hlen : n = (flat (h + 1) (mkT [k] [l, r])).length) :
    ∃ S', TreeAt m ((((W.alloc (.cells #[.string ⟨k.toArray⟩] 9)).alloc (.cells #[.pointer (some ⟨root, 0, none⟩), .pointer (some ⟨rb, 0, none⟩)] 70)).alloc (.cells #[.slice (some ⟨W.heap.size, 0, none⟩) 1 1, .slice none 0 0, .slice (some ⟨W.heap.size + 1, 0, none⟩) 2 2] 74)).setCell ⟨tb, 2, none⟩ (.pointer (some ⟨W.heap.size + 1 + 1, 0, none⟩))) tb (h + 1) (mkT [k] [l, r]) S' ∧
      Fr [tb] W ((((W.alloc (.cells #[.string ⟨k.toArray⟩] 9)).alloc (.cells #[.pointer (some ⟨root, 0, none⟩), .pointer (some ⟨rb, 0, none⟩)] 70)).alloc (.cells #[.slice (some ⟨W.heap.size, 0, none⟩) 1 1, .slice none 0 0, .slice (some ⟨W.heap.size + 1, 0, none⟩) 2 2] 74)).setCell ⟨tb, 2, none⟩ (.pointer (some ⟨W.heap.size + 1 + 1, 0, none⟩))) ∧ ∀ q ∈ S', q ∈ tb :: (Sl ++ Sr) ∨ W.heap.size ≤ q := by
  have s1 : (W.alloc (.cells #[.string ⟨k.toArray⟩] 9)).heap.size = W.heap.size + 1 := by simp
  obtain ⟨W1, hW1⟩ : ∃ W1, W.alloc (.cells #[.string ⟨k.toArray⟩] 9) = W1 := ⟨_, rfl⟩
  have b1 : W1.heap[W.heap.size]? = some (.cells #[.string ⟨k.toArray⟩] 9 (0, 0)) := by rw [← hW1]; exact blk_new W _
  have B1 : Below W.heap.size W W1 := by rw [← hW1]; exact below_alloc (Below.refl _ _) _
  rw [hW1] at s1 ⊢
  have s2 : (W1.alloc (.cells #[.pointer (some ⟨root, 0, none⟩), .pointer (some ⟨rb, 0, none⟩)] 70)).heap.size = W.heap.size + 1 + 1 := by simp [s1]
  obtain ⟨W2, hW2⟩ : ∃ W2, W1.alloc (.cells #[.pointer (some ⟨root, 0, none⟩), .pointer (some ⟨rb, 0, none⟩)] 70) = W2 := ⟨_, rfl⟩
  have b2 : W2.heap[W.heap.size + 1]? = some (.cells #[.pointer (some ⟨root, 0, none⟩), .pointer (some ⟨rb, 0, none⟩)] 70 (0, 0)) := by rw [← hW2, ← s1]; exact blk_new W1 _
  have B2 : Below W1.heap.size W1 W2 := by rw [← hW2]; exact below_alloc (Below.refl _ _) _
  rw [hW2] at s2 ⊢
  obtain ⟨W3, hW3⟩ : ∃ W3, W2.alloc (.cells #[.slice (some ⟨W.heap.size, 0, none⟩) 1 1, .slice none 0 0, .slice (some ⟨W.heap.size + 1, 0, none⟩) 2 2] 74) = W3 := ⟨_, rfl⟩
  have b3 : W3.heap[W.heap.size + 1 + 1]? = some (.cells #[.slice (some ⟨W.heap.size, 0, none⟩) 1 1, .slice none 0 0, .slice (some ⟨W.heap.size + 1, 0, none⟩) 2 2] 74 (0, 0)) := by rw [← hW3, ← s2]; exact blk_new W2 _
  have B3 : Below W2.heap.size W2 W3 := by rw [← hW3]; exact below_alloc (Below.refl _ _) _
  rw [hW3]
  obtain ⟨W4, hW4⟩ : ∃ W4, W3.setCell ⟨tb, 2, none⟩ (.pointer (some ⟨W.heap.size + 1 + 1, 0, none⟩)) = W4 := ⟨_, rfl⟩
  have B13 : Below W.heap.size W W3 := (B1.trans (B2.mono B1.size)).trans (B3.mono (by omega))
  have hb3 := blk_below hb B13
  have hb4 : W4.heap[tb]? = some (.cells #[.int .i64 m, .int .i64 n, .pointer (some ⟨W.heap.size + 1 + 1, 0, none⟩)] 76 (0, 0)) := by rw [← hW4]; exact blk_put hb3 2 _ rfl
  have F4 : Fr [tb] W3 W4 := by rw [← hW4]; exact (Fr.refl [tb] W3).setCell (p := ⟨tb, 2, none⟩) (.inl (by simp)) _
  have F : Fr [tb] W W4 := (Fr.of_below B13 [tb]).trans F4 (fun x hx => .inl hx)
  rw [hW4]
  have htl := blk_lt hb
  have c1 := F4.blk (blk_below (blk_below b1 B2) B3) (by simp only [List.mem_singleton]; omega)
  have c2 := F4.blk (blk_below b2 B3) (by simp only [List.mem_singleton]; omega)
  have c3 := F4.blk b3 (by simp only [List.mem_singleton]; omega)
  have ltS : ∀ q ∈ Sl ++ Sr, q < W.heap.size := fun q hq => (List.mem_append.1 hq).elim (node_lt hl q) (node_lt hr q)
  have hneS : ∀ q ∈ Sl ++ Sr, q ∉ [tb] := fun q hq h9 => by simp only [List.mem_singleton] at h9; exact ht (h9 ▸ hq)
  refine ⟨tb :: (W.heap.size + 1 + 1) :: ([W.heap.size] ++ ([W.heap.size + 1] ++ (Sl ++ (Sr ++ [])))), ⟨_, _, by rw [← hlen]; exact hb4, ?_, rfl, ?_⟩, F, ?_⟩
  · refine ⟨.slice (some ⟨W.heap.size, 0, none⟩) 1 1, .slice (some ⟨W.heap.size + 1, 0, none⟩) 2 2, [root, rb], Sl ++ (Sr ++ []), c3, ?_, ?_, ?_, rfl, by simp [Value.ownBlock], ?_⟩
    · exact .inr ⟨_, 1, _, rfl, c1, Nat.le_refl _, by simp, by simp [maxLen], rfl, one_encKs _⟩
    · exact .inr ⟨_, 2, _, rfl, c2, Nat.le_refl _, by simp, by simp [maxLen], rfl, one_encP _⟩
    · exact ⟨Sl, Sr ++ [], node_fr hl F (fun q hq => hneS q (by simp [hq])), ⟨Sr, [], node_fr hr F (fun q hq => hneS q (by simp [hq])), rfl, rfl⟩, rfl⟩
    · rw [List.append_nil]
      show ((W.heap.size + 1 + 1) :: W.heap.size :: (W.heap.size + 1) :: (Sl ++ Sr)).Nodup
      refine List.nodup_cons.2 ⟨?_, List.nodup_cons.2 ⟨?_, List.nodup_cons.2 ⟨?_, hn⟩⟩⟩
      · intro hx
        rcases List.mem_cons.1 hx with hx | hx
        · omega
        · rcases List.mem_cons.1 hx with hx | hx
          · omega
          · have := ltS _ hx; omega
      · intro hx
        rcases List.mem_cons.1 hx with hx | hx
        · omega
        · have := ltS _ hx; omega
      · intro hx
        have := ltS _ hx; omega
  · intro hx
    simp only [List.mem_cons, List.mem_append, List.not_mem_nil, or_false, false_or, List.append_nil] at hx
    rcases hx with hx | hx | hx | hx
    · omega
    · omega
    · omega
    · exact ht (List.mem_append.2 hx)
  · intro q hq
    simp only [List.mem_cons, List.mem_append, List.not_mem_nil, or_false, false_or, List.append_nil] at hq
    rcases hq with h9 | h9 | h9 | h9 | hq
    · exact .inl (by rw [h9]; simp)
    · right; omega
    · right; omega
    · right; omega
    · exact .inl (List.mem_cons_of_mem _ (List.mem_append.2 hq))
end Go.Proofs.YtmomohljnmopfaaX
end
section
namespace Go.Proofs.YtmomohljnmopfaaX
open Go.RowKit Go.Lib Go.Proofs.YtmomohljnmopfaaW.PrintWords Go.Proofs.YtmomohljnmopfaaW.PrintLast Go.Proofs.YtmomohljnmopfaaW.PrintMore
set_option linter.unusedVariables false
set_option linter.unusedSimpArgs false
attribute [local go_sem high] eqlNil71 eqlNil72
set_option maxRecDepth 100000 in
set_option maxHeartbeats 8000000 in
theorem putTree_calls {m : Nat} {w : World} {tb : Nat} {l : List KV} {S : List Nat} (x : Nm) (v : ByteArray) (h4 : 4 ≤ m) (hm : m ≤ 64) (hl : l.length ≤ 4611686018427387904) (hT : Tr m w tb l S) : Calls Try.prog 18 #[.pointer (some ⟨tb, 0, none⟩), .string ⟨x.toArray⟩, .string v] w fun e w' =>
    e = .returned (ansG (getF x l)) ∧ TDid m w w' tb S (putF x v l) := by
  obtain ⟨h, t, ⟨root, S0, hb, hn, rfl, hts⟩, hR, rfl⟩ := hT
  obtain ⟨c0, c1, c2⟩ := tree_cells hb
  have cP := put_node m tb x v h4 hm h w root t S0 none none hn hR.1 (fun a ha => by cases ha) (fun a ha => by cases ha) hR.2.1 c0 hts
  have hlen := putF_length (x := x) (v := v) (ok_flat hR.1).1
  obtain ⟨l, hll⟩ : ∃ l, flat h t = l := ⟨_, rfl⟩
  obtain ⟨c', hc'⟩ : ∃ c', putT m h t x v = c' := ⟨_, rfl⟩
  have hG := put_grown (x := x) (v := v) h4 hR
  have hK := put_right (x := x) (v := v) h4 hR
  have hsz := (put_ok (x := x) (v := v) h4 hR.1 (fun a ha => by cases ha) (fun a ha => by cases ha)).2.2.2
  have hR2 := hR.2.1
  rw [hll] at hb hl c1 cP hlen hG hK
  rw [hc'] at cP hG hK hsz
  have A1 := Aside0.mk (And.intro hb (And.intro hts (And.intro hG (And.intro hK (And.intro hsz (And.intro hR2 hlen))))))
  rw [hll]
  have ht0 := blk_lt hb
  clear hb hn hts hR hlen hll hc' hG hK hsz hR2
  obtain ⟨z, hz⟩ : ∃ z, sizeT h c' = z := ⟨_, rfl⟩
  have e30 : IntKind.i64.wrap ((l.length : Int) + 1) = (l.length : Int) + 1 := by rw [i64_w]; unfold wrap64; omega
  clear hl
  generalize getF x l = o at *
  go_enter Try.func18, Try.ntmps18
  go_upto_region 2 with (go_at_call 34; refine cP.mono ?_; rintro e w1 ⟨rfl, S1, n1, f1, s1⟩; have N1 := Aside0.mk (And.intro n1 (And.intro f1 s1)); have HB1 := Aside0.mk (f1.blk A1.out.1 A1.out.2.1); have d0 := (tree_cells HB1.out).1; have d1 := (tree_cells HB1.out).2.1; have d2 := (tree_cells HB1.out).2.2; have df := blk_frozen HB1.out 1; unfold ansG; clear n1 f1 s1)
  have ht1 : tb ∉ S1 := fun h9 => (N1.out.2.2 tb h9).elim A1.out.2.1 (fun h8 => absurd ht0 (Nat.not_lt.2 h8))
  have HT1 := Aside0.mk ht1
  clear c0 c1 c2 cP ht1
  cases o
  case' none =>
    simp only [Option.getD_none, Option.isSome_none]
    go_upto_region 4 with fail
    obtain ⟨W1, hW1⟩ : ∃ W1, w1.setCell ⟨tb, 1, none⟩ (.int .i64 ((l.length : Int) + 1)) = W1 := ⟨_, rfl⟩
    have HBW : Aside0 (W1.heap[tb]? = some (.cells #[.int .i64 m, .int .i64 (putF x v l).length, .pointer (some ⟨root, 0, none⟩)] 76 (0, 0))) := ⟨by rw [← hW1]; exact blk_put HB1.out 1 _ (by rw [A1.out.2.2.2.2.2.2]; rfl)⟩
    have FW : Aside0 (Fr (tb :: S0) w W1 ∧ NodeAt h W1 root c' S1) := ⟨by
      have f9 : Fr [tb] w1 W1 := by rw [← hW1]; exact (Fr.refl [tb] w1).setCell (p := ⟨tb, 1, none⟩) (.inl (by simp)) _
      exact ⟨(N1.out.2.1.mono (T := tb :: S0) (fun k hk => by simp [hk])).trans f9 (fun k hk => by simp only [List.mem_singleton] at hk; rw [hk]; exact .inl (by simp)), node_fr N1.out.1 f9 (fun k hk h9 => by simp only [List.mem_singleton] at h9; exact HT1.out (h9 ▸ hk))⟩⟩
    rw [hW1]
  case' some o =>
    simp only [Option.getD_some, Option.isSome_some]
    go_upto_region 4 with fail
    obtain ⟨W1, hW1⟩ : ∃ W1, w1 = W1 := ⟨_, rfl⟩
    have HBW : Aside0 (W1.heap[tb]? = some (.cells #[.int .i64 m, .int .i64 (putF x v l).length, .pointer (some ⟨root, 0, none⟩)] 76 (0, 0))) := ⟨by rw [← hW1, A1.out.2.2.2.2.2.2]; exact HB1.out⟩
    have FW : Aside0 (Fr (tb :: S0) w W1 ∧ NodeAt h W1 root c' S1) := ⟨by rw [← hW1]; exact ⟨N1.out.2.1.mono (T := tb :: S0) (fun k hk => by simp [hk]), N1.out.1⟩⟩
    rw [hW1]
  all_goals
    clear d0 d1 d2 df
    obtain ⟨d0, d1, d2⟩ := tree_cells HBW.out
    have cZ : ∀ n, Calls Try.prog 35 #[.pointer (some ⟨root, 0, none⟩)] (W1.drewN n) fun e w'' => e = .returned (.int .i64 z) ∧ ∃ m, w'' = W1.drewN m := fun n => (size_calls (node_step (w' := W1.drewN n) FW.out.2 (fun _ _ => rfl))).mono (fun e w' ⟨h1, h2⟩ => ⟨by rw [← hz]; exact h1, n, h2⟩)
    by_cases hbig : m < z
    · have e1 : decide ((m : Int) < (z : Int)) = true := decide_eq_true (by omega)
      have e1' : decide (m < z) = true := decide_eq_true hbig
      have HBIG := Aside0.mk (And.intro hz hbig)
      clear hbig hz hW1
      go_quiet ((go_at_call 35; exact cZ _))
      obtain ⟨W2, hW2⟩ : ∃ W2, W1.drewN nq = W2 := ⟨_, rfl⟩
      have BW : Aside0 (NodeAt h W2 root c' S1 ∧ Fr (tb :: S0) w W2 ∧ W2.heap[tb]? = some (.cells #[.int .i64 m, .int .i64 (putF x v l).length, .pointer (some ⟨root, 0, none⟩)] 76 (0, 0))) := ⟨by rw [← hW2]; exact ⟨node_step FW.out.2 (fun _ _ => rfl), FW.out.1.drewN nq, HBW.out⟩⟩
      rw [hW2]
      clear d0 d1 d2 cZ hW2
      obtain ⟨d0, d1, d2⟩ := tree_cells BW.out.2.2
      have cS := split_calls BW.out.1 (by rw [HBIG.out.1]; have := HBIG.out.2; omega) (by have := A1.out.2.2.2.2.1; have := A1.out.2.2.2.2.2.1; omega)
      go_wp2_with (go_at_call 36; refine cS.mono ?_; rintro e w3 ⟨rb, Sl, Sr, rfl, sp⟩; have SP := Aside0.mk sp; have HB3 := Aside0.mk (sp.2.2.1.blk BW.out.2.2 HT1.out); have g2 := (tree_cells HB3.out).2.2; have gf := blk_frozen HB3.out 2; have g2a : ∀ o1 o2 o3, (((w3.alloc o1).alloc o2).alloc o3).cell? ⟨tb, 2, none⟩ = some (.pointer (some ⟨root, 0, none⟩)) := (fun o1 o2 o3 => (tree_cells (blk_alloc (blk_alloc (blk_alloc HB3.out o1) o2) o3)).2.2); have gfa : ∀ o1 o2 o3, (((w3.alloc o1).alloc o2).alloc o3).frozen? ⟨tb, 2, none⟩ = false := (fun o1 o2 o3 => blk_frozen (blk_alloc (blk_alloc (blk_alloc HB3.out o1) o2) o3) 2); clear sp)
      go_ret2
      have h9 := HBIG.out
      rw [← h9.1] at h9
      obtain ⟨R1, R2⟩ := A1.out.2.2.1 h9.2
      obtain ⟨q1, q2, q3, q4, q5⟩ := SP.out
      have upS : ∀ k ∈ S1, k ∈ tb :: S0 ∨ w.heap.size ≤ k := fun k hk => (N1.out.2.2 k hk).imp (fun h8 => List.mem_cons_of_mem _ h8) id
      have hz9 := BW.out.2.1.size
      have ltb : tb < W2.heap.size := blk_lt BW.out.2.2
      have upR : ∀ k ∈ Sl ++ Sr, k ∈ tb :: S0 ∨ w.heap.size ≤ k := fun k hk => (q4 k hk).elim (upS k) (fun h8 => .inr (by omega))
      have htb : tb ∉ Sl ++ Sr := fun h8 => (q4 tb h8).elim HT1.out (fun h7 => by omega)
      obtain ⟨S', hA, hF, hs'⟩ := new_root (m := m) (k := (splitT h c').2.1) HB3.out q1 q2 q5 htb (by rw [R2])
      refine ⟨rfl, S', ⟨h + 1, mkT [(splitT h c').2.1] [(splitT h c').1, (splitT h c').2.2], hA, R1, R2⟩, ?_, fun k hk => ?_⟩
      · exact (BW.out.2.1.trans q3 (fun k hk => upS k hk)).trans hF (fun k hk => by simp only [List.mem_singleton] at hk; rw [hk]; exact .inl (by simp))
      · have hz8 := q3.size
        rcases hs' k hk with h8 | h8
        · rcases List.mem_cons.1 h8 with rfl | h8
          · exact .inl (by simp)
          · exact upR k h8
        · exact .inr (by omega)
    · have e1 : decide ((m : Int) < (z : Int)) = false := decide_eq_false (by omega)
      have e1' : decide (m < z) = false := decide_eq_false hbig
      have HBIG := Aside0.mk (And.intro hz hbig)
      clear hbig hz hW1
      go_quiet ((go_at_call 35; exact cZ _))
      go_wp2
      go_ret2
      have h9 := HBIG.out
      rw [← h9.1] at h9
      obtain ⟨R1, R2⟩ := A1.out.2.2.2.1 h9.2
      refine ⟨rfl, tb :: S1, ⟨h, c', ⟨root, S1, by rw [R2]; exact HBW.out, node_step FW.out.2 (fun _ _ => rfl), rfl, HT1.out⟩, R1, R2⟩, FW.out.1.drewN nq, fun k hk => ?_⟩
      rcases List.mem_cons.1 hk with rfl | hk
      · exact .inl (by simp)
      · exact (N1.out.2.2 k hk).imp (fun h8 => List.mem_cons_of_mem _ h8) id
end Go.Proofs.YtmomohljnmopfaaX
end
section
namespace Go.Proofs.YtmomohljnmopfaaX
open Go.RowKit Go.Lib Go.Proofs.YtmomohljnmopfaaW.PrintWords Go.Proofs.YtmomohljnmopfaaW.PrintLast Go.Proofs.YtmomohljnmopfaaW.PrintMore
set_option linter.unusedVariables false
set_option linter.unusedSimpArgs false
def nc (leaf : Bool) (kv xv : Value) : Array Value := if leaf then #[kv, xv, .slice none 0 0] else #[kv, .slice none 0 0, xv]
def ix (leaf : Bool) : Nat := if leaf then 1 else 2
def el (leaf : Bool) : TypeId := if leaf then 9 else 70
def oN (b : Nat) (kv xv : Value) : List Nat := b :: (kv.ownBlock.toList ++ xv.ownBlock.toList)
structure Bt (leaf : Bool) (w : World) (b lb rb : Nat) (kn cn kl xl kr xr : Value) (xsn ysn xsl ysl xsr ysr : List Value) (R : List Nat) : Prop where
  hn : w.heap[b]? = some (.cells (nc false kn cn) 74 (0, 0))
  hl : w.heap[lb]? = some (.cells (nc leaf kl xl) 74 (0, 0))
  hr : w.heap[rb]? = some (.cells (nc leaf kr xr) 74 (0, 0))
  kn_ : RowV 9 w kn xsn
  cn_ : RowV 70 w cn ysn
  kl_ : RowV 9 w kl xsl
  xl_ : RowV (el leaf) w xl ysl
  kr_ : RowV 9 w kr xsr
  xr_ : RowV (el leaf) w xr ysr
  nd : (oN b kn cn ++ (oN lb kl xl ++ (oN rb kr xr ++ R))).Nodup
  rlt : ∀ k ∈ R, k < w.heap.size
/-- Own blocks turn into own blocks. -/
structure Mv (O : List Nat) (w : World) (O' : List Nat) (w' : World) : Prop where
  fr : Fr O w w'
  sub : ∀ k ∈ O', k ∈ O ∨ w.heap.size ≤ k
theorem Mv.refl (O : List Nat) (w : World) : Mv O w O w := ⟨Fr.refl _ _, fun k hk => .inl hk⟩
theorem Mv.trans {O O' O'' : List Nat} {w w' w'' : World} (h : Mv O w O' w') (k : Mv O' w' O'' w'') : Mv O w O'' w'' :=
  ⟨h.fr.trans k.fr h.sub, fun x hx => (k.sub x hx).elim (h.sub x) (fun h9 => .inr (Nat.le_trans h.fr.size h9))⟩
abbrev o3 (b lb rb : Nat) (kn cn kl xl kr xr : Value) : List Nat := oN b kn cn ++ (oN lb kl xl ++ oN rb kr xr)
theorem nc_put (leaf : Bool) (kv xv kv' xv' : Value) : ((nc leaf kv xv).setIfInBounds 0 kv').setIfInBounds (ix leaf) xv' = nc leaf kv' xv' := by cases leaf <;> rfl
theorem nd_perm {A B : List Nat} (h : A.Nodup) (hp : ∀ a, A.count a = B.count a) : B.Nodup := (List.Perm.nodup_iff (List.perm_iff_count.2 hp)).1 h
section
variable {leaf : Bool} {w w3 : World} {b lb rb : Nat} {kn cn kl xl kr xr : Value} {xsn ysn xsl ysl xsr ysr : List Value} {R : List Nat}
theorem Bt.lt (h : Bt leaf w b lb rb kn cn kl xl kr xr xsn ysn xsl ysl xsr ysr R) : ∀ k ∈ oN b kn cn ++ (oN lb kl xl ++ (oN rb kr xr ++ R)), k < w.heap.size := fun k hk => by
  simp only [oN, List.mem_append, List.mem_cons] at hk
  rcases hk with (rfl | hk | hk) | (rfl | hk | hk) | (rfl | hk | hk) | hk
  · exact blk_lt h.hn
  · exact h.kn_.lt k hk
  · exact h.cn_.lt k hk
  · exact blk_lt h.hl
  · exact h.kl_.lt k hk
  · exact h.xl_.lt k hk
  · exact blk_lt h.hr
  · exact h.kr_.lt k hk
  · exact h.xr_.lt k hk
  · exact h.rlt k hk
theorem Bt.twoR (h : Bt leaf w b lb rb kn cn kl xl kr xr xsn ysn xsl ysl xsr ysr R) : Two w rb kr xr (oN b kn cn ++ (oN lb kl xl ++ R)) :=
  ⟨blk_lt h.hr, h.kr_.lt, h.xr_.lt, fun k hk => h.lt k (by simp only [List.mem_append] at hk ⊢; rcases hk with hk | hk | hk <;> simp [hk]), nd_perm h.nd (fun a => by simp only [oN, List.count_append, List.count_cons]; omega)⟩
theorem Bt.twoL (h : Bt leaf w b lb rb kn cn kl xl kr xr xsn ysn xsl ysl xsr ysr R) : Two w lb kl xl (oN b kn cn ++ (oN rb kr xr ++ R)) :=
  ⟨blk_lt h.hl, h.kl_.lt, h.xl_.lt, fun k hk => h.lt k (by simp only [List.mem_append] at hk ⊢; rcases hk with hk | hk | hk <;> simp [hk]), nd_perm h.nd (fun a => by simp only [oN, List.count_append, List.count_cons]; omega)⟩
theorem Bt.twoN (h : Bt leaf w b lb rb kn cn kl xl kr xr xsn ysn xsl ysl xsr ysr R) : Two w b kn cn (oN lb kl xl ++ (oN rb kr xr ++ R)) :=
  ⟨blk_lt h.hn, h.kn_.lt, h.cn_.lt, fun k hk => h.lt k (List.mem_append_right _ hk), nd_perm h.nd (fun a => by simp only [oN, List.count_append, List.count_cons]; omega)⟩
/-- The right kid's rows are turned. -/
theorem Bt.turnR (h : Bt leaf w b lb rb kn cn kl xl kr xr xsn ysn xsl ysl xsr ysr R) {kr' xr' : Value} {xsr' ysr' : List Value} (dn : Done 9 (el leaf) w w3 rb kr kr' xsr' xr xr' ysr' (oN b kn cn ++ (oN lb kl xl ++ R))) :
    Bt leaf ((w3.setCell ⟨rb, 0, none⟩ kr').setCell ⟨rb, ix leaf, none⟩ xr') b lb rb kn cn kl xl kr' xr' xsn ysn xsl ysl xsr' ysr' R ∧
      Mv (o3 b lb rb kn cn kl xl kr xr) w (o3 b lb rb kn cn kl xl kr' xr') ((w3.setCell ⟨rb, 0, none⟩ kr').setCell ⟨rb, ix leaf, none⟩ xr') := by
  obtain ⟨W, hW⟩ : ∃ W, (w3.setCell ⟨rb, 0, none⟩ kr').setCell ⟨rb, ix leaf, none⟩ xr' = W := ⟨_, rfl⟩
  have hf : Fr [rb] w3 W := by rw [← hW]; exact ((Fr.refl [rb] w3).setCell (p := ⟨rb, 0, none⟩) (.inl (by simp)) _).setCell (p := ⟨rb, ix leaf, none⟩) (.inl (by simp)) _
  have T := h.twoR
  have hB : W.heap[rb]? = some (.cells (nc leaf kr' xr') 74 (0, 0)) := by rw [← hW, ← nc_put leaf kr xr kr' xr']; exact blk_put (blk_put (dn.blk T h.hr) 0 _ rfl) (ix leaf) _ rfl
  rw [hW]
  obtain ⟨r1, r2⟩ := dn.stored hf
  have hnd := dn.nd
  have hne : ∀ q ∈ oN b kn cn ++ (oN lb kl xl ++ R), q ≠ rb := fun q hq e => (List.nodup_cons.1 hnd).1 (by rw [← e]; exact List.mem_append_right _ (List.mem_append_right _ hq))
  have keep : ∀ q ∈ oN b kn cn ++ (oN lb kl xl ++ R), W.heap[q]? = w.heap[q]? := fun q hq => (hf.block q (Nat.lt_of_lt_of_le (T.rlt q hq) dn.fr.size) (by simp only [List.mem_singleton]; exact hne q hq)).trans (dn.rest T q hq)
  have hsz : w.heap.size ≤ W.heap.size := Nat.le_trans dn.fr.size hf.size
  refine ⟨⟨(keep b (by simp [oN])).trans h.hn, (keep lb (by simp [oN])).trans h.hl, hB, h.kn_.step (fun k hk => keep k (by simp only [oN, List.mem_append, List.mem_cons]; simp [hk])), h.cn_.step (fun k hk => keep k (by simp only [oN, List.mem_append, List.mem_cons]; simp [hk])), h.kl_.step (fun k hk => keep k (by simp only [oN, List.mem_append, List.mem_cons]; simp [hk])), h.xl_.step (fun k hk => keep k (by simp only [oN, List.mem_append, List.mem_cons]; simp [hk])), r1, r2, nd_perm hnd (fun a => by simp only [oN, List.count_append, List.count_cons]; omega), fun k hk => Nat.lt_of_lt_of_le (h.rlt k hk) hsz⟩, ?_, fun k hk => ?_⟩
  · refine (dn.fr.mono (T := o3 b lb rb kn cn kl xl kr xr) (fun q hq => ?_)).trans hf (fun y hy => .inl (by simp only [List.mem_singleton] at hy; rw [hy]; simp [o3, oN]))
    simp only [o3, oN, List.mem_append, List.mem_cons] at hq ⊢
    rcases hq with hq | hq <;> simp [hq]
  · simp only [o3, oN, List.mem_append, List.mem_cons] at hk ⊢
    rcases hk with hk | hk | hk | hk | hk
    · exact .inl (.inl hk)
    · exact .inl (.inr (.inl hk))
    · exact .inl (.inr (.inr (.inl hk)))
    · exact (dn.sub1 k hk).imp (fun h9 => .inr (.inr (.inr (.inl h9)))) id
    · exact (dn.sub2 k hk).imp (fun h9 => .inr (.inr (.inr (.inr h9)))) id
/-- The left kid's rows are turned. -/
theorem Bt.turnL (h : Bt leaf w b lb rb kn cn kl xl kr xr xsn ysn xsl ysl xsr ysr R) {kl' xl' : Value} {xsl' ysl' : List Value} (dn : Done 9 (el leaf) w w3 lb kl kl' xsl' xl xl' ysl' (oN b kn cn ++ (oN rb kr xr ++ R))) :
    Bt leaf ((w3.setCell ⟨lb, 0, none⟩ kl').setCell ⟨lb, ix leaf, none⟩ xl') b lb rb kn cn kl' xl' kr xr xsn ysn xsl' ysl' xsr ysr R ∧
      Mv (o3 b lb rb kn cn kl xl kr xr) w (o3 b lb rb kn cn kl' xl' kr xr) ((w3.setCell ⟨lb, 0, none⟩ kl').setCell ⟨lb, ix leaf, none⟩ xl') := by
  obtain ⟨W, hW⟩ : ∃ W, (w3.setCell ⟨lb, 0, none⟩ kl').setCell ⟨lb, ix leaf, none⟩ xl' = W := ⟨_, rfl⟩
  have hf : Fr [lb] w3 W := by rw [← hW]; exact ((Fr.refl [lb] w3).setCell (p := ⟨lb, 0, none⟩) (.inl (by simp)) _).setCell (p := ⟨lb, ix leaf, none⟩) (.inl (by simp)) _
  have T := h.twoL
  have hB : W.heap[lb]? = some (.cells (nc leaf kl' xl') 74 (0, 0)) := by rw [← hW, ← nc_put leaf kl xl kl' xl']; exact blk_put (blk_put (dn.blk T h.hl) 0 _ rfl) (ix leaf) _ rfl
  rw [hW]
  obtain ⟨r1, r2⟩ := dn.stored hf
  have hnd := dn.nd
  have hne : ∀ q ∈ oN b kn cn ++ (oN rb kr xr ++ R), q ≠ lb := fun q hq e => (List.nodup_cons.1 hnd).1 (by rw [← e]; exact List.mem_append_right _ (List.mem_append_right _ hq))
  have keep : ∀ q ∈ oN b kn cn ++ (oN rb kr xr ++ R), W.heap[q]? = w.heap[q]? := fun q hq => (hf.block q (Nat.lt_of_lt_of_le (T.rlt q hq) dn.fr.size) (by simp only [List.mem_singleton]; exact hne q hq)).trans (dn.rest T q hq)
  have hsz : w.heap.size ≤ W.heap.size := Nat.le_trans dn.fr.size hf.size
  refine ⟨⟨(keep b (by simp [oN])).trans h.hn, hB, (keep rb (by simp [oN])).trans h.hr, h.kn_.step (fun k hk => keep k (by simp only [oN, List.mem_append, List.mem_cons]; simp [hk])), h.cn_.step (fun k hk => keep k (by simp only [oN, List.mem_append, List.mem_cons]; simp [hk])), r1, r2, h.kr_.step (fun k hk => keep k (by simp only [oN, List.mem_append, List.mem_cons]; simp [hk])), h.xr_.step (fun k hk => keep k (by simp only [oN, List.mem_append, List.mem_cons]; simp [hk])), nd_perm hnd (fun a => by simp only [oN, List.count_append, List.count_cons]; omega), fun k hk => Nat.lt_of_lt_of_le (h.rlt k hk) hsz⟩, ?_, fun k hk => ?_⟩
  · refine (dn.fr.mono (T := o3 b lb rb kn cn kl xl kr xr) (fun q hq => ?_)).trans hf (fun y hy => .inl (by simp only [List.mem_singleton] at hy; rw [hy]; simp [o3, oN]))
    simp only [o3, oN, List.mem_append, List.mem_cons] at hq ⊢
    rcases hq with hq | hq <;> simp [hq]
  · simp only [o3, oN, List.mem_append, List.mem_cons] at hk ⊢
    rcases hk with hk | (hk | hk | hk) | hk
    · exact .inl (.inl hk)
    · exact .inl (.inr (.inl (.inl hk)))
    · exact (dn.sub1 k hk).imp (fun h9 => .inr (.inl (.inr (.inl h9)))) id
    · exact (dn.sub2 k hk).imp (fun h9 => .inr (.inl (.inr (.inr h9)))) id
    · exact .inl (.inr (.inr hk))
theorem Done.swap {e e2 : TypeId} {kv kv' cv cv' : Value} {xs' ys' : List Value} (h : Done e e2 w w3 b kv kv' xs' cv cv' ys' R) : Done e2 e w w3 b cv cv' ys' kv kv' xs' R :=
  ⟨h.row2, h.row1, h.fr.mono (fun x hx => by simp only [List.mem_append] at hx ⊢; exact hx.symm), nd_perm h.nd (fun a => by simp only [List.count_append, List.count_cons]; omega), h.sub2, h.sub1⟩
theorem Two.swap {kv cv : Value} (h : Two w b kv cv R) : Two w b cv kv R := ⟨h.blt, h.clt, h.klt, h.rlt, nd_perm h.nd (fun a => by simp only [List.count_append, List.count_cons]; omega)⟩
/-- Both rows are cut. -/
theorem cut_done {e e2 : TypeId} {kv cv kv' cv' : Value} {xs' ys' : List Value} (T : Two w b kv cv R) (h1 : RowV e w kv' xs') (h2 : RowV e2 w cv' ys') (o1 : kv'.ownBlock = kv.ownBlock) (o2 : cv'.ownBlock = cv.ownBlock) : Done e e2 w w b kv kv' xs' cv cv' ys' R :=
  ⟨h1, h2, Fr.refl _ _, by rw [o1, o2]; exact T.nd, fun k hk => .inl (by rw [← o1]; exact hk), fun k hk => .inl (by rw [← o2]; exact hk)⟩
/-- A separator is another one. -/
theorem Bt.setN {gn n c : Nat} (h : Bt leaf w b lb rb (.slice (some ⟨gn, 0, none⟩) n c) cn kl xl kr xr xsn ysn xsl ysl xsr ysr R) {i : Nat} {u : Value} (hi : i < xsn.length) (hu : u.oneCell' = true) :
    Bt leaf (w.setCell ⟨gn, i, none⟩ u) b lb rb (.slice (some ⟨gn, 0, none⟩) n c) cn kl xl kr xr (xsn.set i u) ysn xsl ysl xsr ysr R ∧
      Mv (o3 b lb rb (.slice (some ⟨gn, 0, none⟩) n c) cn kl xl kr xr) w (o3 b lb rb (.slice (some ⟨gn, 0, none⟩) n c) cn kl xl kr xr) (w.setCell ⟨gn, i, none⟩ u) := by
  have hnd : (gn :: (b :: (cn.ownBlock.toList ++ (oN lb kl xl ++ (oN rb kr xr ++ R))))).Nodup := nd_perm h.nd (fun a => by simp only [oN, Value.ownBlock, Option.toList_some, List.count_append, List.count_cons, List.count_nil]; omega)
  have hne : ∀ q ∈ b :: (cn.ownBlock.toList ++ (oN lb kl xl ++ (oN rb kr xr ++ R))), q ≠ gn := fun q hq e => (List.nodup_cons.1 hnd).1 (e ▸ hq)
  have keep : ∀ q ∈ b :: (cn.ownBlock.toList ++ (oN lb kl xl ++ (oN rb kr xr ++ R))), (w.setCell ⟨gn, i, none⟩ u).heap[q]? = w.heap[q]? := fun q hq => Below.heap_setCell w ⟨gn, i, none⟩ u q (hne q hq)
  refine ⟨⟨(keep b (by simp)).trans h.hn, (keep lb (by simp [oN])).trans h.hl, (keep rb (by simp [oN])).trans h.hr, h.kn_.put hi hu, h.cn_.step (fun k hk => keep k (by simp only [oN, List.mem_append, List.mem_cons]; simp [hk])), h.kl_.step (fun k hk => keep k (by simp only [oN, List.mem_append, List.mem_cons]; simp [hk])), h.xl_.step (fun k hk => keep k (by simp only [oN, List.mem_append, List.mem_cons]; simp [hk])), h.kr_.step (fun k hk => keep k (by simp only [oN, List.mem_append, List.mem_cons]; simp [hk])), h.xr_.step (fun k hk => keep k (by simp only [oN, List.mem_append, List.mem_cons]; simp [hk])), h.nd, fun k hk => by simpa using h.rlt k hk⟩, (Fr.refl _ w).setCell (p := ⟨gn, i, none⟩) (.inl (by simp [o3, oN, Value.ownBlock])) _, fun k hk => .inl hk⟩
end
end Go.Proofs.YtmomohljnmopfaaX
end
section
namespace Go.Proofs.YtmomohljnmopfaaX
open Go.RowKit Go.Lib Go.Proofs.YtmomohljnmopfaaW.PrintWords Go.Proofs.YtmomohljnmopfaaW.PrintLast Go.Proofs.YtmomohljnmopfaaW.PrintMore
set_option linter.unusedVariables false
set_option linter.unusedSimpArgs false
theorem kids_two {α : Type} {R : Nat → α → List Nat → Prop} {l r : α} {C2 : List α} : ∀ {bs : List Nat} {C1 : List α} {S : List Nat}, KidsAt R bs (C1 ++ l :: r :: C2) S →
    ∃ B1 lb rb B2 S1 Sl Sr S3, bs = B1 ++ lb :: rb :: B2 ∧ B1.length = C1.length ∧ KidsAt R B1 C1 S1 ∧ R lb l Sl ∧ R rb r Sr ∧ KidsAt R B2 C2 S3 ∧ S = S1 ++ (Sl ++ (Sr ++ S3))
  | b :: b2 :: bs, [], S, ⟨Sl, T, h1, ⟨Sr, S3, h2, h3, h4⟩, h5⟩ => ⟨[], b, b2, bs, [], Sl, Sr, S3, rfl, rfl, rfl, h1, h2, h3, by rw [h5, h4]; rfl⟩
  | b :: bs, c :: C1, S, ⟨T1, T, h1, h2, h3⟩ => by
    obtain ⟨B1, lb, rb, B2, S1, Sl, Sr, S3, k1, k2, k3, k4, k5, k6, k7⟩ := kids_two h2
    exact ⟨b :: B1, lb, rb, B2, T1 ++ S1, Sl, Sr, S3, by rw [k1]; rfl, by rw [List.length_cons, List.length_cons, k2], ⟨T1, S1, h1, k3, rfl⟩, k4, k5, k6, by rw [h3, k7, List.append_assoc]⟩
  | [], [], S, h => h.elim
  | [], c :: C1, S, h => h.elim
  | [b], [], S, ⟨Sl, T, h1, h2, h3⟩ => h2.elim
section
variable {w : World} {b : Nat} {S : List Nat} {A B : List Nm} {s : Nm}
/-- What is known of the rest of a node. -/
structure Around (h : Nat) (w : World) (B1 B2 : List Nat) (C1 C2 : List (T h)) (S1 S3 : List Nat) : Prop where
  left : KidsAt (NodeAt h w) B1 C1 S1
  right : KidsAt (NodeAt h w) B2 C2 S3
theorem Around.step {h : Nat} {w w' : World} {B1 B2 : List Nat} {C1 C2 : List (T h)} {S1 S3 : List Nat} (a : Around h w B1 B2 C1 C2 S1 S3) (hb : ∀ k ∈ S1 ++ S3, w'.heap[k]? = w.heap[k]?) : Around h w' B1 B2 C1 C2 S1 S3 :=
  ⟨kids_imp a.left (fun b' c' T hs hr => node_step hr (fun k hk => hb k (List.mem_append_left _ (hs k hk)))), kids_imp a.right (fun b' c' T hs hr => node_step hr (fun k hk => hb k (List.mem_append_right _ (hs k hk))))⟩
theorem openL {l r : T 0} {C1 C2 : List (T 0)} (hh : NodeAt 1 w b (mkT (h := 0) (A ++ s :: B) (C1 ++ l :: r :: C2)) S) :
    ∃ B1 lb rb B2 kn cn kl xl kr xr S1 S3, B1.length = C1.length ∧ (B1 ++ lb :: rb :: B2).length = (A ++ s :: B).length + 1 ∧ Around 0 w B1 B2 C1 C2 S1 S3 ∧ Bt true w b lb rb kn cn kl xl kr xr (encKs (A ++ s :: B)) ((B1 ++ lb :: rb :: B2).map encP) (encKs (keysOf l)) (encVs l) (encKs (keysOf r)) (encVs r) (S1 ++ S3) ∧ ∀ k, k ∈ S ↔ k ∈ o3 b lb rb kn cn kl xl kr xr ++ (S1 ++ S3) := by
  have H := hh
  obtain ⟨kn, cn, bs, S2, hb, hk, hv, hkids, hlen, hS, hn⟩ := hh
  have hbl := kids_len hkids
  obtain ⟨B1, lb, rb, B2, S1, Sl, Sr, S3, k1, k2, k3, k4, k5, k6, k7⟩ := kids_two hkids
  obtain ⟨kl, xl, hl1, hl2, hl3, hl4, hl5⟩ := k4
  obtain ⟨kr, xr, hr1, hr2, hr3, hr4, hr5⟩ := k5
  have hlt := node_lt H
  have e : ∀ k, k ∈ S ↔ k ∈ o3 b lb rb kn cn kl xl kr xr ++ (S1 ++ S3) := fun k => by
    rw [hS, k7, hl4, hr4]
    simp only [o3, oN, List.mem_append, List.mem_cons]
    grind
  refine ⟨B1, lb, rb, B2, kn, cn, kl, xl, kr, xr, S1, S3, k2, by rw [← k1, hbl]; exact hlen, ⟨k3, k6⟩, ⟨hb, hl1, hr1, hk, by rw [← k1]; exact hv, hl2, hl3, hr2, hr3, nd_perm hn (fun a => by rw [hS, k7, hl4, hr4]; simp only [oN, List.count_append, List.count_cons]; omega), fun k hk => hlt k ((e k).2 (List.mem_append_right _ hk))⟩, e⟩
theorem openI {g : Nat} {l r : T (g + 1)} {C1 C2 : List (T (g + 1))} (hh : NodeAt (g + 2) w b (mkT (h := g + 1) (A ++ s :: B) (C1 ++ l :: r :: C2)) S) :
    ∃ B1 lb rb B2 kn cn kl xl kr xr S1 S3 bl br SS, B1.length = C1.length ∧ (B1 ++ lb :: rb :: B2).length = (A ++ s :: B).length + 1 ∧ Around (g + 1) w B1 B2 C1 C2 S1 S3 ∧ KidsAt (NodeAt g w) (bl ++ br) (l.2 ++ r.2) SS ∧ bl.length = l.2.length ∧ br.length = r.2.length ∧ l.2.length = l.1.length + 1 ∧ r.2.length = r.1.length + 1 ∧
      Bt false w b lb rb kn cn kl xl kr xr (encKs (A ++ s :: B)) ((B1 ++ lb :: rb :: B2).map encP) (encKs l.1) (bl.map encP) (encKs r.1) (br.map encP) (S1 ++ (SS ++ S3)) ∧ ∀ k, k ∈ S ↔ k ∈ o3 b lb rb kn cn kl xl kr xr ++ (S1 ++ (SS ++ S3)) := by
  have H := hh
  obtain ⟨kn, cn, bs, S2, hb, hk, hv, hkids, hlen, hS, hn⟩ := hh
  have hbl := kids_len hkids
  obtain ⟨B1, lb, rb, B2, S1, Sl, Sr, S3, k1, k2, k3, k4, k5, k6, k7⟩ := kids_two hkids
  obtain ⟨kl, xl, bl, Tl, hl1, hl2, hl3, hlk, hll, hl4, hl5⟩ := k4
  obtain ⟨kr, xr, br, Tr_, hr1, hr2, hr3, hrk, hrl, hr4, hr5⟩ := k5
  have hlt := node_lt H
  have e : ∀ k, k ∈ S ↔ k ∈ o3 b lb rb kn cn kl xl kr xr ++ (S1 ++ ((Tl ++ Tr_) ++ S3)) := fun k => by
    rw [hS, k7, hl4, hr4]
    simp only [o3, oN, List.mem_append, List.mem_cons]
    grind
  refine ⟨B1, lb, rb, B2, kn, cn, kl, xl, kr, xr, S1, S3, bl, br, Tl ++ Tr_, k2, by rw [← k1, hbl]; exact hlen, ⟨k3, k6⟩, kids_app hlk hrk, kids_len hlk, kids_len hrk, hll, hrl, ⟨hb, hl1, hr1, hk, by rw [← k1]; exact hv, hl2, hl3, hr2, hr3, nd_perm hn (fun a => by rw [hS, k7, hl4, hr4]; simp only [oN, List.count_append, List.count_cons]; omega), fun k hk => hlt k ((e k).2 (List.mem_append_right _ hk))⟩, e⟩
/-- The kids' rows are those of two leaves again. -/
theorem closeL {lb rb : Nat} {kn cn kl xl kr xr : Value} {ks : List Nm} {B1 B2 S1 S3 : List Nat} {l r : T 0} {C1 C2 : List (T 0)} (hl : (B1 ++ lb :: rb :: B2).length = ks.length + 1) (ar : Around 0 w B1 B2 C1 C2 S1 S3)
    (bt : Bt true w b lb rb kn cn kl xl kr xr (encKs ks) ((B1 ++ lb :: rb :: B2).map encP) (encKs (keysOf l)) (encVs l) (encKs (keysOf r)) (encVs r) (S1 ++ S3)) :
    ∃ S', NodeAt 1 w b (mkT (h := 0) ks (C1 ++ l :: r :: C2)) S' ∧ ∀ k, k ∈ S' ↔ k ∈ o3 b lb rb kn cn kl xl kr xr ++ (S1 ++ S3) := by
  have e1 := kids_len ar.left
  have e2 := kids_len ar.right
  have nl : (oN lb kl xl).Nodup := (List.nodup_append.1 (List.nodup_append.1 bt.nd).2.1).1
  have nr : (oN rb kr xr).Nodup := (List.nodup_append.1 (List.nodup_append.1 (List.nodup_append.1 bt.nd).2.1).2.1).1
  have hL : LeafAt w lb l (oN lb kl xl) := ⟨kl, xl, bt.hl, bt.kl_, bt.xl_, rfl, nl⟩
  have hR : LeafAt w rb r (oN rb kr xr) := ⟨kr, xr, bt.hr, bt.kr_, bt.xr_, rfl, nr⟩
  have hk : KidsAt (NodeAt 0 w) (B1 ++ lb :: rb :: B2) (C1 ++ l :: r :: C2) (S1 ++ (oN lb kl xl ++ (oN rb kr xr ++ S3))) := kids_app ar.left ⟨_, _, hL, ⟨_, _, hR, ar.right, rfl⟩, rfl⟩
  refine ⟨b :: (kn.ownBlock.toList ++ (cn.ownBlock.toList ++ (S1 ++ (oN lb kl xl ++ (oN rb kr xr ++ S3))))), ⟨kn, cn, _, _, bt.hn, bt.kn_, bt.cn_, hk, ?_, rfl, nd_perm bt.nd (fun a => by simp only [oN, List.count_append, List.count_cons]; omega)⟩, fun k => ?_⟩
  · show (C1 ++ l :: r :: C2 : List (T 0)).length = ks.length + 1
    rw [← hl]
    simp only [List.length_append, List.length_cons]; omega
  · simp only [o3, oN, List.mem_append, List.mem_cons]
    grind
/-- The kids' rows are those of two inner nodes again. -/
theorem closeI {g lb rb : Nat} {kn cn kl xl kr xr : Value} {ks : List Nm} {B1 B2 S1 S3 bl br SS : List Nat} {l r : T (g + 1)} {C1 C2 : List (T (g + 1))} (hl : (B1 ++ lb :: rb :: B2).length = ks.length + 1) (ar : Around (g + 1) w B1 B2 C1 C2 S1 S3)
    (hkk : KidsAt (NodeAt g w) (bl ++ br) (l.2 ++ r.2) SS) (l1 : bl.length = l.2.length) (l2 : l.2.length = l.1.length + 1) (l3 : r.2.length = r.1.length + 1)
    (bt : Bt false w b lb rb kn cn kl xl kr xr (encKs ks) ((B1 ++ lb :: rb :: B2).map encP) (encKs l.1) (bl.map encP) (encKs r.1) (br.map encP) (S1 ++ (SS ++ S3))) :
    ∃ S', NodeAt (g + 2) w b (mkT (h := g + 1) ks (C1 ++ l :: r :: C2)) S' ∧ ∀ k, k ∈ S' ↔ k ∈ o3 b lb rb kn cn kl xl kr xr ++ (S1 ++ (SS ++ S3)) := by
  have e1 := kids_len ar.left
  have e2 := kids_len ar.right
  obtain ⟨Sa, Sb, ka, kb, hab⟩ := kids_split bl.length hkk
  rw [List.take_left, List.take_left' l1.symm] at ka
  rw [List.drop_left, List.drop_left' l1.symm] at kb
  subst hab
  have hnd : ((oN lb kl xl ++ Sa) ++ ((oN rb kr xr ++ Sb) ++ (oN b kn cn ++ (S1 ++ S3)))).Nodup := nd_perm bt.nd (fun a => by simp only [oN, List.count_append, List.count_cons]; omega)
  have nl := (List.nodup_append.1 hnd).1
  have nr := (List.nodup_append.1 (List.nodup_append.1 hnd).2.1).1
  have hL : NodeAt (g + 1) w lb l (oN lb kl xl ++ Sa) := ⟨kl, xl, bl, Sa, bt.hl, bt.kl_, bt.xl_, ka, l2, by simp [oN], nl⟩
  have hR : NodeAt (g + 1) w rb r (oN rb kr xr ++ Sb) := ⟨kr, xr, br, Sb, bt.hr, bt.kr_, bt.xr_, kb, l3, by simp [oN], nr⟩
  have hk : KidsAt (NodeAt (g + 1) w) (B1 ++ lb :: rb :: B2) (C1 ++ l :: r :: C2) (S1 ++ ((oN lb kl xl ++ Sa) ++ ((oN rb kr xr ++ Sb) ++ S3))) := kids_app ar.left ⟨_, _, hL, ⟨_, _, hR, ar.right, rfl⟩, rfl⟩
  refine ⟨b :: (kn.ownBlock.toList ++ (cn.ownBlock.toList ++ (S1 ++ ((oN lb kl xl ++ Sa) ++ ((oN rb kr xr ++ Sb) ++ S3))))), ⟨kn, cn, _, _, bt.hn, bt.kn_, bt.cn_, hk, ?_, rfl, nd_perm bt.nd (fun a => by simp only [oN, List.count_append, List.count_cons]; omega)⟩, fun k => ?_⟩
  · show (C1 ++ l :: r :: C2 : List (T (g + 1))).length = ks.length + 1
    rw [← hl]
    simp only [List.length_append, List.length_cons]; omega
  · simp only [o3, oN, List.mem_append, List.mem_cons]
    grind
end
end Go.Proofs.YtmomohljnmopfaaX
end
