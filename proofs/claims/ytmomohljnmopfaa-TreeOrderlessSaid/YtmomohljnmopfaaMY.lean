/- Several texts in one: YC; no conditions beyond those in each theorem's head. -/
import Derived.Test.YtmomohljnmopfaaMX
import Derived.Test.YtmomohljnmopfaaMQ
import Derived.Test.YtmomohljnmopfaaMK
import Derived.Test.YtmomohljnmopfaaMO
section
namespace Go.Proofs.YtmomohljnmopfaaX
open Go.RowKit Go.Lib Go.Proofs.YtmomohljnmopfaaW.PrintWords Go.Proofs.YtmomohljnmopfaaW.PrintLast Go.Proofs.YtmomohljnmopfaaW.PrintMore
open Go.Proofs.Ytmomohljnmopfaa.PTreeParts (S40 k40)
set_option linter.unusedVariables false
set_option linter.unusedSimpArgs false
/-- Where the loop of TreeOrderless stands. -/
structure OrdAt (l la lb : List KV) (n i : Nat) : Prop where
  fa : ∀ x, getF x la = getF x (l.take i)
  fb : ∀ x, getF x lb = getF x (l.drop (n - i))
  na : la.length ≤ i
  nb : lb.length ≤ i
theorem ordAt_had {l la lb : List KV} {n i : Nat} {p q : KV} (h : OrdAt l la lb n i) (hn : l.length = n) (hi : i < n) (hp : l[i]? = some p) (hq : l[n - 1 - i]? = some q) (hb : Rises lb) (had : (getF p.1 la).isSome = true) : OrdAt l la (putF q.1 q.2 lb) n (i + 1) := by
  have hlb := putF_length (x := q.1) (v := q.2) hb
  refine ⟨fun x => ?_, fun x => ?_, Nat.le_succ_of_le h.na, by have := h.nb; split at hlb <;> omega⟩
  · rw [h.fa, List.take_add_one, hp]
    show _ = getF x (l.take i ++ [p])
    rw [getF_one]
    by_cases hx : p.1 = x
    · subst hx
      rw [h.fa] at had
      cases hg : getF p.1 (l.take i) with
      | none => rw [hg] at had; cases had
      | some v => rfl
    · rw [if_neg hx]; cases getF x (l.take i) <;> rfl
  · have hq2 := List.getElem?_eq_some_iff.1 hq
    rw [show n - (i + 1) = n - 1 - i by omega, List.drop_eq_getElem_cons hq2.1, hq2.2, show n - 1 - i + 1 = n - i by omega, getF_putF, getF, h.fb]
theorem ordAt_new {l la lb : List KV} {n i : Nat} {p q : KV} (h : OrdAt l la lb n i) (hn : l.length = n) (hi : i < n) (hp : l[i]? = some p) (hq : l[n - 1 - i]? = some q) (ha : Rises la) (hb : Rises lb) (had : (getF p.1 la).isSome = false) : OrdAt l (putF p.1 p.2 la) (putF q.1 q.2 lb) n (i + 1) := by
  have hlb := putF_length (x := q.1) (v := q.2) hb
  have hla := putF_length (x := p.1) (v := p.2) ha
  refine ⟨fun x => ?_, fun x => ?_, by have := h.na; split at hla <;> omega, by have := h.nb; split at hlb <;> omega⟩
  · rw [List.take_add_one, hp]
    show _ = getF x (l.take i ++ [p])
    rw [getF_one, getF_putF]
    by_cases hx : p.1 = x
    · rw [if_pos hx, if_pos hx]
      subst hx
      rw [h.fa] at had
      cases hg : getF p.1 (l.take i) with
      | none => rfl
      | some v => rw [hg] at had; cases had
    · rw [if_neg hx, if_neg hx, h.fa]; cases getF x (l.take i) <;> rfl
  · have hq2 := List.getElem?_eq_some_iff.1 hq
    rw [show n - (i + 1) = n - 1 - i by omega, List.drop_eq_getElem_cons hq2.1, hq2.2, show n - 1 - i + 1 = n - i by omega, getF_putF, getF, h.fb]
theorem ordAt_end {l la lb : List KV} {n : Nat} (h : OrdAt l la lb n n) (hn : l.length = n) (ha : Rises la) (hb : Rises lb) : la = lb := rises_ext ha hb (fun x => by rw [h.fa, h.fb, List.take_of_length_le (by omega), Nat.sub_self, List.drop_zero])
theorem src_at {w W : World} {ad : Addr} {l : List KV} {i : Nat} {p : KV} (h : SrcP w (some ad) l) (hb : Below w.heap.size w W) (hp : l[i]? = some p) : W.cell? (ad.add (i * 2)) = some (.string ⟨p.1.toArray⟩) ∧ W.cell? ⟨(ad.add (i * 2)).block, (ad.add (i * 2)).off + 1, none⟩ = some (.string p.2) := by
  obtain ⟨ad', e, h1, h2⟩ := (h.below hb) i p hp
  cases e
  exact ⟨h1, h2⟩
theorem ord_wraps {n i f : Nat} (hn : n ≤ 536870911) (hi : i < n) (hf : n - 1 - i = f) : wrap64 ((n : Int) - 1) = (n : Int) - 1 ∧ wrap64 ((n : Int) - 1 - (i : Int)) = (f : Int) ∧ wrap64 ((i : Int) + 1) = ((i + 1 : Nat) : Int) := by
  refine ⟨?_, ?_, w64j (by omega)⟩
  · unfold wrap64; omega
  · rw [show (n : Int) - 1 - (i : Int) = (f : Int) by omega]; exact wny (by omega)
set_option maxRecDepth 100000 in
set_option maxHeartbeats 8000000 in
theorem Orderless_calls (m o : Int) (A : Option Addr) (c : Nat) (xs : List S40) (w : World) (hwf : (Lit.int .i64 m).wf = true) (hwo : (Lit.int .i64 o).wf = true) (hC : Kd.C k40 w A xs.length xs) (hc : xs.length ≤ c) (hf : ∀ y ∈ xs, Fine40 y) (hy : xs.length * 32 ≤ 140737488351232) :
    Calls Try.prog 7 #[.int .i64 m, .int .i64 o, .slice A xs.length c] w fun e w' => e = .returned (.bool true) ∧ Below w.heap.size w w' := by
  obtain ⟨r, cW, hr⟩ := weighs_calls (w := w) (B := none) (d := 0) (s := []) hC ⟨rfl, by decide, fun h => absurd h (by decide)⟩ (by omega) (by decide) hc (Nat.le_refl _)
  have hS := src_pairs hC
  obtain ⟨l, hl⟩ : ∃ l, xs.map kS = l := ⟨_, rfl⟩
  obtain ⟨n, hn⟩ : ∃ n, xs.length = n := ⟨_, rfl⟩
  have hln : l.length = n := by rw [← hl, List.length_map, hn]
  rw [hl] at hS
  rw [hn] at cW ⊢
  have cA : Aside0 (∀ w1, Calls Try.prog 10 #[] w1 fun e w' => e = .returned (.bool true) ∧ Below w1.heap.size w1 w') := ⟨awake_calls⟩
  have HL := Aside0.mk (And.intro hS (And.intro hln (hn ▸ hc)))
  by_cases hbig : 536870911 < r
  · have e1 : decide (536870911 < r) = true := decide_eq_true hbig
    clear hr hC hc hf hy hS hl hn hln hbig hwf hwo
    go_enter Try.func7, Try.ntmps7
    go_wp2_with (go_at_call 9; refine cW.mono ?_; rintro e w1 ⟨rfl, j, rfl⟩)
    go_ret
    exact ⟨rfl, drewN_below _ _⟩
  · have e1 : decide (536870911 < r) = false := decide_eq_false hbig
    obtain ⟨h1, -, -⟩ := hr (by show r ≤ 2147483647; omega)
    have hnb : n ≤ 536870911 := by rw [hn] at h1; simp at h1; omega
    have HN := Aside0.mk hnb
    clear hr hC hc hf hy hS hl hn hln hbig hwf hwo h1 hnb
    by_cases hbad : m < 4 ∨ 64 < m ∨ o < 4 ∨ 64 < o
    · go_enter Try.func7, Try.ntmps7
      rcases hbad with hb | hb
      · have d1 : decide (m < 4) = true := decide_eq_true hb
        clear hb
        go_wp2_with (first
          | (go_at_call 9; refine cW.mono ?_; rintro e w1 ⟨rfl, j, rfl⟩)
          | (go_at_call 10; refine (cA.out _).mono ?_; rintro e w2 ⟨rfl, hb2⟩; have B2 := Aside0.mk ((drewN_below w j).trans (hb2.mono (Nat.le_refl _))); clear hb2))
        go_ret
        exact ⟨rfl, B2.out⟩
      · by_cases hm4 : m < 4
        · have d1 : decide (m < 4) = true := decide_eq_true hm4
          clear hb hm4
          go_wp2_with (first
            | (go_at_call 9; refine cW.mono ?_; rintro e w1 ⟨rfl, j, rfl⟩)
            | (go_at_call 10; refine (cA.out _).mono ?_; rintro e w2 ⟨rfl, hb2⟩; have B2 := Aside0.mk ((drewN_below w j).trans (hb2.mono (Nat.le_refl _))); clear hb2))
          go_ret
          exact ⟨rfl, B2.out⟩
        · have d1 : decide (m < 4) = false := decide_eq_false hm4
          by_cases hm6 : 64 < m
          · have d2 : decide (64 < m) = true := decide_eq_true hm6
            clear hb hm4 hm6
            go_wp2_with (first
              | (go_at_call 9; refine cW.mono ?_; rintro e w1 ⟨rfl, j, rfl⟩)
              | (go_at_call 10; refine (cA.out _).mono ?_; rintro e w2 ⟨rfl, hb2⟩; have B2 := Aside0.mk ((drewN_below w j).trans (hb2.mono (Nat.le_refl _))); clear hb2))
            go_ret
            exact ⟨rfl, B2.out⟩
          · have d2 : decide (64 < m) = false := decide_eq_false hm6
            by_cases ho4 : o < 4
            · have d3 : decide (o < 4) = true := decide_eq_true ho4
              clear hb hm4 hm6 ho4
              go_wp2_with (first
                | (go_at_call 9; refine cW.mono ?_; rintro e w1 ⟨rfl, j, rfl⟩)
                | (go_at_call 10; refine (cA.out _).mono ?_; rintro e w2 ⟨rfl, hb2⟩; have B2 := Aside0.mk ((drewN_below w j).trans (hb2.mono (Nat.le_refl _))); clear hb2))
              go_ret
              exact ⟨rfl, B2.out⟩
            · have d3 : decide (o < 4) = false := decide_eq_false ho4
              have d4 : decide (64 < o) = true := decide_eq_true (by omega)
              clear hb hm4 hm6 ho4
              go_wp2_with (first
                | (go_at_call 9; refine cW.mono ?_; rintro e w1 ⟨rfl, j, rfl⟩)
                | (go_at_call 10; refine (cA.out _).mono ?_; rintro e w2 ⟨rfl, hb2⟩; have B2 := Aside0.mk ((drewN_below w j).trans (hb2.mono (Nat.le_refl _))); clear hb2))
              go_ret
              exact ⟨rfl, B2.out⟩
    · have d1 : decide (m < 4) = false := decide_eq_false (by omega)
      have d2 : decide (64 < m) = false := decide_eq_false (by omega)
      have d3 : decide (o < 4) = false := decide_eq_false (by omega)
      have d4 : decide (64 < o) = false := decide_eq_false (by omega)
      obtain ⟨M, rfl⟩ : ∃ M : Nat, m = M := ⟨m.toNat, by omega⟩
      obtain ⟨O, rfl⟩ : ∃ O : Nat, o = O := ⟨o.toNat, by omega⟩
      have h4 : 4 ≤ M := by omega
      have hm : M ≤ 64 := by omega
      have o4 : 4 ≤ O := by omega
      have om : O ≤ 64 := by omega
      have cM : Aside0 (∀ w1, _) := ⟨fun w1 => new_none (w := w1) h4 hm⟩
      have cO : Aside0 (∀ w1, _) := ⟨fun w1 => new_none (w := w1) o4 om⟩
      have HM := Aside0.mk (And.intro (And.intro h4 hm) (And.intro o4 om))
      clear hbad h4 hm o4 om
      go_enter Try.func7, Try.ntmps7
      go_upto_region 8 with (first
        | (go_at_call 9; refine cW.mono ?_; rintro e w1 ⟨rfl, j, rfl⟩)
        | (go_at_call 10; refine (cA.out _).mono ?_; rintro e w2 ⟨rfl, hb2⟩; have B2 := Aside0.mk ((drewN_below w j).trans (hb2.mono (Nat.le_refl _))); clear hb2)
        | (go_at_call 11; refine (cM.out _).mono ?_; rintro e w3 ⟨ta, Sa, rfl, hm3, hb3⟩; have M3 := Aside0.mk (hm3.base_on B2.out B2.out.size); clear hb3 hm3))
      go_upto_region 12 with (go_at_call 11; refine (cO.out _).mono ?_; rintro e w4 ⟨tb, Sb, rfl, hm4, hb4⟩; have D4 : Aside0 (Duo w.heap.size w M O w4 ta Sa [] tb Sb []) := ⟨⟨M3.out.on hb4, hm4.base_on M3.out.below M3.out.base, fun k hk h9 => absurd (tr_lt M3.out.tr k hk) (Nat.not_lt.2 (hm4.own k h9))⟩⟩; clear hb4 hm4)
      have HD4 := Aside0.mk D4.out.a.below
      go_loopg [13] n (fun kq v13 wr => ∃ (i : Nat) (Sa Sb : List Nat) (la lb : List KV), v13 = .int .i64 i ∧ Aside0 (i + kq = n) ∧ Aside0 (Duo w.heap.size w M O wr ta Sa la tb Sb lb ∧ OrdAt l la lb n i))
      case atStart => exact ⟨0, Sa, Sb, [], [], rfl, ⟨by omega⟩, ⟨D4.out, ⟨fun x => rfl, fun x => by rw [List.drop_of_length_le (by have := HL.out.2.1; omega)], Nat.le_refl _, Nat.le_refl _⟩⟩⟩
      case round =>
        obtain ⟨i, Sa5, Sb5, la, lb, rfl, h1, h2⟩ := hrel
        by_cases hi : i < n
        · have g1 : decide ((i : Int) < (n : Int)) = true := decide_eq_true (by omega)
          have g2 : decide (i < n) = true := decide_eq_true hi
          have g3 : (i : Int) < (n : Int) := by omega
          obtain ⟨p, hp⟩ : ∃ p, l[i]? = some p := ⟨_, List.getElem?_eq_getElem (by have := HL.out.2.1; omega)⟩
          obtain ⟨q, hq⟩ : ∃ q, l[n - 1 - i]? = some q := ⟨_, List.getElem?_eq_getElem (by have := HL.out.2.1; omega)⟩
          obtain ⟨f, hfe⟩ : ∃ f, n - 1 - i = f := ⟨_, rfl⟩
          have hfn : f < n := by omega
          have g4 : (f : Int) < (n : Int) := by omega
          have WR : Aside0 (wrap64 ((n : Int) - 1) = (n : Int) - 1 ∧ wrap64 ((n : Int) - 1 - (i : Int)) = (f : Int) ∧ wrap64 ((i : Int) + 1) = ((i + 1 : Nat) : Int)) := ⟨ord_wraps HN.out hi hfe⟩
          obtain ⟨ad, rfl, z0, z1⟩ := (HL.out.1.below h2.out.1.a.below) i p hp
          have cG := getTree_calls p.1 HM.out.1.2 h2.out.1.a.tr
          have HI := Aside0.mk (And.intro hi (And.intro hp (And.intro hq (And.intro hfe hfn))))
          have bnd1 : la.length ≤ 4611686018427387904 := by have := h2.out.2.na; have := HN.out; omega
          have bnd2 : lb.length ≤ 4611686018427387904 := by have := h2.out.2.nb; have := HN.out; omega
          have HB := Aside0.mk (And.intro bnd1 bnd2)
          have cP : Aside0 (∀ W, Below wr.heap.size wr W → Calls Try.prog 18 #[.pointer (some ⟨ta, 0, none⟩), .string ⟨p.1.toArray⟩, .string p.2] W fun e w' => e = .returned (ansG (getF p.1 la)) ∧ ∃ Sa', Duo w.heap.size w M O w' ta Sa' (putF p.1 p.2 la) tb Sb5 lb) := ⟨fun W hW => (h2.out.1.on hW).put p.1 p.2 HM.out.1.1 HM.out.1.2 bnd1⟩
          have cQ : Aside0 (∀ w5 Sa6 la6, Duo w.heap.size w M O w5 ta Sa6 la6 tb Sb5 lb → Calls Try.prog 18 #[.pointer (some ⟨tb, 0, none⟩), .string ⟨q.1.toArray⟩, .string q.2] w5 fun e w' => e = .returned (ansG (getF q.1 lb)) ∧ ∃ Sb', Duo w.heap.size w M O w' ta Sa6 la6 tb Sb' (putF q.1 q.2 lb)) := ⟨fun w5 Sa6 la6 hd => (hd.swap.put q.1 q.2 HM.out.2.1 HM.out.2.2 HB.out.2).mono (fun e w' ⟨k1, Sb', k2⟩ => ⟨k1, Sb', k2.swap⟩)⟩
          unfold ansG at cG cP cQ
          obtain ⟨b, hb⟩ : ∃ b, (getF p.1 la).isSome = b := ⟨_, rfl⟩
          rw [hb] at cG cP
          have HBB := Aside0.mk hb
          clear hi hp hq hfe hfn bnd1 bnd2 hb
          cases b
          · go_upto_region 16 with (go_at_call 24; refine cG.mono ?_; rintro e w5 ⟨rfl, j5, rfl⟩)
            obtain ⟨W, hW⟩ : ∃ W, wr.drewN j5 = W := ⟨_, rfl⟩
            have HW : Aside0 (Below wr.heap.size wr W) := ⟨by rw [← hW]; exact drewN_below _ _⟩
            have zz := src_at HL.out.1 (h2.out.1.on HW.out).a.below HI.out.2.1
            rw [hW]
            clear hW z0 z1
            refine start_ (n := 15) (S := fun w' => w'.cell? (ad.add (i * 2)) = some (.string ⟨p.1.toArray⟩) ∧ w'.cell? ⟨(ad.add (i * 2)).block, (ad.add (i * 2)).off + 1, none⟩ = some (.string p.2)) (ds := []) (mK 15 0) (by kernel_rfl) rfl rfl zz (fun hHeld => ?_)
            refine with_tabW (T := (true, [([], []), ([], []), ([], []), ([1, 2], [1, 2]), ([3], [3]), ([4], [4]), ([], []), ([], []), ([6, 7], [6, 7]), ([8], [8]), ([9], [9]), ([0, 5, 10], [0, 5, 10]), ([11], [11]), ([12], [12]), ([12], [12])])) (B := [0, 0, 0, 6, 14, 30, 0, 0, 192, 448, 960, 2047, 4095, 8191, 8191]) (by kernel_rfl) (by kernel_rfl) (fun HT_ HW_ => ?_)
            refine pure_ (i := 0) (N := some 89) (v := ?_) (a' := ?_) (mK 15 1) rfl rfl (any_of HT_.out (by kernel_rfl)) (fun _ _ _ h => h) (Or.inl ⟨by rfl, ?_⟩) ?_ ?_
            rotate_left; focus (intro w'; go_simp; with_reducible rfl; done)
            rotate_left; focus (first | (simp only [Act.put, List.setIfInBounds_toArray, List.set_cons_zero, List.set_cons_succ, i64_w, i32_w]; rfl; done) | (rfl; done))
            refine pure_ (i := 1) (N := some 90) (v := ?_) (a' := ?_) (mK 15 3) rfl rfl (any_of HT_.out (by kernel_rfl)) (fun _ _ _ h => h) (Or.inl ⟨by rfl, ?_⟩) ?_ ?_
            rotate_left; focus (intro w'; go_simp; with_reducible rfl; done)
            rotate_left; focus (first | (simp only [Act.put, List.setIfInBounds_toArray, List.set_cons_zero, List.set_cons_succ, i64_w, i32_w]; rfl; done) | (rfl; done))
            refine pure_ (i := 2) (N := some 91) (v := ?_) (a' := ?_) (mK 15 7) rfl rfl (any_of HT_.out (by kernel_rfl)) (fun _ _ _ h => h) (Or.inl ⟨by rfl, ?_⟩) ?_ ?_
            rotate_left; focus (intro w'; go_simp; with_reducible rfl; done)
            rotate_left; focus (first | (simp only [Act.put, List.setIfInBounds_toArray, List.set_cons_zero, List.set_cons_succ, i64_w, i32_w]; rfl; done) | (rfl; done))
            refine pure_ (i := 3) (N := some 92) (v := ?_) (a' := ?_) (mK 15 15) rfl rfl (any_of HT_.out (by kernel_rfl)) (fun _ _ _ h => h) (Or.inl ⟨by rfl, ?_⟩) ?_ ?_
            rotate_left; focus (intro w'; go_simp; with_reducible rfl; done)
            rotate_left; focus (first | (simp only [Act.put, List.setIfInBounds_toArray, List.set_cons_zero, List.set_cons_succ, i64_w, i32_w]; rfl; done) | (rfl; done))
            refine pure_ (i := 4) (N := some 93) (v := ?_) (a' := ?_) (mK 15 31) rfl rfl (any_of HT_.out (by kernel_rfl)) (fun _ _ _ h => h) (Or.inl ⟨by rfl, ?_⟩) ?_ ?_
            rotate_left; focus (intro w'; go_simp; with_reducible rfl; done)
            rotate_left; focus (first | (simp only [Act.put, List.setIfInBounds_toArray, List.set_cons_zero, List.set_cons_succ, i64_w, i32_w]; rfl; done) | (rfl; done))
            refine pure_ (i := 6) (N := some 95) (v := ?_) (a' := ?_) (mK 15 95) rfl rfl (any_of HT_.out (by kernel_rfl)) (fun _ _ _ h => h) (Or.inl ⟨by rfl, ?_⟩) ?_ ?_
            rotate_left; focus (intro w'; go_simp; with_reducible rfl; done)
            rotate_left; focus (first | (simp only [Act.put, List.setIfInBounds_toArray, List.set_cons_zero, List.set_cons_succ, i64_w, i32_w]; rfl; done) | (rfl; done))
            refine pure_ (i := 7) (N := some 96) (v := ?_) (a' := ?_) (mK 15 223) rfl rfl (any_of HT_.out (by kernel_rfl)) (fun _ _ _ h => h) (Or.inl ⟨by rfl, ?_⟩) ?_ ?_
            rotate_left; focus (intro w'; go_simp; with_reducible rfl; done)
            rotate_left; focus (first | (simp only [Act.put, List.setIfInBounds_toArray, List.set_cons_zero, List.set_cons_succ, i64_w, i32_w]; rfl; done) | (rfl; done))
            refine pure_ (i := 8) (N := some 97) (v := ?_) (a' := ?_) (mK 15 479) rfl rfl (any_of HT_.out (by kernel_rfl)) (fun _ _ _ h => h) (Or.inl ⟨by rfl, ?_⟩) ?_ ?_
            rotate_left; focus (intro w'; go_simp; with_reducible rfl; done)
            rotate_left; focus (first | (simp only [Act.put, List.setIfInBounds_toArray, List.set_cons_zero, List.set_cons_succ, i64_w, i32_w]; rfl; done) | (rfl; done))
            refine pure_ (i := 9) (N := some 98) (v := ?_) (a' := ?_) (mK 15 991) rfl rfl (any_of HT_.out (by kernel_rfl)) (fun _ _ _ h => h) (Or.inl ⟨by rfl, ?_⟩) ?_ ?_
            rotate_left; focus (intro w'; go_simp; with_reducible rfl; done)
            rotate_left; focus (first | (simp only [Act.put, List.setIfInBounds_toArray, List.set_cons_zero, List.set_cons_succ, i64_w, i32_w]; rfl; done) | (rfl; done))
            refine take_ (i := 5) (N := some 94) (v := ?_) (a' := ?_) (mK 15 1023) rfl rfl (take_ofW HT_.out HW_.out (by kernel_rfl)) (fun _ _ _ h => h) (Or.inl ⟨by rfl, ?_⟩) hHeld ?_ ?_
            rotate_left; focus (rintro w' ⟨s0, s1⟩; go_simp; with_reducible rfl; done)
            rotate_left; focus (first | (simp only [Act.put, List.setIfInBounds_toArray, List.set_cons_zero, List.set_cons_succ, i64_w, i32_w]; rfl; done) | (rfl; done))
            refine take_ (i := 10) (N := some 99) (v := ?_) (a' := ?_) (mK 15 2047) rfl rfl (take_ofW HT_.out HW_.out (by kernel_rfl)) (fun _ _ _ h => h) (Or.inl ⟨by rfl, ?_⟩) hHeld ?_ ?_
            rotate_left; focus (rintro w' ⟨s0, s1⟩; go_simp; with_reducible rfl; done)
            rotate_left; focus (first | (simp only [Act.put, List.setIfInBounds_toArray, List.set_cons_zero, List.set_cons_succ, i64_w, i32_w]; rfl; done) | (rfl; done))
            refine one_ (i := 11) (N := some 100) (mK 15 4095) rfl rfl (one_of HT_.out (by kernel_rfl)) (by decide) (fun K hK => ?_)
            focus
             go_simp
             refine (cP.out _ ?_).mono ?_
             exact HW.out.trans (by first | exact below_drew1 ((Below.refl _ _).mono HW.out.size) | exact (Below.refl _ _).mono HW.out.size)
             rintro e w6 ⟨rfl, Sa6, hd⟩
             have D6 := Aside0.mk hd
             clear hd
             go_simp
             refine hK.out _ _ (src_at HL.out.1 D6.out.a.below HI.out.2.1) (fun hHeld => ?_)
             clear hK K
             refine pure_ (i := 12) (N := some 88) (v := ?_) (a' := ?_) (mK 15 8191) rfl rfl (any_of HT_.out (by kernel_rfl)) (fun _ _ _ h => h) (Or.inl ⟨by rfl, ?_⟩) ?_ ?_
             rotate_left; focus (intro w'; go_simp; with_reducible rfl; done)
             rotate_left; focus (first | (simp only [Act.put, List.setIfInBounds_toArray, List.set_cons_zero, List.set_cons_succ, i64_w, i32_w]; rfl; done) | (rfl; done))
             refine pure_ (i := 13) (N := some 101) (v := ?_) (a' := ?_) (mK 15 16383) rfl rfl (any_of HT_.out (by kernel_rfl)) (fun _ _ _ h => h) (Or.inl ⟨by rfl, ?_⟩) ?_ ?_
             rotate_left; focus (intro w'; go_simp; with_reducible rfl; done)
             rotate_left; focus (first | (simp only [Act.put, List.setIfInBounds_toArray, List.set_cons_zero, List.set_cons_succ, i64_w, i32_w]; rfl; done) | (rfl; done))
             refine pure_ (i := 14) (N := some 102) (v := ?_) (a' := ?_) (mK 15 32767) rfl rfl (any_of HT_.out (by kernel_rfl)) (fun _ _ _ h => h) (Or.inl ⟨by rfl, ?_⟩) ?_ ?_
             rotate_left; focus (intro w'; go_simp; with_reducible rfl; done)
             rotate_left; focus (first | (simp only [Act.put, List.setIfInBounds_toArray, List.set_cons_zero, List.set_cons_succ, i64_w, i32_w]; rfl; done) | (rfl; done))
             refine done_ (done_of HT_.out (by kernel_rfl)) ?_
            obtain ⟨u1, u2, u3⟩ := WR.out
            go_upto_region 18 with fail
            have hqf : l[f]? = some q := by rw [← HI.out.2.2.2.1]; exact HI.out.2.2.1
            have yy := src_at HL.out.1 D6.out.a.below hqf
            refine start_ (n := 15) (S := fun w' => w'.cell? (ad.add (f * 2)) = some (.string ⟨q.1.toArray⟩) ∧ w'.cell? ⟨(ad.add (f * 2)).block, (ad.add (f * 2)).off + 1, none⟩ = some (.string q.2)) (ds := []) (mK 15 0) (by kernel_rfl) rfl rfl yy (fun hHeld => ?_)
            refine with_tabW (T := (true, [([], []), ([], []), ([], []), ([1, 2], [1, 2]), ([3], [3]), ([4], [4]), ([], []), ([], []), ([6, 7], [6, 7]), ([8], [8]), ([9], [9]), ([0, 5, 10], [0, 5, 10]), ([11], [11]), ([12], [12]), ([12], [12])])) (B := [0, 0, 0, 6, 14, 30, 0, 0, 192, 448, 960, 2047, 4095, 8191, 8191]) (by kernel_rfl) (by kernel_rfl) (fun HT_ HW_ => ?_)
            refine pure_ (i := 0) (N := some 109) (v := ?_) (a' := ?_) (mK 15 1) rfl rfl (any_of HT_.out (by kernel_rfl)) (fun _ _ _ h => h) (Or.inl ⟨by rfl, ?_⟩) ?_ ?_
            rotate_left; focus (intro w'; go_simp; with_reducible rfl; done)
            rotate_left; focus (first | (simp only [Act.put, List.setIfInBounds_toArray, List.set_cons_zero, List.set_cons_succ, i64_w, i32_w]; rfl; done) | (rfl; done))
            refine pure_ (i := 1) (N := some 110) (v := ?_) (a' := ?_) (mK 15 3) rfl rfl (any_of HT_.out (by kernel_rfl)) (fun _ _ _ h => h) (Or.inl ⟨by rfl, ?_⟩) ?_ ?_
            rotate_left; focus (intro w'; go_simp; with_reducible rfl; done)
            rotate_left; focus (first | (simp only [Act.put, List.setIfInBounds_toArray, List.set_cons_zero, List.set_cons_succ, i64_w, i32_w]; rfl; done) | (rfl; done))
            refine pure_ (i := 2) (N := some 111) (v := ?_) (a' := ?_) (mK 15 7) rfl rfl (any_of HT_.out (by kernel_rfl)) (fun _ _ _ h => h) (Or.inl ⟨by rfl, ?_⟩) ?_ ?_
            rotate_left; focus (intro w'; go_simp; with_reducible rfl; done)
            rotate_left; focus (first | (simp only [Act.put, List.setIfInBounds_toArray, List.set_cons_zero, List.set_cons_succ, i64_w, i32_w]; rfl; done) | (rfl; done))
            refine pure_ (i := 3) (N := some 112) (v := ?_) (a' := ?_) (mK 15 15) rfl rfl (any_of HT_.out (by kernel_rfl)) (fun _ _ _ h => h) (Or.inl ⟨by rfl, ?_⟩) ?_ ?_
            rotate_left; focus (intro w'; go_simp; with_reducible rfl; done)
            rotate_left; focus (first | (simp only [Act.put, List.setIfInBounds_toArray, List.set_cons_zero, List.set_cons_succ, i64_w, i32_w]; rfl; done) | (rfl; done))
            refine pure_ (i := 4) (N := some 113) (v := ?_) (a' := ?_) (mK 15 31) rfl rfl (any_of HT_.out (by kernel_rfl)) (fun _ _ _ h => h) (Or.inl ⟨by rfl, ?_⟩) ?_ ?_
            rotate_left; focus (intro w'; go_simp; with_reducible rfl; done)
            rotate_left; focus (first | (simp only [Act.put, List.setIfInBounds_toArray, List.set_cons_zero, List.set_cons_succ, i64_w, i32_w]; rfl; done) | (rfl; done))
            refine pure_ (i := 6) (N := some 115) (v := ?_) (a' := ?_) (mK 15 95) rfl rfl (any_of HT_.out (by kernel_rfl)) (fun _ _ _ h => h) (Or.inl ⟨by rfl, ?_⟩) ?_ ?_
            rotate_left; focus (intro w'; go_simp; with_reducible rfl; done)
            rotate_left; focus (first | (simp only [Act.put, List.setIfInBounds_toArray, List.set_cons_zero, List.set_cons_succ, i64_w, i32_w]; rfl; done) | (rfl; done))
            refine pure_ (i := 7) (N := some 116) (v := ?_) (a' := ?_) (mK 15 223) rfl rfl (any_of HT_.out (by kernel_rfl)) (fun _ _ _ h => h) (Or.inl ⟨by rfl, ?_⟩) ?_ ?_
            rotate_left; focus (intro w'; go_simp; with_reducible rfl; done)
            rotate_left; focus (first | (simp only [Act.put, List.setIfInBounds_toArray, List.set_cons_zero, List.set_cons_succ, i64_w, i32_w]; rfl; done) | (rfl; done))
            refine pure_ (i := 8) (N := some 117) (v := ?_) (a' := ?_) (mK 15 479) rfl rfl (any_of HT_.out (by kernel_rfl)) (fun _ _ _ h => h) (Or.inl ⟨by rfl, ?_⟩) ?_ ?_
            rotate_left; focus (intro w'; go_simp; with_reducible rfl; done)
            rotate_left; focus (first | (simp only [Act.put, List.setIfInBounds_toArray, List.set_cons_zero, List.set_cons_succ, i64_w, i32_w]; rfl; done) | (rfl; done))
            refine pure_ (i := 9) (N := some 118) (v := ?_) (a' := ?_) (mK 15 991) rfl rfl (any_of HT_.out (by kernel_rfl)) (fun _ _ _ h => h) (Or.inl ⟨by rfl, ?_⟩) ?_ ?_
            rotate_left; focus (intro w'; go_simp; with_reducible rfl; done)
            rotate_left; focus (first | (simp only [Act.put, List.setIfInBounds_toArray, List.set_cons_zero, List.set_cons_succ, i64_w, i32_w]; rfl; done) | (rfl; done))
            refine take_ (i := 5) (N := some 114) (v := ?_) (a' := ?_) (mK 15 1023) rfl rfl (take_ofW HT_.out HW_.out (by kernel_rfl)) (fun _ _ _ h => h) (Or.inl ⟨by rfl, ?_⟩) hHeld ?_ ?_
            rotate_left; focus (rintro w' ⟨s0, s1⟩; go_simp; with_reducible rfl; done)
            rotate_left; focus (first | (simp only [Act.put, List.setIfInBounds_toArray, List.set_cons_zero, List.set_cons_succ, i64_w, i32_w]; rfl; done) | (rfl; done))
            refine take_ (i := 10) (N := some 119) (v := ?_) (a' := ?_) (mK 15 2047) rfl rfl (take_ofW HT_.out HW_.out (by kernel_rfl)) (fun _ _ _ h => h) (Or.inl ⟨by rfl, ?_⟩) hHeld ?_ ?_
            rotate_left; focus (rintro w' ⟨s0, s1⟩; go_simp; with_reducible rfl; done)
            rotate_left; focus (first | (simp only [Act.put, List.setIfInBounds_toArray, List.set_cons_zero, List.set_cons_succ, i64_w, i32_w]; rfl; done) | (rfl; done))
            refine one_ (i := 11) (N := some 120) (mK 15 4095) rfl rfl (one_of HT_.out (by kernel_rfl)) (by decide) (fun K hK => ?_)
            focus
             go_simp
             refine (cQ.out _ _ _ (D6.out.on ?_)).mono ?_
             exact (by first | exact below_drew1 (Below.refl _ _) | exact Below.refl _ _)
             rintro e w7 ⟨rfl, Sb7, hd⟩
             have D7 := Aside0.mk hd
             clear hd
             go_simp
             refine hK.out _ _ (src_at HL.out.1 D7.out.a.below hqf) (fun hHeld => ?_)
             clear hK K
             refine pure_ (i := 12) (N := some 108) (v := ?_) (a' := ?_) (mK 15 8191) rfl rfl (any_of HT_.out (by kernel_rfl)) (fun _ _ _ h => h) (Or.inl ⟨by rfl, ?_⟩) ?_ ?_
             rotate_left; focus (intro w'; go_simp; with_reducible rfl; done)
             rotate_left; focus (first | (simp only [Act.put, List.setIfInBounds_toArray, List.set_cons_zero, List.set_cons_succ, i64_w, i32_w]; rfl; done) | (rfl; done))
             refine pure_ (i := 13) (N := some 121) (v := ?_) (a' := ?_) (mK 15 16383) rfl rfl (any_of HT_.out (by kernel_rfl)) (fun _ _ _ h => h) (Or.inl ⟨by rfl, ?_⟩) ?_ ?_
             rotate_left; focus (intro w'; go_simp; with_reducible rfl; done)
             rotate_left; focus (first | (simp only [Act.put, List.setIfInBounds_toArray, List.set_cons_zero, List.set_cons_succ, i64_w, i32_w]; rfl; done) | (rfl; done))
             refine pure_ (i := 14) (N := some 122) (v := ?_) (a' := ?_) (mK 15 32767) rfl rfl (any_of HT_.out (by kernel_rfl)) (fun _ _ _ h => h) (Or.inl ⟨by rfl, ?_⟩) ?_ ?_
             rotate_left; focus (intro w'; go_simp; with_reducible rfl; done)
             rotate_left; focus (first | (simp only [Act.put, List.setIfInBounds_toArray, List.set_cons_zero, List.set_cons_succ, i64_w, i32_w]; rfl; done) | (rfl; done))
             refine done_ (done_of HT_.out (by kernel_rfl)) ?_
            go_wp2
            go_roundg (gk - 1)
            case measure => clear u1 u2 u3; have h9 := h1.out; have h8 := HI.out.1; omega
            case rel => exact ⟨i + 1, Sa6, Sb7, putF p.1 p.2 la, putF q.1 q.2 lb, by first | rw [WR.out.2.2] | simp, ⟨by clear u1 u2 u3; have h9 := h1.out; have h8 := HI.out.1; omega⟩, ⟨D7.out, ordAt_new h2.out.2 HL.out.2.1 HI.out.1 HI.out.2.1 HI.out.2.2.1 (tr_rises h2.out.1.a.tr) (tr_rises h2.out.1.b.tr) HBB.out⟩⟩
          · obtain ⟨u1, u2, u3⟩ := WR.out
            go_upto_region 18 with (go_at_call 24; refine cG.mono ?_; rintro e w5 ⟨rfl, j5, rfl⟩)
            obtain ⟨W, hW⟩ : ∃ W, wr.drewN j5 = W := ⟨_, rfl⟩
            have D6 := Aside0.mk (h2.out.1.on (drewN_below _ j5))
            rw [hW] at D6 ⊢
            clear hW z0 z1
            have hqf : l[f]? = some q := by rw [← HI.out.2.2.2.1]; exact HI.out.2.2.1
            have yy := src_at HL.out.1 D6.out.a.below hqf
            refine start_ (n := 15) (S := fun w' => w'.cell? (ad.add (f * 2)) = some (.string ⟨q.1.toArray⟩) ∧ w'.cell? ⟨(ad.add (f * 2)).block, (ad.add (f * 2)).off + 1, none⟩ = some (.string q.2)) (ds := []) (mK 15 0) (by kernel_rfl) rfl rfl yy (fun hHeld => ?_)
            refine with_tabW (T := (true, [([], []), ([], []), ([], []), ([1, 2], [1, 2]), ([3], [3]), ([4], [4]), ([], []), ([], []), ([6, 7], [6, 7]), ([8], [8]), ([9], [9]), ([0, 5, 10], [0, 5, 10]), ([11], [11]), ([12], [12]), ([12], [12])])) (B := [0, 0, 0, 6, 14, 30, 0, 0, 192, 448, 960, 2047, 4095, 8191, 8191]) (by kernel_rfl) (by kernel_rfl) (fun HT_ HW_ => ?_)
            refine pure_ (i := 0) (N := some 109) (v := ?_) (a' := ?_) (mK 15 1) rfl rfl (any_of HT_.out (by kernel_rfl)) (fun _ _ _ h => h) (Or.inl ⟨by rfl, ?_⟩) ?_ ?_
            rotate_left; focus (intro w'; go_simp; with_reducible rfl; done)
            rotate_left; focus (first | (simp only [Act.put, List.setIfInBounds_toArray, List.set_cons_zero, List.set_cons_succ, i64_w, i32_w]; rfl; done) | (rfl; done))
            refine pure_ (i := 1) (N := some 110) (v := ?_) (a' := ?_) (mK 15 3) rfl rfl (any_of HT_.out (by kernel_rfl)) (fun _ _ _ h => h) (Or.inl ⟨by rfl, ?_⟩) ?_ ?_
            rotate_left; focus (intro w'; go_simp; with_reducible rfl; done)
            rotate_left; focus (first | (simp only [Act.put, List.setIfInBounds_toArray, List.set_cons_zero, List.set_cons_succ, i64_w, i32_w]; rfl; done) | (rfl; done))
            refine pure_ (i := 2) (N := some 111) (v := ?_) (a' := ?_) (mK 15 7) rfl rfl (any_of HT_.out (by kernel_rfl)) (fun _ _ _ h => h) (Or.inl ⟨by rfl, ?_⟩) ?_ ?_
            rotate_left; focus (intro w'; go_simp; with_reducible rfl; done)
            rotate_left; focus (first | (simp only [Act.put, List.setIfInBounds_toArray, List.set_cons_zero, List.set_cons_succ, i64_w, i32_w]; rfl; done) | (rfl; done))
            refine pure_ (i := 3) (N := some 112) (v := ?_) (a' := ?_) (mK 15 15) rfl rfl (any_of HT_.out (by kernel_rfl)) (fun _ _ _ h => h) (Or.inl ⟨by rfl, ?_⟩) ?_ ?_
            rotate_left; focus (intro w'; go_simp; with_reducible rfl; done)
            rotate_left; focus (first | (simp only [Act.put, List.setIfInBounds_toArray, List.set_cons_zero, List.set_cons_succ, i64_w, i32_w]; rfl; done) | (rfl; done))
            refine pure_ (i := 4) (N := some 113) (v := ?_) (a' := ?_) (mK 15 31) rfl rfl (any_of HT_.out (by kernel_rfl)) (fun _ _ _ h => h) (Or.inl ⟨by rfl, ?_⟩) ?_ ?_
            rotate_left; focus (intro w'; go_simp; with_reducible rfl; done)
            rotate_left; focus (first | (simp only [Act.put, List.setIfInBounds_toArray, List.set_cons_zero, List.set_cons_succ, i64_w, i32_w]; rfl; done) | (rfl; done))
            refine pure_ (i := 6) (N := some 115) (v := ?_) (a' := ?_) (mK 15 95) rfl rfl (any_of HT_.out (by kernel_rfl)) (fun _ _ _ h => h) (Or.inl ⟨by rfl, ?_⟩) ?_ ?_
            rotate_left; focus (intro w'; go_simp; with_reducible rfl; done)
            rotate_left; focus (first | (simp only [Act.put, List.setIfInBounds_toArray, List.set_cons_zero, List.set_cons_succ, i64_w, i32_w]; rfl; done) | (rfl; done))
            refine pure_ (i := 7) (N := some 116) (v := ?_) (a' := ?_) (mK 15 223) rfl rfl (any_of HT_.out (by kernel_rfl)) (fun _ _ _ h => h) (Or.inl ⟨by rfl, ?_⟩) ?_ ?_
            rotate_left; focus (intro w'; go_simp; with_reducible rfl; done)
            rotate_left; focus (first | (simp only [Act.put, List.setIfInBounds_toArray, List.set_cons_zero, List.set_cons_succ, i64_w, i32_w]; rfl; done) | (rfl; done))
            refine pure_ (i := 8) (N := some 117) (v := ?_) (a' := ?_) (mK 15 479) rfl rfl (any_of HT_.out (by kernel_rfl)) (fun _ _ _ h => h) (Or.inl ⟨by rfl, ?_⟩) ?_ ?_
            rotate_left; focus (intro w'; go_simp; with_reducible rfl; done)
            rotate_left; focus (first | (simp only [Act.put, List.setIfInBounds_toArray, List.set_cons_zero, List.set_cons_succ, i64_w, i32_w]; rfl; done) | (rfl; done))
            refine pure_ (i := 9) (N := some 118) (v := ?_) (a' := ?_) (mK 15 991) rfl rfl (any_of HT_.out (by kernel_rfl)) (fun _ _ _ h => h) (Or.inl ⟨by rfl, ?_⟩) ?_ ?_
            rotate_left; focus (intro w'; go_simp; with_reducible rfl; done)
            rotate_left; focus (first | (simp only [Act.put, List.setIfInBounds_toArray, List.set_cons_zero, List.set_cons_succ, i64_w, i32_w]; rfl; done) | (rfl; done))
            refine take_ (i := 5) (N := some 114) (v := ?_) (a' := ?_) (mK 15 1023) rfl rfl (take_ofW HT_.out HW_.out (by kernel_rfl)) (fun _ _ _ h => h) (Or.inl ⟨by rfl, ?_⟩) hHeld ?_ ?_
            rotate_left; focus (rintro w' ⟨s0, s1⟩; go_simp; with_reducible rfl; done)
            rotate_left; focus (first | (simp only [Act.put, List.setIfInBounds_toArray, List.set_cons_zero, List.set_cons_succ, i64_w, i32_w]; rfl; done) | (rfl; done))
            refine take_ (i := 10) (N := some 119) (v := ?_) (a' := ?_) (mK 15 2047) rfl rfl (take_ofW HT_.out HW_.out (by kernel_rfl)) (fun _ _ _ h => h) (Or.inl ⟨by rfl, ?_⟩) hHeld ?_ ?_
            rotate_left; focus (rintro w' ⟨s0, s1⟩; go_simp; with_reducible rfl; done)
            rotate_left; focus (first | (simp only [Act.put, List.setIfInBounds_toArray, List.set_cons_zero, List.set_cons_succ, i64_w, i32_w]; rfl; done) | (rfl; done))
            refine one_ (i := 11) (N := some 120) (mK 15 4095) rfl rfl (one_of HT_.out (by kernel_rfl)) (by decide) (fun K hK => ?_)
            focus
             go_simp
             refine (cQ.out _ _ _ (D6.out.on ?_)).mono ?_
             exact (by first | exact below_drew1 (Below.refl _ _) | exact Below.refl _ _)
             rintro e w7 ⟨rfl, Sb7, hd⟩
             have D7 := Aside0.mk hd
             clear hd
             go_simp
             refine hK.out _ _ (src_at HL.out.1 D7.out.a.below hqf) (fun hHeld => ?_)
             clear hK K
             refine pure_ (i := 12) (N := some 108) (v := ?_) (a' := ?_) (mK 15 8191) rfl rfl (any_of HT_.out (by kernel_rfl)) (fun _ _ _ h => h) (Or.inl ⟨by rfl, ?_⟩) ?_ ?_
             rotate_left; focus (intro w'; go_simp; with_reducible rfl; done)
             rotate_left; focus (first | (simp only [Act.put, List.setIfInBounds_toArray, List.set_cons_zero, List.set_cons_succ, i64_w, i32_w]; rfl; done) | (rfl; done))
             refine pure_ (i := 13) (N := some 121) (v := ?_) (a' := ?_) (mK 15 16383) rfl rfl (any_of HT_.out (by kernel_rfl)) (fun _ _ _ h => h) (Or.inl ⟨by rfl, ?_⟩) ?_ ?_
             rotate_left; focus (intro w'; go_simp; with_reducible rfl; done)
             rotate_left; focus (first | (simp only [Act.put, List.setIfInBounds_toArray, List.set_cons_zero, List.set_cons_succ, i64_w, i32_w]; rfl; done) | (rfl; done))
             refine pure_ (i := 14) (N := some 122) (v := ?_) (a' := ?_) (mK 15 32767) rfl rfl (any_of HT_.out (by kernel_rfl)) (fun _ _ _ h => h) (Or.inl ⟨by rfl, ?_⟩) ?_ ?_
             rotate_left; focus (intro w'; go_simp; with_reducible rfl; done)
             rotate_left; focus (first | (simp only [Act.put, List.setIfInBounds_toArray, List.set_cons_zero, List.set_cons_succ, i64_w, i32_w]; rfl; done) | (rfl; done))
             refine done_ (done_of HT_.out (by kernel_rfl)) ?_
            go_wp2
            go_roundg (gk - 1)
            case measure => clear u1 u2 u3; have h9 := h1.out; have h8 := HI.out.1; omega
            case rel => exact ⟨i + 1, Sa5, Sb7, la, putF q.1 q.2 lb, by first | rw [WR.out.2.2] | simp, ⟨by clear u1 u2 u3; have h9 := h1.out; have h8 := HI.out.1; omega⟩, ⟨D7.out, ordAt_had h2.out.2 HL.out.2.1 HI.out.1 HI.out.2.1 HI.out.2.2.1 (tr_rises h2.out.1.b.tr) HBB.out⟩⟩
        · have g1 : decide ((i : Int) < (n : Int)) = false := decide_eq_false (by omega)
          have g2 : decide (i < n) = false := decide_eq_false hi
          have hin : i = n := by have := h1.out; omega
          have hO := h2.out.2
          rw [hin] at hO
          have hab := ordAt_end hO HL.out.2.1 (tr_rises h2.out.1.a.tr) (tr_rises h2.out.1.b.tr)
          subst hab
          have hla := hO.na
          have HLA := Aside0.mk (And.intro hla (tr_rises h2.out.1.a.tr))
          have hn4 := HN.out
          have hlt : (la.length : Int) < (n : Int) + 1 := by omega
          have cL : Aside0 (∀ {B' m' tb' : Nat} {w0' W : World} {S' : List Nat}, m' ≤ 64 → Mi B' w0' m' W tb' S' la → Calls Try.prog 13 #[.pointer (some ⟨tb', 0, none⟩), .string ⟨#[]⟩, .string ⟨#[]⟩, .int .i64 ((n : Int) + 1)] W fun e w' => ∃ v, e = .returned v ∧ RowP w' v la ∧ Below W.heap.size W w') := ⟨fun hm' hM => (listTree_calls [] [] _ hm' (by omega) hM.tr).mono (fun e w' ⟨v, k1, k2, k3, k4⟩ => ⟨v, k1, by rw [listF_all hlt] at k2; exact k2, k3⟩)⟩
          have WR : Aside0 (wrap64 ((n : Int) + 1) = (n : Int) + 1) := ⟨(w64j (by omega)).trans (Int.natCast_succ n)⟩
          have cLa := cL.out HM.out.1.2 h2.out.1.a
          clear hi hin hO hla hn4 hlt g1
          have g1 : decide ((i : Int) < (n : Int)) = false := by rw [decide_eq_false_iff_not]; have h9 := h1.out; have h8 : decide (i < n) = false := g2; rw [decide_eq_false_iff_not] at h8; omega
          obtain u1 := WR.out
          go_upto_region 20 with (go_at_call 13; refine cLa.mono ?_; rintro e w5 ⟨vp, rfl, hp5, hb5⟩; have P5 := Aside0.mk hp5; have D5 := Aside0.mk (h2.out.1.on hb5); clear hp5 hb5)
          have cLb := cL.out HM.out.2.2 D5.out.b
          go_upto_region 21 with (go_at_call 13; refine cLb.mono ?_; rintro e w6 ⟨vq, rfl, hq6, hb6⟩; have PQ6 := Aside0.mk (And.intro (RowC.below P5.out hb6) hq6); have D6 := Aside0.mk (D5.out.on hb6); clear hq6 hb6)
          obtain ⟨Ap, cp, rfl, hcp, -⟩ := RowC.shape P5.out
          obtain ⟨Aq, cq, rfl, hcq, -⟩ := RowC.shape PQ6.out.2
          obtain ⟨k, hk⟩ : ∃ k, la.length = k := ⟨_, rfl⟩
          have hkn : k ≤ 4294967295 := by have := HLA.out.1; have := HN.out; omega
          have cN := new_own (w := w6) HM.out.2.1 HM.out.2.2 (RowC.srcP PQ6.out.1) hcp (by have := HLA.out.1; have := HN.out; omega) HLA.out.2
          rw [hk] at cN hcp hcq ⊢
          have HK := Aside0.mk (And.intro hk (And.intro hcp (And.intro hcq hkn)))
          clear hcp hcq hkn hk
          go_upto_region 24 with (go_at_call 11; refine cN.mono ?_; rintro e w7 ⟨tc, Sc, rfl, hm7, hb7⟩; have M7 := Aside0.mk hm7; have D7 := Aside0.mk (And.intro (D6.out.on hb7) (And.intro (RowC.below PQ6.out.1 hb7) (RowC.below PQ6.out.2 hb7))); clear hm7 hb7)
          have cLc := cL.out HM.out.2.2 M7.out
          go_upto_region 25 with (go_at_call 13; refine cLc.mono ?_; rintro e w8 ⟨vr, rfl, hr8, hb8⟩; have D8 := Aside0.mk (And.intro (D7.out.1.on hb8) (And.intro (RowC.below D7.out.2.1 hb8) (And.intro (RowC.below D7.out.2.2 hb8) hr8))); clear hr8 hb8)
          obtain ⟨Ar, cr, rfl, hcr, -⟩ := RowC.shape D8.out.2.2.2
          have cZ := lenTree_calls D8.out.1.a.tr
          rw [HK.out.1] at cZ hcr ⊢
          go_upto_region 26 with (go_at_call 20; refine cZ.mono ?_; rintro e w9 ⟨rfl, rfl⟩)
          have pp8 := D8.out.2.1
          have qq8 := D8.out.2.2.1
          have rr8 := D8.out.2.2.2
          rw [HK.out.1] at rr8
          have cS1 := same_calls (RowC.srcP pp8) (RowC.srcP qq8) (by rw [HK.out.1]; have := HK.out.2.2.2; omega) (by rw [HK.out.1]; exact HK.out.2.1) (by rw [HK.out.1]; exact HK.out.2.2.1)
          have cS2 : Aside0 (∀ j1, Calls Try.prog 16 #[.slice Ap k cp, .slice Ar k cr] (w9.drewN j1) fun e w' => e = .returned (.bool true) ∧ ∃ n, w' = (w9.drewN j1).drewN n) := ⟨fun j1 => by
            have h9 := same_calls (RowC.srcP (RowC.below pp8 (drewN_below w9 j1))) (RowC.srcP (RowC.below rr8 (drewN_below w9 j1))) (by rw [HK.out.1]; have := HK.out.2.2.2; omega) (by rw [HK.out.1]; exact HK.out.2.1) (by rw [HK.out.1]; exact hcr)
            rw [HK.out.1] at h9
            exact h9⟩
          rw [HK.out.1] at cS1
          clear pp8 qq8 rr8 hcr
          go_upto_region 27 with (go_at_call 16; refine cS1.mono ?_; rintro e w10 ⟨rfl, j1, rfl⟩)
          go_upto_region 29 with (go_at_call 16; refine (cS2.out _).mono ?_; rintro e w11 ⟨rfl, j2, rfl⟩)
          obtain ⟨W9, hW9⟩ : ∃ W9, w9.drewN (j1 + j2) = W9 := ⟨_, rfl⟩
          have HP9 : Aside0 (RowP W9 (.slice Ap k cp) la ∧ Below w.heap.size w W9) := ⟨by
            rw [← hW9]
            have b9 : Below w9.heap.size w9 (w9.drewN (j1 + j2)) := drewN_below _ _
            have h9 := RowC.below D8.out.2.1 b9
            refine ⟨?_, (D8.out.1.on b9).a.below⟩
            rw [show k = la.length from HK.out.1.symm]
            exact h9⟩
          rw [hW9]
          clear hW9 u1
          go_loopg [25] k (fun kq v25 wr2 => ∃ (q j : Nat), v25 = .int .i64 q ∧ wr2 = W9.drewN j ∧ Aside0 (q + kq = k + 1 ∧ 1 ≤ q))
          case atStart => exact ⟨1, 0, rfl, rfl, ⟨by omega⟩⟩
          case round =>
            obtain ⟨q, j, rfl, rfl, k1⟩ := hrel
            by_cases hq : q < k
            · have b1 : decide ((q : Int) < (k : Int)) = true := decide_eq_true (by omega)
              have b2 : decide (q < k) = true := decide_eq_true hq
              have b3 : (q : Int) < (k : Int) := by omega
              obtain ⟨q0, hq0⟩ : ∃ q0, q = q0 + 1 := ⟨q - 1, by have := k1.out; omega⟩
              have b4 : (q0 : Int) < (k : Int) := by omega
              obtain ⟨x, hx⟩ : ∃ x, la[q0]? = some x := ⟨_, List.getElem?_eq_getElem (by have := HK.out.1; omega)⟩
              obtain ⟨y, hy⟩ : ∃ y, la[q]? = some y := ⟨_, List.getElem?_eq_getElem (by have := HK.out.1; omega)⟩
              have hlt : x.1 < y.1 := rises_adj HLA.out.2 (q + 1) q0 x y (by omega) hx (by rw [← hq0]; exact hy)
              have b5 : Op.bytesLess x.1 y.1 = true := by rw [nlt_eq]; exact decide_eq_true hlt
              obtain ⟨W, hW⟩ : ∃ W, W9.drewN j = W := ⟨_, rfl⟩
              have HW := Aside0.mk hW
              have hrow : RowP W (.slice Ap k cp) la := by rw [← hW]; exact RowC.below HP9.out.1 (drewN_below _ _)
              obtain ⟨g, c9, hv, y0, y1, -⟩ := RowP.at hrow hy
              simp only [Value.slice.injEq] at hv
              obtain ⟨rfl, -, rfl⟩ := hv
              obtain ⟨g', c9, hv, x0, x1, -⟩ := RowP.at hrow hx
              simp only [Value.slice.injEq, Option.some.injEq, Addr.mk.injEq] at hv
              obtain ⟨⟨rfl, -⟩, -, -⟩ := hv
              rw [hW]
              have HQ := Aside0.mk (And.intro hq (show q ≤ 4294967296 by have := HK.out.2.2.2; omega))
              have b6 : wrap64 ((q : Int) - 1) = (q0 : Int) := by rw [hq0, show (((q0 + 1 : Nat) : Int) - 1) = (q0 : Int) by omega]; exact wny (by have := HK.out.2.2.2; omega)
              have b6' : IntKind.i64.wrap ((q : Int) - 1) = (q0 : Int) := by rw [i64w]; exact b6
              clear hq hq0 hx hy hlt hW hrow
              go_upto_region 31 with fail
              go_quiet (fail)
              go_wp2
              go_roundg (gk - 1)
              case measure => clear b6 b6'; have h9 := k1.out; have h8 := HQ.out; omega
              case rel => exact ⟨q + 1, j + nq, by first | rw [w64j HQ.out.2] | simp, by rw [← HW.out, World.drewN_drewN], ⟨by clear b6 b6'; have h9 := k1.out; have h8 := HQ.out; omega⟩⟩
            · have b1 : decide ((q : Int) < (k : Int)) = false := decide_eq_false (by omega)
              have b2 : decide (q < k) = false := decide_eq_false hq
              clear hq
              go_wp2
              go_ret
              exact ⟨rfl, HP9.out.2.trans ((drewN_below W9 j).mono HP9.out.2.size)⟩
end Go.Proofs.YtmomohljnmopfaaX
end
