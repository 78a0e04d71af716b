/- Several texts in one: YD; no conditions beyond those in each theorem's head. -/
import Derived.Test.YtmomohljnmopfaaMN
import Derived.Test.YtmomohljnmopfaaMQ
import Derived.Test.YtmomohljnmopfaaMO
import Derived.Test.YtmomohljnmopfaaME
import Derived.Test.YtmomohljnmopfaaPK
section
namespace Go.Proofs.YtmomohljnmopfaaX
open Go.RowKit Go.Lib Go.Proofs.YtmomohljnmopfaaW.PrintWords Go.Proofs.YtmomohljnmopfaaW.PrintLast Go.Proofs.YtmomohljnmopfaaW.PrintMore
open Go.Proofs.Ytmomohljnmopfaa.PTreeParts (S40 k40)
set_option linter.unusedVariables false
set_option linter.unusedSimpArgs false
theorem src_at' {w W : World} {ad : Addr} {l : List KV} {i : Nat} {p : KV} (h : SrcP w (some ad) l) (hb : Below w.heap.size w W) (hp : l[i]? = some p) : W.cell? (ad.add (i * 2)) = some (.string ⟨p.1.toArray⟩) ∧ W.cell? ⟨(ad.add (i * 2)).block, (ad.add (i * 2)).off + 1, none⟩ = some (.string p.2) := by
  obtain ⟨ad', e, h1, h2⟩ := (h.below hb) i p hp
  cases e
  exact ⟨h1, h2⟩
/-- All keys are of the list. -/
def FromL (l L : List KV) : Prop := ∀ p ∈ L, ∃ (q : Nat) (r : KV), l[q]? = some r ∧ r.1 = p.1
theorem fromL_put {l L : List KV} {i : Nat} {p : KV} (h : FromL l L) (hp : l[i]? = some p) : FromL l (putF p.1 p.2 L) := fun r hr => by
  rcases mem_putF' hr with hr | hr
  · exact h r hr
  · exact ⟨i, p, hp, hr.symm⟩
/-- Where the second loop stands. -/
structure EmpAt (l L : List KV) (n : Nat) (C : Int) (i : Nat) : Prop where
  fr : FromL l L
  gone : ∀ p ∈ L, ∀ j < i, ∀ (e : Nat) (r : KV), ((j : Int) + C) % n = e → l[e]? = some r → r.1 ≠ p.1
  len : L.length ≤ n
theorem empAt_del {l L : List KV} {n i e : Nat} {C : Int} {r : KV} (h : EmpAt l L n C i) (hr : Rises L) (he : ((i : Int) + C) % n = e) (hl : l[e]? = some r) : EmpAt l (delF r.1 L) n C (i + 1) := by
  refine ⟨fun p hp => h.fr p (mem_delF hr hp).1, fun p hp j hj e' r' he' hl' => ?_, ?_⟩
  · rcases Nat.lt_or_ge j i with h1 | h1
    · exact h.gone p (mem_delF hr hp).1 j h1 e' r' he' hl'
    · obtain rfl : j = i := by omega
      rw [he] at he'
      obtain rfl := Int.ofNat.inj he'
      rw [hl] at hl'
      cases hl'
      exact fun e9 => (mem_delF hr hp).2 e9.symm
  · have := delF_length (x := r.1) (l := L)
    have := h.len
    omega
theorem empAt_end {l L : List KV} {n : Nat} {C : Int} (h : EmpAt l L n C n) (hn : l.length = n) : L = [] := by
  cases L with
  | nil => rfl
  | cons p L =>
    obtain ⟨q, r, hq, hr⟩ := h.fr p (by simp)
    have hqn : q < n := by rw [← hn]; exact (List.getElem?_eq_some_iff.1 hq).1
    obtain ⟨j, hj, hjq⟩ := turn_onto (c := C) hqn
    exact absurd hr (h.gone p (by simp) j hj q r hjq hq)
theorem tmod_bounds (a : Int) {n : Int} (hn : 0 < n) : -n < Int.tmod a n ∧ Int.tmod a n < n := by
  refine ⟨?_, Int.tmod_lt_of_pos a hn⟩
  have h4 := Int.tmod_lt_of_pos (-a) hn
  rw [Int.neg_tmod] at h4
  omega
set_option maxRecDepth 100000 in
set_option maxHeartbeats 8000000 in
theorem Empties_calls (m : Int) (A : Option Addr) (c : Nat) (xs : List S40) (turn : Int) (w : World) (hwf : (Lit.int .i64 m).wf = true) (hC : Kd.C k40 w A xs.length xs) (hc : xs.length ≤ c) (hf : ∀ y ∈ xs, Fine40 y) (hy : xs.length * 32 ≤ 140737488351232) (hwt : (Lit.int .i64 turn).wf = true) :
    Calls Try.prog 6 #[.int .i64 m, .slice A xs.length c, .int .i64 turn] w fun e w' => e = .returned (.bool true) ∧ Below w.heap.size w w' := by
  obtain ⟨r, cW, hr⟩ := weighs_calls (w := w) (B := none) (d := 0) (s := []) hC ⟨rfl, by decide, fun h => absurd h (by decide)⟩ (by omega) (by decide) hc (Nat.le_refl _)
  have hS := src_pairs hC
  obtain ⟨l, hl⟩ : ∃ l, xs.map kS = l := ⟨_, rfl⟩
  obtain ⟨n, hn⟩ : ∃ n, xs.length = n := ⟨_, rfl⟩
  have hln : l.length = n := by rw [← hl, List.length_map, hn]
  rw [hl] at hS
  rw [hn] at cW ⊢
  have cA : Aside0 (∀ w1, Calls Try.prog 10 #[] w1 fun e w' => e = .returned (.bool true) ∧ Below w1.heap.size w1 w') := ⟨awake_calls⟩
  have HL := Aside0.mk (And.intro hS (And.intro hln (hn ▸ hc)))
  by_cases hbig : 536870911 < r
  · have e1 : decide (536870911 < r) = true := decide_eq_true hbig
    clear hr hC hc hf hy hS hl hn hln hbig hwf hwt
    go_enter Try.func6, Try.ntmps6
    go_wp2_with (go_at_call 9; refine cW.mono ?_; rintro e w1 ⟨rfl, j, rfl⟩)
    go_ret
    exact ⟨rfl, drewN_below _ _⟩
  · have e1 : decide (536870911 < r) = false := decide_eq_false hbig
    obtain ⟨h1, -, -⟩ := hr (by show r ≤ 2147483647; omega)
    have hnb : n ≤ 536870911 := by rw [hn] at h1; simp at h1; omega
    have HN := Aside0.mk hnb
    clear hr hC hc hf hy hS hl hn hln hbig hwf hwt h1 hnb
    by_cases hbad : m < 4 ∨ 64 < m
    · go_enter Try.func6, Try.ntmps6
      rcases hbad with hb | hb
      · have d1 : decide (m < 4) = true := decide_eq_true hb
        clear hb
        go_wp2_with (first
          | (go_at_call 9; refine cW.mono ?_; rintro e w1 ⟨rfl, j, rfl⟩)
          | (go_at_call 10; refine (cA.out _).mono ?_; rintro e w2 ⟨rfl, hb2⟩; have B2 := Aside0.mk ((drewN_below w j).trans (hb2.mono (Nat.le_refl _))); clear hb2))
        go_ret
        exact ⟨rfl, B2.out⟩
      · have d1 : decide (m < 4) = false := decide_eq_false (by omega)
        have d2 : decide (64 < m) = true := decide_eq_true hb
        clear hb
        go_wp2_with (first
          | (go_at_call 9; refine cW.mono ?_; rintro e w1 ⟨rfl, j, rfl⟩)
          | (go_at_call 10; refine (cA.out _).mono ?_; rintro e w2 ⟨rfl, hb2⟩; have B2 := Aside0.mk ((drewN_below w j).trans (hb2.mono (Nat.le_refl _))); clear hb2))
        go_ret
        exact ⟨rfl, B2.out⟩
    · have d1 : decide (m < 4) = false := decide_eq_false (by omega)
      have d2 : decide (64 < m) = false := decide_eq_false (by omega)
      obtain ⟨M, rfl⟩ : ∃ M : Nat, m = M := ⟨m.toNat, by omega⟩
      have h4 : 4 ≤ M := by omega
      have hm : M ≤ 64 := by omega
      have cM : Aside0 (∀ w1, _) := ⟨fun w1 => new_none (w := w1) h4 hm⟩
      have cR : Aside0 (∀ w1, _) := ⟨fun w1 => newR_none (w := w1) h4 hm⟩
      have HM := Aside0.mk (And.intro h4 hm)
      clear hbad h4 hm
      go_enter Try.func6, Try.ntmps6
      go_upto_region 8 with (first
        | (go_at_call 9; refine cW.mono ?_; rintro e w1 ⟨rfl, j, rfl⟩)
        | (go_at_call 10; refine (cA.out _).mono ?_; rintro e w2 ⟨rfl, hb2⟩; have B2 := Aside0.mk ((drewN_below w j).trans (hb2.mono (Nat.le_refl _))); clear hb2)
        | (go_at_call 11; refine (cM.out _).mono ?_; rintro e w3 ⟨tb, S, rfl, hm3, hb3⟩; have M3 := Aside0.mk (hm3.base_on B2.out B2.out.size); clear hb3 hm3))
      go_upto_region 12 with (go_at_call 12; refine (cR.out _).mono ?_; rintro e w4 ⟨rb, R, rfl, k1, k2, k3⟩; have D4 : Aside0 (Tw w.heap.size w M w4 tb S [] rb R []) := ⟨Tw.mk' M3.out k1 k2 k3⟩; clear k1 k2 k3)
      go_loopg [13] n (fun kq v13 wr => ∃ (i : Nat) (S R : List Nat) (L : List KV), v13 = .int .i64 i ∧ Aside0 (i + kq = n) ∧ Aside0 (Tw w.heap.size w M wr tb S L rb R L ∧ FromL l L ∧ L.length ≤ i))
      case atStart => exact ⟨0, S, R, [], rfl, ⟨by omega⟩, ⟨D4.out, (fun p hp => by cases hp), Nat.le_refl _⟩⟩
      case round =>
        obtain ⟨i, S5, R5, L, rfl, h1, h2⟩ := hrel
        by_cases hi : i < n
        · have g1 : decide ((i : Int) < (n : Int)) = true := decide_eq_true (by omega)
          have g2 : decide (i < n) = true := decide_eq_true hi
          have g3 : (i : Int) < (n : Int) := by omega
          obtain ⟨p, hp⟩ : ∃ p, l[i]? = some p := ⟨_, List.getElem?_eq_getElem (by have := HL.out.2.1; omega)⟩
          obtain ⟨ad, rfl, z0, z1⟩ := (HL.out.1.below h2.out.1.mi.below) i p hp
          have bnd1 : L.length ≤ 2147483648 := by have := h2.out.2.2; have := HN.out; omega
          have WR : Aside0 (wrap64 ((i : Int) + 1) = ((i + 1 : Nat) : Int)) := ⟨w64j (by have := HN.out; omega)⟩
          have cP : Aside0 (∀ W, Below wr.heap.size wr W → Calls Try.prog 18 #[.pointer (some ⟨tb, 0, none⟩), .string ⟨p.1.toArray⟩, .string p.2] W fun e w' => e = .returned (ansG (getF p.1 L)) ∧ ∃ S', Tw w.heap.size w M w' tb S' (putF p.1 p.2 L) rb R5 L) := ⟨fun W hW => ((h2.out.1.on hW).put p.1 p.2 HM.out.1 HM.out.2 (by omega)).mono (fun e w' ⟨q1, S', q2, _⟩ => ⟨q1, S', q2⟩)⟩
          have cQ : Aside0 (∀ w5 S', Tw w.heap.size w M w5 tb S' (putF p.1 p.2 L) rb R5 L → Calls Try.prog 22 #[.pointer (some ⟨rb, 0, none⟩), .string ⟨p.1.toArray⟩, .string p.2] w5 fun e w' => e = .returned (ansG (getF p.1 L)) ∧ ∃ R', Tw w.heap.size w M w' tb S' (putF p.1 p.2 L) rb R' (putF p.1 p.2 L)) := ⟨fun w5 S' hd => (hd.rput p.1 p.2 bnd1 (tr_rises h2.out.1.mi.tr)).mono (fun e w' ⟨q1, R', q2, _⟩ => ⟨q1, R', q2⟩)⟩
          unfold ansG at cP cQ
          have HI := Aside0.mk (And.intro hi hp)
          clear hi hp bnd1
          go_upto_region 14 with fail
          refine start_ (n := 15) (S := fun w' => w'.cell? (ad.add (i * 2)) = some (.string ⟨p.1.toArray⟩) ∧ w'.cell? ⟨(ad.add (i * 2)).block, (ad.add (i * 2)).off + 1, none⟩ = some (.string p.2)) (ds := []) (mK 15 0) (by kernel_rfl) rfl rfl ⟨z0, z1⟩ (fun hHeld => ?_)
          refine with_tabW (T := (true, [([], []), ([], []), ([], []), ([1, 2], [1, 2]), ([3], [3]), ([4], [4]), ([], []), ([], []), ([6, 7], [6, 7]), ([8], [8]), ([9], [9]), ([0, 5, 10], [0, 5, 10]), ([11], [11]), ([12], [12]), ([12], [12])])) (B := [0, 0, 0, 6, 14, 30, 0, 0, 192, 448, 960, 2047, 4095, 8191, 8191]) (by kernel_rfl) (by kernel_rfl) (fun HT_ HW_ => ?_)
          refine pK 0 66 (mK 15 1) rfl rfl HT_ ?_
          refine pK 1 67 (mK 15 3) rfl rfl HT_ ?_
          refine pK 2 68 (mK 15 7) rfl rfl HT_ ?_
          refine pK 3 69 (mK 15 15) rfl rfl HT_ ?_
          refine pK 4 70 (mK 15 31) rfl rfl HT_ ?_
          refine pK 6 72 (mK 15 95) rfl rfl HT_ ?_
          refine pK 7 73 (mK 15 223) rfl rfl HT_ ?_
          refine pK 8 74 (mK 15 479) rfl rfl HT_ ?_
          refine pK 9 75 (mK 15 991) rfl rfl HT_ ?_
          refine take_ (i := 5) (N := some 71) (v := ?_) (a' := ?_) (mK 15 1023) rfl rfl (take_ofW HT_.out HW_.out (by kernel_rfl)) (fun _ _ _ h => h) (Or.inl ⟨by rfl, ?_⟩) hHeld ?_ ?_
          rotate_left; focus (rintro w' ⟨s0, s1⟩; go_simp; with_reducible rfl; done)
          rotate_left; focus (first | (simp only [Act.put, List.setIfInBounds_toArray, List.set_cons_zero, List.set_cons_succ, i64_w, i32_w]; rfl; done) | (rfl; done))
          refine take_ (i := 10) (N := some 76) (v := ?_) (a' := ?_) (mK 15 2047) rfl rfl (take_ofW HT_.out HW_.out (by kernel_rfl)) (fun _ _ _ h => h) (Or.inl ⟨by rfl, ?_⟩) hHeld ?_ ?_
          rotate_left; focus (rintro w' ⟨s0, s1⟩; go_simp; with_reducible rfl; done)
          rotate_left; focus (first | (simp only [Act.put, List.setIfInBounds_toArray, List.set_cons_zero, List.set_cons_succ, i64_w, i32_w]; rfl; done) | (rfl; done))
          refine one_ (i := 11) (N := some 77) (mK 15 4095) rfl rfl (one_of HT_.out (by kernel_rfl)) (by decide) (fun K hK => ?_)
          focus
           go_simp
           refine (cP.out _ ?_).mono ?_
           exact (by first | exact below_drew1 (Below.refl _ _) | exact Below.refl _ _)
           rintro e w6 ⟨rfl, S6, hd⟩
           have D6 := Aside0.mk hd
           clear hd
           go_simp
           refine hK.out _ _ (src_at' HL.out.1 D6.out.mi.below HI.out.2) (fun hHeld => ?_)
           clear hK K
           refine pK 12 65 (mK 15 8191) rfl rfl HT_ ?_
           refine pK 13 78 (mK 15 16383) rfl rfl HT_ ?_
           refine pK 14 79 (mK 15 32767) rfl rfl HT_ ?_
           refine done_ (done_of HT_.out (by kernel_rfl)) ?_
          have yy := src_at' HL.out.1 D6.out.mi.below HI.out.2
          go_upto_region 15 with fail
          refine start_ (n := 15) (S := fun w' => w'.cell? (ad.add (i * 2)) = some (.string ⟨p.1.toArray⟩) ∧ w'.cell? ⟨(ad.add (i * 2)).block, (ad.add (i * 2)).off + 1, none⟩ = some (.string p.2)) (ds := []) (mK 15 0) (by kernel_rfl) rfl rfl yy (fun hHeld => ?_)
          refine with_tabW (T := (true, [([], []), ([], []), ([], []), ([1, 2], [1, 2]), ([3], [3]), ([4], [4]), ([], []), ([], []), ([6, 7], [6, 7]), ([8], [8]), ([9], [9]), ([0, 5, 10], [0, 5, 10]), ([11], [11]), ([12], [12]), ([12], [12])])) (B := [0, 0, 0, 6, 14, 30, 0, 0, 192, 448, 960, 2047, 4095, 8191, 8191]) (by kernel_rfl) (by kernel_rfl) (fun HT_ HW_ => ?_)
          refine pK 0 81 (mK 15 1) rfl rfl HT_ ?_
          refine pK 1 82 (mK 15 3) rfl rfl HT_ ?_
          refine pK 2 83 (mK 15 7) rfl rfl HT_ ?_
          refine pK 3 84 (mK 15 15) rfl rfl HT_ ?_
          refine pK 4 85 (mK 15 31) rfl rfl HT_ ?_
          refine pK 6 87 (mK 15 95) rfl rfl HT_ ?_
          refine pK 7 88 (mK 15 223) rfl rfl HT_ ?_
          refine pK 8 89 (mK 15 479) rfl rfl HT_ ?_
          refine pK 9 90 (mK 15 991) rfl rfl HT_ ?_
          refine take_ (i := 5) (N := some 86) (v := ?_) (a' := ?_) (mK 15 1023) rfl rfl (take_ofW HT_.out HW_.out (by kernel_rfl)) (fun _ _ _ h => h) (Or.inl ⟨by rfl, ?_⟩) hHeld ?_ ?_
          rotate_left; focus (rintro w' ⟨s0, s1⟩; go_simp; with_reducible rfl; done)
          rotate_left; focus (first | (simp only [Act.put, List.setIfInBounds_toArray, List.set_cons_zero, List.set_cons_succ, i64_w, i32_w]; rfl; done) | (rfl; done))
          refine take_ (i := 10) (N := some 91) (v := ?_) (a' := ?_) (mK 15 2047) rfl rfl (take_ofW HT_.out HW_.out (by kernel_rfl)) (fun _ _ _ h => h) (Or.inl ⟨by rfl, ?_⟩) hHeld ?_ ?_
          rotate_left; focus (rintro w' ⟨s0, s1⟩; go_simp; with_reducible rfl; done)
          rotate_left; focus (first | (simp only [Act.put, List.setIfInBounds_toArray, List.set_cons_zero, List.set_cons_succ, i64_w, i32_w]; rfl; done) | (rfl; done))
          refine one_ (i := 11) (N := some 92) (mK 15 4095) rfl rfl (one_of HT_.out (by kernel_rfl)) (by decide) (fun K hK => ?_)
          focus
           go_simp
           refine (cQ.out _ _ (D6.out.on ?_)).mono ?_
           exact (by first | exact below_drew1 (Below.refl _ _) | exact Below.refl _ _)
           rintro e w7 ⟨rfl, R7, hd⟩
           have D7 := Aside0.mk hd
           clear hd
           go_simp
           refine hK.out _ _ (src_at' HL.out.1 D7.out.mi.below HI.out.2) (fun hHeld => ?_)
           clear hK K
           refine pK 12 80 (mK 15 8191) rfl rfl HT_ ?_
           refine pK 13 93 (mK 15 16383) rfl rfl HT_ ?_
           refine pK 14 94 (mK 15 32767) rfl rfl HT_ ?_
           refine done_ (done_of HT_.out (by kernel_rfl)) ?_
          go_wp2
          go_roundg (gk - 1)
          case measure => have h9 := h1.out; have h8 := HI.out.1; omega
          case rel => exact ⟨i + 1, S6, R7, putF p.1 p.2 L, by rw [WR.out], ⟨by have h9 := h1.out; have h8 := HI.out.1; omega⟩, ⟨D7.out, fromL_put h2.out.2.1 HI.out.2, by have h9 := putF_length (x := p.1) (v := p.2) (tr_rises h2.out.1.mi.tr); have h8 := h2.out.2.2; split at h9 <;> omega⟩⟩
        · have g1 : decide ((i : Int) < (n : Int)) = false := decide_eq_false (by omega)
          have g2 : decide (i < n) = false := decide_eq_false hi
          have hLn : L.length ≤ n := by have := h2.out.2.2; have := h1.out; omega
          clear hi
          go_upto_region 17 with fail
          obtain ⟨C, hC⟩ : ∃ C, Int.tmod turn ((n : Int) + 1) = C := ⟨_, rfl⟩
          have hCb := tmod_bounds turn (show (0 : Int) < (n : Int) + 1 by omega)
          rw [hC] at hCb
          have HC := Aside0.mk (And.intro hC hCb)
          have HB0 := Aside0.mk hLn
          clear hC hCb hLn
          go_loopg [14] n (fun kq v14 wr2 => ∃ (i : Nat) (S R : List Nat) (L : List KV), v14 = .int .i64 i ∧ Aside0 (i + kq = n) ∧ Aside0 (Tw w.heap.size w M wr2 tb S L rb R L ∧ EmpAt l L n C i))
          case atStart => exact ⟨0, S5, R5, L, rfl, ⟨by omega⟩, ⟨h2.out.1, ⟨h2.out.2.1, fun p hp j hj => absurd hj (Nat.not_lt_zero _), HB0.out⟩⟩⟩
          case round =>
            obtain ⟨i, S6, R6, L, rfl, h1, h2⟩ := hrel
            by_cases hi : i < n
            · have g1 : decide ((i : Int) < (n : Int)) = true := decide_eq_true (by omega)
              have g2 : decide (i < n) = true := decide_eq_true hi
              have hnn := HN.out
              have hcc := HC.out.2
              have n1 : ¬ ((n : Int) + 1 = 0) := by omega
              have n2 : ¬ ((n : Int) = 0) := by omega
              obtain ⟨K, hK⟩ : ∃ K, Int.tmod ((i : Int) + C) (n : Int) = K := ⟨_, rfl⟩
              have hKb := tmod_bounds ((i : Int) + C) (show (0 : Int) < (n : Int) by omega)
              rw [hK] at hKb
              have hem := rem_emod (a := (i : Int) + C) (n := (n : Int)) (by omega)
              rw [hK] at hem
              obtain ⟨e, he⟩ : ∃ e : Nat, ((i : Int) + C) % n = e := ⟨(((i : Int) + C) % n).toNat, by have := Int.emod_nonneg ((i : Int) + C) n2; omega⟩
              have hel := Int.emod_lt_of_pos ((i : Int) + C) (show (0 : Int) < (n : Int) by omega)
              rw [he] at hem hel
              have hen : e < n := by omega
              obtain ⟨p, hp⟩ : ∃ p, l[e]? = some p := ⟨_, List.getElem?_eq_getElem (by have := HL.out.2.1; omega)⟩
              obtain ⟨ad, rfl, z0, z1⟩ := (HL.out.1.below h2.out.1.mi.below) e p hp
              have g3 : (e : Int) < (n : Int) := hel
              have bnd1 : L.length ≤ 2147483648 := by have := h2.out.2.len; omega
              have WR : Aside0 (wrap64 ((i : Int) + 1) = ((i + 1 : Nat) : Int) ∧ wrap64 ((n : Int) + 1) = (n : Int) + 1 ∧ Int.tmod turn ((n : Int) + 1) = C ∧ wrap64 C = C ∧ wrap64 ((i : Int) + C) = (i : Int) + C ∧ Int.tmod ((i : Int) + C) (n : Int) = K ∧ wrap64 K = K ∧ wrap64 (K + n) = K + n ∧ wrap64 (e : Int) = (e : Int)) := ⟨w64j (by omega), (w64j (by omega)).trans (Int.natCast_succ n), HC.out.1, w64 (by omega) (by omega), w64 (by omega) (by omega), hK, w64 (by omega) (by omega), w64 (by omega) (by omega), wny (by omega)⟩
              have cP : Aside0 (∀ W, Below wr.heap.size wr W → Calls Try.prog 17 #[.pointer (some ⟨tb, 0, none⟩), .string ⟨p.1.toArray⟩] W fun e w' => e = .returned (ansG (getF p.1 L)) ∧ ∃ S', Tw w.heap.size w M w' tb S' (delF p.1 L) rb R6 L) := ⟨fun W hW => ((h2.out.1.on hW).del p.1 HM.out.1 HM.out.2 (by omega)).mono (fun e w' ⟨q1, S', q2, _⟩ => ⟨q1, S', q2⟩)⟩
              have cQ : Aside0 (∀ w5 S', Tw w.heap.size w M w5 tb S' (delF p.1 L) rb R6 L → Calls Try.prog 23 #[.pointer (some ⟨rb, 0, none⟩), .string ⟨p.1.toArray⟩] w5 fun e w' => e = .returned (ansG (getF p.1 L)) ∧ ∃ R', Tw w.heap.size w M w' tb S' (delF p.1 L) rb R' (delF p.1 L)) := ⟨fun w5 S' hd => (hd.rdel p.1 bnd1 (tr_rises h2.out.1.mi.tr)).mono (fun e w' ⟨q1, R', q2, _⟩ => ⟨q1, R', q2⟩)⟩
              unfold ansG at cP cQ
              have HI := Aside0.mk (And.intro hi (And.intro hp (And.intro he hen)))
              by_cases hneg : K < 0
              · rw [if_pos hneg] at hem
                have g5 : decide (K < 0) = true := decide_eq_true hneg
                clear hi hp bnd1 hnn hcc hK hKb he hel hen hneg
                obtain ⟨u1, u2, u3, u4, u5, u6, u7, u8, -⟩ := WR.out
                go_upto_region 22 with fail
                try rw [WR.out.2.2.2.2.2.2.2.2]
                go_upto_region 23 with (go_at_call 17; refine (cP.out _ (Below.refl _ _)).mono ?_; rintro e5 w5 ⟨rfl, S7, hd⟩; have D7 := Aside0.mk hd; clear hd)
                obtain ⟨y0, y1⟩ := src_at' HL.out.1 D7.out.mi.below HI.out.2.1
                go_wp2_with (go_at_call 23; refine (cQ.out _ _ D7.out).mono ?_; rintro e6 w6 ⟨rfl, R8, hd⟩; have D8 := Aside0.mk hd; clear hd)
                go_roundg (gk - 1)
                case measure => clear u1 u2 u3 u4 u5 u6 u7 u8; have h9 := h1.out; have h8 := HI.out.1; omega
                case rel => exact ⟨i + 1, S7, R8, delF p.1 L, by first | rw [WR.out.1] | simp, ⟨by clear u1 u2 u3 u4 u5 u6 u7 u8; have h9 := h1.out; have h8 := HI.out.1; omega⟩, ⟨D8.out, empAt_del h2.out.2 (tr_rises h2.out.1.mi.tr) HI.out.2.2.1 HI.out.2.1⟩⟩
              · rw [if_neg hneg] at hem
                have g5 : decide (K < 0) = false := decide_eq_false hneg
                clear hi hp bnd1 hnn hcc hK hKb he hel hen hneg
                obtain ⟨u1, u2, u3, u4, u5, u6, u7, u8, -⟩ := WR.out
                go_upto_region 22 with fail
                try rw [WR.out.2.2.2.2.2.2.2.2]
                go_upto_region 23 with (go_at_call 17; refine (cP.out _ (Below.refl _ _)).mono ?_; rintro e5 w5 ⟨rfl, S7, hd⟩; have D7 := Aside0.mk hd; clear hd)
                obtain ⟨y0, y1⟩ := src_at' HL.out.1 D7.out.mi.below HI.out.2.1
                go_wp2_with (go_at_call 23; refine (cQ.out _ _ D7.out).mono ?_; rintro e6 w6 ⟨rfl, R8, hd⟩; have D8 := Aside0.mk hd; clear hd)
                go_roundg (gk - 1)
                case measure => clear u1 u2 u3 u4 u5 u6 u7 u8; have h9 := h1.out; have h8 := HI.out.1; omega
                case rel => exact ⟨i + 1, S7, R8, delF p.1 L, by first | rw [WR.out.1] | simp, ⟨by clear u1 u2 u3 u4 u5 u6 u7 u8; have h9 := h1.out; have h8 := HI.out.1; omega⟩, ⟨D8.out, empAt_del h2.out.2 (tr_rises h2.out.1.mi.tr) HI.out.2.2.1 HI.out.2.1⟩⟩
            · have g1 : decide ((i : Int) < (n : Int)) = false := decide_eq_false (by omega)
              have g2 : decide (i < n) = false := decide_eq_false hi
              have hin : i = n := by have := h1.out; omega
              have hE := h2.out.2
              rw [hin] at hE
              have hnil := empAt_end hE HL.out.2.1
              have hM0 := h2.out.1.mi
              rw [hnil] at hM0
              have HM0 := Aside0.mk hM0
              have cZ := lenTree_calls hM0.tr
              have cL := (listTree_calls [] [] ((n : Int) + 1) HM.out.2 (by simp) hM0.tr)
              have cV : Aside0 (∀ W, Below wr.heap.size wr W → _) := ⟨fun W hW => levels_tr HM.out.1 (by simp) (tr_below hM0.tr hW)⟩
              have WR : Aside0 (wrap64 ((n : Int) + 1) = (n : Int) + 1) := ⟨(w64j (by have := HN.out; omega)).trans (Int.natCast_succ n)⟩
              clear hi hin hE hnil hM0
              have u1 := WR.out
              go_upto_region 27 with (go_at_call 20; refine cZ.mono ?_; rintro e5 w5 ⟨rfl, rfl⟩)
              go_upto_region 28 with (go_at_call 13; refine cL.mono ?_; rintro e6 w6 ⟨v, rfl, hv, hb6, -⟩; have HV := Aside0.mk (And.intro hv hb6); clear hv hb6)
              obtain ⟨Av, cv, rfl, -, -⟩ := RowC.shape HV.out.1
              have hl0 : (listF [] [] ((n : Int) + 1) ([] : List KV)).length = 0 := rfl
              rw [hl0]
              go_upto_region 29 with (go_at_call 19; refine (cV.out _ HV.out.2).mono ?_; rintro e7 w7 ⟨v, L7, rfl, hv7, hS7, hb7⟩; have HV7 := Aside0.mk (And.intro hv7 (And.intro hS7 hb7)); clear hv7 hS7 hb7)
              obtain ⟨s7, hs7⟩ : ∃ s, L7[0]? = some s := ⟨_, List.getElem?_eq_getElem (shape_pos HV7.out.2.1)⟩
              obtain ⟨g7, c7, A7, c8, rfl, -, -⟩ := rows_at HV7.out.1 hs7
              have hL7 : L7.length = 1 := by
                rcases shape_last HM.out.1 HV7.out.2.1 with h9 | h9
                · exact h9
                · exact absurd h9 (by
                    have h8 : 0 < 2 * (M / 2) ^ (L7.length - 1) := Nat.mul_pos (by decide) (Nat.pow_pos (by have := HM.out; omega))
                    simp only [List.length_nil]
                    omega)
              rw [hL7]
              have HE : Aside0 (Below w.heap.size w w7) := ⟨(HM0.out.on HV.out.2).below.trans (HV7.out.2.2.mono (HM0.out.on HV.out.2).base)⟩
              clear hs7 hL7 hl0
              go_wp2
              go_ret
              exact ⟨rfl, HE.out⟩
end Go.Proofs.YtmomohljnmopfaaX
end
