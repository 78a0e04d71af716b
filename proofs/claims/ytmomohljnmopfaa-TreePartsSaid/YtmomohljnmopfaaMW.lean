/- Several texts in one: YE; no conditions beyond those in each theorem's head. -/
import Derived.Test.YtmomohljnmopfaaMF
import Derived.Test.YtmomohljnmopfaaMZ
import Derived.Test.YtmomohljnmopfaaMT
section
namespace Go.Proofs.YtmomohljnmopfaaX
open Go.RowKit Go.Lib Go.Proofs.YtmomohljnmopfaaW.PrintWords Go.Proofs.YtmomohljnmopfaaW.PrintLast Go.Proofs.YtmomohljnmopfaaW.PrintMore
open Go.Proofs.Ytmomohljnmopfaa.PTreeParts (S40 k40)
set_option linter.unusedVariables false
set_option linter.unusedSimpArgs false
theorem nm_of (x : ByteArray) : ∃ k : Nm, x = ⟨k.toArray⟩ := ⟨x.data.toList, by simp⟩
/-- weighs, of any list. -/
theorem weighs_any {w : World} {A : Option Addr} {c : Nat} {xs : List S40} (hC : Kd.C k40 w A xs.length xs) (hc : xs.length ≤ c) (hm : c ≤ maxLen) :
    ∃ r : Int, (Calls Try.prog 9 #[.slice A xs.length c, .slice none 0 0] w fun e w' => e = .returned (.int .i64 r) ∧ ∃ n, w' = w.drewN n) ∧ (r ≤ 536870911 → xs.length ≤ 536870911 ∧ ∀ p ∈ xs.map kS, p.1.length ≤ 4294967296) := by
  by_cases hs : xs.length ≤ 140737488351232
  · obtain ⟨r, cW, hr⟩ := weighs_calls (w := w) (B := none) (d := 0) (s := []) hC ⟨rfl, by decide, fun h => absurd h (by decide)⟩ hs (by decide) hc (Nat.le_refl _)
    refine ⟨r, cW, fun h => ?_⟩
    obtain ⟨h1, h2, -⟩ := hr (by show r ≤ 2147483647; omega)
    refine ⟨by simp at h1; omega, fun p hp => ?_⟩
    obtain ⟨y, hy, rfl⟩ := List.mem_map.1 hp
    obtain ⟨j, hj⟩ := List.mem_iff_getElem?.1 hy
    have h3 : (y.f0.size : Int) ≤ 2147483647 := (h2 j y hj).1
    show y.f0.data.toList.length ≤ _
    have h4 : y.f0.data.toList.length = y.f0.size := by rw [Array.length_toList]; rfl
    omega
  · refine ⟨xs.length, weighs_huge (B := none) (d := 0) hC ⟨rfl, by decide, fun h => absurd h (by decide)⟩ (by omega) (by simp only [maxLen] at hm; omega) hc, fun h => by omega⟩
theorem wp_append_run {ops : Array Oper} {rest : List Oper} {o : Oper} {a : Act} {Q : Exit → Act → World → Prop} {w w' : World} {v u v' : Value} (hgd : o.guard = none) (sl x : Operand) (ho : o.op = .call { callee := .builtin .append, args := #[sl, x], argTypes := #[22, 22] }) (hty : o.type = 22) (hs : a.eval sl = v) (hx : a.eval x = u)
    (hr : (Builtin.append_ #[22, 22] 22 #[v, u]).run Try.prog w = .ok v' w') (h : wpList Try.prog ops Q rest (a.put o.dst v') w') : wpList Try.prog ops Q (o :: rest) a w := by
  refine wpList_plain hgd fun K' hK2 => ?_
  unfold Oper.wp execOp
  simp only [ho, hty, resolve, invoke, builtin, Sem.run_bind, Sem.run_pure, Result.andThen_ok, List.map_toArray, List.map_cons, List.map_nil, hs, hx, hr]
  exact hK2 _ _ h
/-- Where a cursor stands. -/
structure CurAt (w W : World) (tb cb : Nat) (S : List Nat) (l : List KV) (v : Value) (all : List KV) (cur : Nm) : Prop where
  mi : Mi w.heap.size w 4 W tb S l
  row : RowP W v all
  cu : W.heap[cb]? = some (.cells #[.pointer (some ⟨tb, 0, none⟩), .string ⟨cur.toArray⟩] 85 (0, 0))
  o1 : ∀ q ∈ v.ownBlock.toList, q < cb
  o2 : ∀ q ∈ S, q < cb
  o3 : w.heap.size ≤ cb
theorem CurAt.fr {w W W' : World} {tb cb : Nat} {S : List Nat} {l : List KV} {v : Value} {all : List KV} {cur cur' : Nm} (h : CurAt w W tb cb S l v all cur) (hf : Fr [cb] W W') (hc : W'.heap[cb]? = some (.cells #[.pointer (some ⟨tb, 0, none⟩), .string ⟨cur'.toArray⟩] 85 (0, 0))) : CurAt w W' tb cb S l v all cur' :=
  ⟨h.mi.fr hf (fun k hk => by simp at hk; rw [hk]; exact h.o3) (fun k hk h9 => by simp at h9; have := h.o2 k hk; omega), RowC.fr h.row hf (fun q hq h9 => by simp at h9; have := h.o1 q hq; omega), hc, h.o1, h.o2, h.o3⟩
theorem cur_next {w W : World} {tb cb : Nat} {S : List Nat} {l : List KV} {v : Value} {all : List KV} {cur : Nm} {p : KV} {r : List KV} (h : CurAt w W tb cb S l v all cur) (hl : l.length ≤ 4294967296) (hk : ∀ p ∈ l, p.1.length ≤ 4294967296) (hf : fromF cur l = p :: r) :
    Calls Try.prog 15 #[.pointer (some ⟨cb, 0, none⟩)] W fun e w' => e = .returned (.tuple #[.string ⟨p.1.toArray⟩, .string p.2, .bool true]) ∧ CurAt w w' tb cb S l v all (p.1 ++ [0]) :=
  (next_calls (by decide) hl hk h.mi.tr h.cu).mono (fun e w' h9 => by
    unfold NextP at h9
    rw [hf] at h9
    exact ⟨h9.1, h.fr h9.2.2 h9.2.1⟩)
theorem cur_end {w W : World} {tb cb : Nat} {S : List Nat} {l : List KV} {v : Value} {all : List KV} {cur : Nm} (h : CurAt w W tb cb S l v all cur) (hl : l.length ≤ 4294967296) (hk : ∀ p ∈ l, p.1.length ≤ 4294967296) (hf : fromF cur l = []) :
    Calls Try.prog 15 #[.pointer (some ⟨cb, 0, none⟩)] W fun e w' => e = .returned (.tuple #[.string ⟨#[]⟩, .string ⟨#[]⟩, .bool false]) ∧ Below W.heap.size W w' :=
  (next_calls (by decide) hl hk h.mi.tr h.cu).mono (fun e w' h9 => by
    unfold NextP at h9
    rw [hf] at h9
    exact h9)
set_option maxRecDepth 100000 in
set_option maxHeartbeats 8000000 in
theorem Parts_calls (A : Option Addr) (c : Nat) (xs : List S40) (x y z : ByteArray) (w : World) (hC : Kd.C k40 w A xs.length xs) (hc : xs.length ≤ c) (hm : c ≤ maxLen) :
    Calls Try.prog 3 #[.agg #[.slice A xs.length c, .string x, .string y, .string z]] w fun e w' => e = .returned (.bool true) ∧ Below w.heap.size w w' := by
  obtain ⟨frm, rfl⟩ := nm_of x
  obtain ⟨mid, rfl⟩ := nm_of y
  obtain ⟨til, rfl⟩ := nm_of z
  obtain ⟨W0, hW0⟩ : ∃ W0, w.alloc (.cells #[.slice A xs.length c, .string ⟨frm.toArray⟩, .string ⟨mid.toArray⟩, .string ⟨til.toArray⟩] 24) = W0 := ⟨_, rfl⟩
  have B0 : Below w.heap.size w W0 := by rw [← hW0]; exact below_alloc (Below.refl _ _) _
  have hC0 := Kd.C_below hC B0
  obtain ⟨r, cW, hr⟩ := weighs_any hC0 hc hm
  have hS := src_pairs hC0
  obtain ⟨l, hl⟩ : ∃ l, xs.map kS = l := ⟨_, rfl⟩
  obtain ⟨n, hn⟩ : ∃ n, xs.length = n := ⟨_, rfl⟩
  have hln : l.length = n := by rw [← hl, List.length_map, hn]
  rw [hl] at hS hr
  rw [hn] at cW hW0 hc hr ⊢
  have cA : Aside0 (∀ w1, Calls Try.prog 10 #[] w1 fun e w' => e = .returned (.bool true) ∧ Below w1.heap.size w1 w') := ⟨awake_calls⟩
  have HL := Aside0.mk (And.intro hS (And.intro hln hc))
  have HB0 := Aside0.mk B0
  have HW0 := Aside0.mk hW0
  have HR := Aside0.mk hr
  clear hC hC0 hS hl hn hln hc hm hr B0 hW0
  go_enter Try.func3, Try.ntmps3
  go_upto_region 5 with fail
  rw [HW0.out]
  go_upto_region 6 with (go_at_call 9; refine cW.mono ?_; rintro e w1 ⟨rfl, j, rfl⟩)
  have B1 := Aside0.mk (HB0.out.trans ((drewN_below W0 j).mono HB0.out.size))
  by_cases hbig : 536870911 < r
  · have e1 : decide (536870911 < r) = true := decide_eq_true hbig
    clear hbig
    go_wp2
    go_ret
    exact ⟨rfl, B1.out⟩
  have e1 : decide (536870911 < r) = false := decide_eq_false hbig
  have HN := Aside0.mk (HR.out (Int.not_lt.1 hbig))
  clear hbig
  by_cases hf : 2147483647 < frm.length
  · have e2 : decide (2147483647 < (frm.length : Int)) = true := decide_eq_true (by omega)
    have e2' : decide (2147483647 < frm.length) = true := decide_eq_true hf
    clear hf
    go_wp2
    go_ret
    exact ⟨rfl, B1.out⟩
  have e2 : decide (2147483647 < (frm.length : Int)) = false := decide_eq_false (by omega)
  have e2' : decide (2147483647 < frm.length) = false := decide_eq_false hf
  clear hf
  by_cases hf : 2147483647 < mid.length
  · have e3 : decide (2147483647 < (mid.length : Int)) = true := decide_eq_true (by omega)
    have e3' : decide (2147483647 < mid.length) = true := decide_eq_true hf
    clear hf
    go_wp2
    go_ret
    exact ⟨rfl, B1.out⟩
  have e3 : decide (2147483647 < (mid.length : Int)) = false := decide_eq_false (by omega)
  have e3' : decide (2147483647 < mid.length) = false := decide_eq_false hf
  clear hf
  by_cases hf : 2147483647 < til.length
  · have e4 : decide (2147483647 < (til.length : Int)) = true := decide_eq_true (by omega)
    have e4' : decide (2147483647 < til.length) = true := decide_eq_true hf
    clear hf
    go_wp2
    go_ret
    exact ⟨rfl, B1.out⟩
  have e4 : decide (2147483647 < (til.length : Int)) = false := decide_eq_false (by omega)
  have e4' : decide (2147483647 < til.length) = false := decide_eq_false hf
  clear hf
  by_cases hri : Rises l
  · have cN : Aside0 (∀ w1, Below W0.heap.size W0 w1 → _) := ⟨fun w1 hb => new_own (m := 4) (w := w1) (by decide) (by decide) (HL.out.1.below hb) (by rw [HL.out.2.1]; exact HL.out.2.2) (by rw [HL.out.2.1]; have := HN.out.1; omega) hri⟩
    have cR : Aside0 (∀ w1, Below W0.heap.size W0 w1 → Calls Try.prog 12 #[.int .i64 4, .slice A l.length c] w1 fun e w' => ∃ rb, e = .returned (.tuple #[.pointer (some ⟨rb, 0, none⟩), .int .i64 0]) ∧ Below w1.heap.size w1 w') := ⟨fun w1 hb => (newR_calls (m := 4) (w := w1) (by decide) (by decide) (HL.out.1.below hb) (by rw [HL.out.2.1]; exact HL.out.2.2) (by rw [HL.out.2.1]; have := HN.out.1; omega)).mono (fun e w' h9 => by
      unfold NewR at h9
      rw [if_neg (by omega), if_pos hri] at h9
      obtain ⟨rb, R, k1, k2, k3, k4⟩ := h9
      exact ⟨rb, k1, k3⟩)⟩
    rw [HL.out.2.1] at cN cR
    go_upto_region 9 with (go_at_call 10; refine (cA.out _).mono ?_; rintro e w2 ⟨rfl, hb2⟩; have B2 := Aside0.mk ((drewN_below W0 j).trans (hb2.mono (Nat.le_refl _))); clear hb2)
    go_upto_region 10 with (go_at_call 11; refine (cN.out _ B2.out).mono ?_; rintro e w3 ⟨tb, S, rfl, hm3, hb3⟩; have M3 := Aside0.mk (hm3.base_on (HB0.out.trans (B2.out.mono HB0.out.size)) (Nat.le_trans HB0.out.size B2.out.size)); have B3 := Aside0.mk (B2.out.trans (hb3.mono B2.out.size)); clear hm3 hb3)
    go_upto_region 11 with (go_at_call 12; refine (cR.out _ B3.out).mono ?_; rintro e w4 ⟨rb, rfl, hb4⟩; have M4 := Aside0.mk (M3.out.on hb4); clear hb4)
    have HRI := Aside0.mk hri
    have cLa : Aside0 (∀ {f t : Nm} {W : World} {S' : List Nat}, Mi w.heap.size w 4 W tb S' l → Calls Try.prog 13 #[.pointer (some ⟨tb, 0, none⟩), .string ⟨f.toArray⟩, .string ⟨t.toArray⟩, .int .i64 n] W fun e w' => ∃ v, e = .returned v ∧ RowP w' v (listF f t n l) ∧ Below W.heap.size W w' ∧ ∀ k ∈ v.ownBlock.toList, W.heap.size ≤ k) := ⟨fun hM => listTree_calls _ _ _ (by decide) (by rw [HL.out.2.1]; have := HN.out.1; omega) hM.tr⟩
    have cL1 := cLa.out (f := frm) (t := til) M4.out
    have cSk : Aside0 (∀ W, Calls Try.prog 14 #[.pointer (some ⟨tb, 0, none⟩), .string ⟨frm.toArray⟩] W fun e w' => e = .returned (.pointer (some ⟨W.heap.size, 0, none⟩)) ∧ w' = W.alloc (.cells #[.pointer (some ⟨tb, 0, none⟩), .string ⟨frm.toArray⟩] 85)) := ⟨fun W => seek_calls _⟩
    clear hri
    go_upto_region 16 with (go_at_call 13; refine cL1.mono ?_; rintro e w5 ⟨vall, rfl, hr5, hb5, ho5⟩; have R5 := Aside0.mk (And.intro hr5 ho5); have M5 := Aside0.mk (M4.out.on hb5); clear hr5 hb5 ho5)
    obtain ⟨k, hk1, hk2, hk3⟩ := listF_pre (frm := frm) (til := til) (l := l) (most := (n : Int)) (by rw [HL.out.2.1]; exact Int.le_refl _)
    obtain ⟨all, hall⟩ : ∃ all, listF frm til n l = all := ⟨_, rfl⟩
    have hbt := listF_btw (frm := frm) (til := til) HRI.out (most := (n : Int)) (by rw [HL.out.2.1]; exact Int.le_refl _)
    rw [hall] at R5 hk2 hbt
    have hkl : all.length = k := by rw [hk2, List.length_take]; omega
    obtain ⟨Av, cv, rfl, hcv, -⟩ := RowC.shape R5.out.1
    have HK := Aside0.mk (And.intro hk1 (And.intro hk2 (And.intro hk3 (And.intro hbt (And.intro hkl (hkl ▸ hcv))))))
    have hown5 : ∀ q ∈ (Value.slice Av all.length cv).ownBlock.toList, q < w5.heap.size := RowC.lt R5.out.1
    rw [hkl] at R5 hown5 ⊢
    have HOW := Aside0.mk hown5
    clear hk1 hk2 hk3 hall hbt hkl hcv hown5
    go_upto_region 20 with (go_at_call 14; refine (cSk.out _).mono ?_; rintro e w6 ⟨rfl, rfl⟩)
    obtain ⟨W6, hW6⟩ : ∃ W6, w5.alloc (.cells #[.pointer (some ⟨tb, 0, none⟩), .string ⟨frm.toArray⟩] 85) = W6 := ⟨_, rfl⟩
    obtain ⟨cb, hcb⟩ : ∃ cb, w5.heap.size = cb := ⟨_, rfl⟩
    have H6 : Aside0 (CurAt w W6 tb cb S l (.slice Av k cv) all frm) := ⟨by
      rw [← hW6, ← hcb]
      exact ⟨M5.out.on (below_alloc (Below.refl _ _) _), RowC.below R5.out.1 (below_alloc (Below.refl _ _) _), blk_new _ _, HOW.out, fun q hq => tr_lt M5.out.tr q hq, M5.out.base⟩⟩
    rw [hW6, hcb]
    clear hW6 hcb
    go_loopg [15] k (fun kq v15 wr => ∃ (i : Nat) (cur : Nm), v15 = .int .i64 i ∧ Aside0 (i + kq = k) ∧ Aside0 (CurAt w wr tb cb S l (.slice Av k cv) all cur ∧ fromF cur l = (fromF frm l).drop i))
    case atStart => exact ⟨0, frm, rfl, ⟨by omega⟩, ⟨H6.out, rfl⟩⟩
    case round =>
      obtain ⟨i, cur, rfl, h1, h2⟩ := hrel
      by_cases hi : i < k
      · have g1 : decide ((i : Int) < (k : Int)) = true := decide_eq_true (by omega)
        have g2 : decide (i < k) = true := decide_eq_true hi
        have g3 : (i : Int) < (k : Int) := by omega
        obtain ⟨p, hp⟩ : ∃ p, (fromF frm l)[i]? = some p := ⟨_, List.getElem?_eq_getElem (by have := HK.out.1; omega)⟩
        have hpa : all[i]? = some p := by rw [HK.out.2.1, List.getElem?_take, if_pos hi]; exact hp
        have hd : fromF cur l = p :: (fromF frm l).drop (i + 1) := by
          have h9 := List.getElem?_eq_some_iff.1 hp
          rw [h2.out.2, List.drop_eq_getElem_cons h9.1, h9.2]
        have cX := cur_next h2.out.1 (by rw [HL.out.2.1]; have := HN.out.1; omega) HN.out.2 hd
        have hnx := fromF_next HRI.out hd
        have WR : Aside0 (wrap64 ((i : Int) + 1) = ((i + 1 : Nat) : Int)) := ⟨w64j (by have := HK.out.1; have := fromF_len (x := frm) (l := l); have := HL.out.2.1; have := HN.out.1; omega)⟩
        have HI := Aside0.mk (And.intro hi (And.intro hpa hnx))
        clear hi hp hpa hd hnx
        go_upto_region 23 with (go_at_call 15; refine cX.mono ?_; rintro e w7 ⟨rfl, hc7⟩; have C7 := Aside0.mk hc7; clear hc7)
        obtain ⟨g, c9, hv, z0, z1, -⟩ := RowP.at C7.out.row HI.out.2.1
        rw [HK.out.2.2.2.2.1] at hv
        simp only [Value.slice.injEq] at hv
        obtain ⟨rfl, -, rfl⟩ := hv
        go_wp2
        go_roundg (gk - 1)
        case measure => have h9 := h1.out; have h8 := HI.out.1; omega
        case rel => exact ⟨i + 1, p.1 ++ [0], by rw [WR.out], ⟨by have h9 := h1.out; have h8 := HI.out.1; omega⟩, ⟨C7.out, HI.out.2.2⟩⟩
      · have g1 : decide ((i : Int) < (k : Int)) = false := decide_eq_false (by omega)
        have g2 : decide (i < k) = false := decide_eq_false hi
        have hik : i = k := by have := h1.out; omega
        have hdr := h2.out.2
        rw [hik] at hdr
        clear hi
        by_cases hlk : k < (fromF frm l).length
        · obtain ⟨p, hp⟩ : ∃ p, (fromF frm l)[k]? = some p := ⟨_, List.getElem?_eq_getElem hlk⟩
          have hd : fromF cur l = p :: (fromF frm l).drop (k + 1) := by
            have h9 := List.getElem?_eq_some_iff.1 hp
            rw [hdr, List.drop_eq_getElem_cons h9.1, h9.2]
          have cX := cur_next h2.out.1 (by rw [HL.out.2.1]; have := HN.out.1; omega) HN.out.2 hd
          obtain ⟨ht1, ht2⟩ := HK.out.2.2.1 p hp
          have t1 : List.isEmpty til = false := by
            cases til with
            | nil => exact absurd rfl ht1
            | cons _ _ => rfl
          have t2 : Op.bytesLess p.1 til = false := by rw [nlt_eq]; exact decide_eq_false ht2
          have HT1 := Aside0.mk ht1
          clear hlk hp hd hdr hik ht1 ht2
          go_upto_region 28 with (go_at_call 15; refine cX.mono ?_; rintro e w8 ⟨rfl, hc8⟩; have C8 := Aside0.mk hc8; clear hc8)
          have E8 : Aside0 (Mi w.heap.size w 4 w8 tb S l ∧ RowP w8 (.slice Av k cv) all ∧ ∀ q ∈ (Value.slice Av k cv).ownBlock.toList, q < w8.heap.size) := ⟨⟨C8.out.mi, C8.out.row, RowC.lt C8.out.row⟩⟩
          by_cases hmf : mid < frm
          · have c1 : Op.bytesLess mid frm = true := by rw [nlt_eq]; exact decide_eq_true hmf
            clear hmf
            go_wp2
            go_ret
            exact ⟨rfl, E8.out.1.below⟩
          have c1 : Op.bytesLess mid frm = false := by rw [nlt_eq]; exact decide_eq_false hmf
          by_cases hme : mid = []
          · have c2 : List.isEmpty mid = true := by rw [hme]; rfl
            clear hmf hme
            go_wp2
            go_ret
            exact ⟨rfl, E8.out.1.below⟩
          have c2 : List.isEmpty mid = false := by
            cases mid with
            | nil => exact absurd rfl hme
            | cons _ _ => rfl
          by_cases htm : til < mid
          · have c3 : Op.bytesLess mid til = false := by rw [nlt_eq]; exact decide_eq_false (fun h9 => nm_irrefl _ (nm_trans h9 htm))
            have c4 : (mid == til) = false := beq_eq_false_iff_ne.2 (fun h9 => nm_irrefl _ (by rw [h9] at htm; exact htm))
            clear hmf hme htm
            go_wp2
            go_ret
            exact ⟨rfl, E8.out.1.below⟩
          have HTM : Aside0 (til = [] ∨ ¬ til < mid) := ⟨.inr htm⟩
          by_cases hmt : mid < til
          · have c3 : Op.bytesLess mid til = true := by rw [nlt_eq]; exact decide_eq_true hmt
            clear htm hmt
            have HSP := Aside0.mk (btw_split hmf hme HTM.out HRI.out)
            have cLb := cLa.out (f := frm) (t := mid) E8.out.1
            clear hmf hme
            go_upto_region 31 with (go_at_call 13; refine cLb.mono ?_; rintro e w9 ⟨va, rfl, hra, hba, hoa⟩; have A9 := Aside0.mk (And.intro hra (And.intro hba hoa)); have M9 := Aside0.mk (E8.out.1.on hba); clear hra hba hoa)
            have cLc := cLa.out (f := mid) (t := til) M9.out
            go_upto_region 32 with (go_at_call 13; refine cLc.mono ?_; rintro e w10 ⟨vb, rfl, hrb, hbb, -⟩; have A10 := Aside0.mk (And.intro hrb hbb); clear hrb hbb)
            have hra := RowC.below A9.out.1 A10.out.2
            have hrb := A10.out.1
            have hln1 : (l.length : Int) ≤ (n : Int) := by rw [HL.out.2.1]; exact Int.le_refl _
            rw [listF_btw HRI.out hln1] at hra hrb
            obtain ⟨v', w11, hrun, hr11, hg11, ho11⟩ := append_rowp hra hrb (by
              have h9 := congrArg List.length HSP.out
              rw [List.length_append] at h9
              have h8 : (btw frm til l).length ≤ l.length := List.length_filter_le ..
              have h7 := HL.out.2.1
              have h6 := HN.out.1
              omega)
            rw [HSP.out, ← HK.out.2.2.2.1] at hr11
            have hb10 : Below w8.heap.size w8 w10 := A9.out.2.1.trans (A10.out.2.mono A9.out.2.1.size)
            have hall : RowP w11 (.slice Av k cv) all := by
              refine RowC.step (RowC.below E8.out.2.1 hb10) (fun q hq => ?_)
              have hq8 := E8.out.2.2 q hq
              refine hg11.block q (Nat.lt_of_lt_of_le hq8 hb10.size) (fun e9 => ?_)
              have h9 := A9.out.2.2 q (by rw [← e9]; simp)
              omega
            have hbel : Below w.heap.size w w11 := (E8.out.1.below.trans (hb10.mono E8.out.1.base)).grown hg11 (Nat.le_trans E8.out.1.base hb10.size) (fun q hq => Nat.le_trans E8.out.1.base (A9.out.2.2 q (by rw [hq]; simp)))
            obtain ⟨Ar, cr, rfl, hcr, -⟩ := RowC.shape hr11
            have cS := same_calls (RowC.srcP hr11) (RowC.srcP hall) (by rw [HK.out.2.2.2.2.1]; have h9 := HK.out.1; have h8 := fromF_len (x := frm) (l := l); have h7 := HL.out.2.1; have h6 := HN.out.1; omega) hcr (by rw [HK.out.2.2.2.2.1]; exact HK.out.2.2.2.2.2)
            rw [HK.out.2.2.2.2.1] at cS hrun
            have HBE := Aside0.mk hbel
            clear hra hrb hr11 hg11 ho11 hb10 hall hbel hcr hln1
            go_upto_region 33 with ((with_reducible refine gate_dst (N := 166) rfl ?_); refine wp_append_run rfl (.tmp 164) (.tmp 165) rfl rfl (by simp [Act.eval, Act.put]) (by simp [Act.eval, Act.put]) hrun ?_)
            go_wp2_with (go_at_call 16; refine cS.mono ?_; rintro e w12 ⟨rfl, j12, rfl⟩)
            go_ret
            exact ⟨rfl, HBE.out.trans ((drewN_below w11 j12).mono HBE.out.size)⟩
          have hmt2 : mid = til := by
            by_cases h9 : mid = til
            · exact h9
            · exact absurd (nm_tri hmt h9) htm
          clear htm hmt
          subst hmt2
          have c3 : Op.bytesLess mid mid = false := by rw [nlt_eq]; exact decide_eq_false (nm_irrefl mid)
          have HSP := Aside0.mk (btw_split hmf hme HTM.out HRI.out)
          have cLb := cLa.out (f := frm) (t := mid) E8.out.1
          clear hmf hme
          go_upto_region 31 with (go_at_call 13; refine cLb.mono ?_; rintro e w9 ⟨va, rfl, hra, hba, hoa⟩; have A9 := Aside0.mk (And.intro hra (And.intro hba hoa)); have M9 := Aside0.mk (E8.out.1.on hba); clear hra hba hoa)
          have cLc := cLa.out (f := mid) (t := mid) M9.out
          go_upto_region 32 with (go_at_call 13; refine cLc.mono ?_; rintro e w10 ⟨vb, rfl, hrb, hbb, -⟩; have A10 := Aside0.mk (And.intro hrb hbb); clear hrb hbb)
          have hra := RowC.below A9.out.1 A10.out.2
          have hrb := A10.out.1
          have hln1 : (l.length : Int) ≤ (n : Int) := by rw [HL.out.2.1]; exact Int.le_refl _
          rw [listF_btw HRI.out hln1] at hra hrb
          obtain ⟨v', w11, hrun, hr11, hg11, ho11⟩ := append_rowp hra hrb (by
            have h9 := congrArg List.length HSP.out
            rw [List.length_append] at h9
            have h8 : (btw frm mid l).length ≤ l.length := List.length_filter_le ..
            have h7 := HL.out.2.1
            have h6 := HN.out.1
            omega)
          rw [HSP.out, ← HK.out.2.2.2.1] at hr11
          have hb10 : Below w8.heap.size w8 w10 := A9.out.2.1.trans (A10.out.2.mono A9.out.2.1.size)
          have hall : RowP w11 (.slice Av k cv) all := by
            refine RowC.step (RowC.below E8.out.2.1 hb10) (fun q hq => ?_)
            have hq8 := E8.out.2.2 q hq
            refine hg11.block q (Nat.lt_of_lt_of_le hq8 hb10.size) (fun e9 => ?_)
            have h9 := A9.out.2.2 q (by rw [← e9]; simp)
            omega
          have hbel : Below w.heap.size w w11 := (E8.out.1.below.trans (hb10.mono E8.out.1.base)).grown hg11 (Nat.le_trans E8.out.1.base hb10.size) (fun q hq => Nat.le_trans E8.out.1.base (A9.out.2.2 q (by rw [hq]; simp)))
          obtain ⟨Ar, cr, rfl, hcr, -⟩ := RowC.shape hr11
          have cS := same_calls (RowC.srcP hr11) (RowC.srcP hall) (by rw [HK.out.2.2.2.2.1]; have h9 := HK.out.1; have h8 := fromF_len (x := frm) (l := l); have h7 := HL.out.2.1; have h6 := HN.out.1; omega) hcr (by rw [HK.out.2.2.2.2.1]; exact HK.out.2.2.2.2.2)
          rw [HK.out.2.2.2.2.1] at cS hrun
          have HBE := Aside0.mk hbel
          clear hra hrb hr11 hg11 ho11 hb10 hall hbel hcr hln1
          go_upto_region 33 with ((with_reducible refine gate_dst (N := 166) rfl ?_); refine wp_append_run rfl (.tmp 164) (.tmp 165) rfl rfl (by simp [Act.eval, Act.put]) (by simp [Act.eval, Act.put]) hrun ?_)
          go_wp2_with (go_at_call 16; refine cS.mono ?_; rintro e w12 ⟨rfl, j12, rfl⟩)
          go_ret
          exact ⟨rfl, HBE.out.trans ((drewN_below w11 j12).mono HBE.out.size)⟩
        · have hd : fromF cur l = [] := by rw [hdr, List.drop_of_length_le (by omega)]
          have cX := cur_end h2.out.1 (by rw [HL.out.2.1]; have := HN.out.1; omega) HN.out.2 hd
          clear hlk hd hdr hik
          go_upto_region 28 with (go_at_call 15; refine cX.mono ?_; rintro e w8 ⟨rfl, hb8⟩; have B8 := Aside0.mk hb8; clear hb8)
          have E8 : Aside0 (Mi w.heap.size w 4 w8 tb S l ∧ RowP w8 (.slice Av k cv) all ∧ ∀ q ∈ (Value.slice Av k cv).ownBlock.toList, q < w8.heap.size) := ⟨by
            have h9 := RowC.below h2.out.1.row B8.out
            exact ⟨h2.out.1.mi.on B8.out, h9, RowC.lt h9⟩⟩
          by_cases hmf : mid < frm
          · have c1 : Op.bytesLess mid frm = true := by rw [nlt_eq]; exact decide_eq_true hmf
            clear hmf
            go_wp2
            go_ret
            exact ⟨rfl, E8.out.1.below⟩
          have c1 : Op.bytesLess mid frm = false := by rw [nlt_eq]; exact decide_eq_false hmf
          by_cases hme : mid = []
          · have c2 : List.isEmpty mid = true := by rw [hme]; rfl
            clear hmf hme
            go_wp2
            go_ret
            exact ⟨rfl, E8.out.1.below⟩
          have c2 : List.isEmpty mid = false := by
            cases mid with
            | nil => exact absurd rfl hme
            | cons _ _ => rfl
          by_cases hte : til = []
          · have t1 : List.isEmpty til = true := by rw [hte]; rfl
            have HTM : Aside0 (til = [] ∨ ¬ til < mid) := ⟨.inl hte⟩
            clear hte
            have HSP := Aside0.mk (btw_split hmf hme HTM.out HRI.out)
            have cLb := cLa.out (f := frm) (t := mid) E8.out.1
            clear hmf hme
            go_upto_region 31 with (go_at_call 13; refine cLb.mono ?_; rintro e w9 ⟨va, rfl, hra, hba, hoa⟩; have A9 := Aside0.mk (And.intro hra (And.intro hba hoa)); have M9 := Aside0.mk (E8.out.1.on hba); clear hra hba hoa)
            have cLc := cLa.out (f := mid) (t := til) M9.out
            go_upto_region 32 with (go_at_call 13; refine cLc.mono ?_; rintro e w10 ⟨vb, rfl, hrb, hbb, -⟩; have A10 := Aside0.mk (And.intro hrb hbb); clear hrb hbb)
            have hra := RowC.below A9.out.1 A10.out.2
            have hrb := A10.out.1
            have hln1 : (l.length : Int) ≤ (n : Int) := by rw [HL.out.2.1]; exact Int.le_refl _
            rw [listF_btw HRI.out hln1] at hra hrb
            obtain ⟨v', w11, hrun, hr11, hg11, ho11⟩ := append_rowp hra hrb (by
              have h9 := congrArg List.length HSP.out
              rw [List.length_append] at h9
              have h8 : (btw frm til l).length ≤ l.length := List.length_filter_le ..
              have h7 := HL.out.2.1
              have h6 := HN.out.1
              omega)
            rw [HSP.out, ← HK.out.2.2.2.1] at hr11
            have hb10 : Below w8.heap.size w8 w10 := A9.out.2.1.trans (A10.out.2.mono A9.out.2.1.size)
            have hall : RowP w11 (.slice Av k cv) all := by
              refine RowC.step (RowC.below E8.out.2.1 hb10) (fun q hq => ?_)
              have hq8 := E8.out.2.2 q hq
              refine hg11.block q (Nat.lt_of_lt_of_le hq8 hb10.size) (fun e9 => ?_)
              have h9 := A9.out.2.2 q (by rw [← e9]; simp)
              omega
            have hbel : Below w.heap.size w w11 := (E8.out.1.below.trans (hb10.mono E8.out.1.base)).grown hg11 (Nat.le_trans E8.out.1.base hb10.size) (fun q hq => Nat.le_trans E8.out.1.base (A9.out.2.2 q (by rw [hq]; simp)))
            obtain ⟨Ar, cr, rfl, hcr, -⟩ := RowC.shape hr11
            have cS := same_calls (RowC.srcP hr11) (RowC.srcP hall) (by rw [HK.out.2.2.2.2.1]; have h9 := HK.out.1; have h8 := fromF_len (x := frm) (l := l); have h7 := HL.out.2.1; have h6 := HN.out.1; omega) hcr (by rw [HK.out.2.2.2.2.1]; exact HK.out.2.2.2.2.2)
            rw [HK.out.2.2.2.2.1] at cS hrun
            have HBE := Aside0.mk hbel
            clear hra hrb hr11 hg11 ho11 hb10 hall hbel hcr hln1
            go_upto_region 33 with ((with_reducible refine gate_dst (N := 166) rfl ?_); refine wp_append_run rfl (.tmp 164) (.tmp 165) rfl rfl (by simp [Act.eval, Act.put]) (by simp [Act.eval, Act.put]) hrun ?_)
            go_wp2_with (go_at_call 16; refine cS.mono ?_; rintro e w12 ⟨rfl, j12, rfl⟩)
            go_ret
            exact ⟨rfl, HBE.out.trans ((drewN_below w11 j12).mono HBE.out.size)⟩
          have t1 : List.isEmpty til = false := by
            cases til with
            | nil => exact absurd rfl hte
            | cons _ _ => rfl
          by_cases htm : til < mid
          · have c3 : Op.bytesLess mid til = false := by rw [nlt_eq]; exact decide_eq_false (fun h9 => nm_irrefl _ (nm_trans h9 htm))
            have c4 : (mid == til) = false := beq_eq_false_iff_ne.2 (fun h9 => nm_irrefl _ (by rw [h9] at htm; exact htm))
            clear hmf hme htm hte
            go_wp2
            go_ret
            exact ⟨rfl, E8.out.1.below⟩
          have HTM : Aside0 (til = [] ∨ ¬ til < mid) := ⟨.inr htm⟩
          by_cases hmt : mid < til
          · have c3 : Op.bytesLess mid til = true := by rw [nlt_eq]; exact decide_eq_true hmt
            clear htm hmt hte
            have HSP := Aside0.mk (btw_split hmf hme HTM.out HRI.out)
            have cLb := cLa.out (f := frm) (t := mid) E8.out.1
            clear hmf hme
            go_upto_region 31 with (go_at_call 13; refine cLb.mono ?_; rintro e w9 ⟨va, rfl, hra, hba, hoa⟩; have A9 := Aside0.mk (And.intro hra (And.intro hba hoa)); have M9 := Aside0.mk (E8.out.1.on hba); clear hra hba hoa)
            have cLc := cLa.out (f := mid) (t := til) M9.out
            go_upto_region 32 with (go_at_call 13; refine cLc.mono ?_; rintro e w10 ⟨vb, rfl, hrb, hbb, -⟩; have A10 := Aside0.mk (And.intro hrb hbb); clear hrb hbb)
            have hra := RowC.below A9.out.1 A10.out.2
            have hrb := A10.out.1
            have hln1 : (l.length : Int) ≤ (n : Int) := by rw [HL.out.2.1]; exact Int.le_refl _
            rw [listF_btw HRI.out hln1] at hra hrb
            obtain ⟨v', w11, hrun, hr11, hg11, ho11⟩ := append_rowp hra hrb (by
              have h9 := congrArg List.length HSP.out
              rw [List.length_append] at h9
              have h8 : (btw frm til l).length ≤ l.length := List.length_filter_le ..
              have h7 := HL.out.2.1
              have h6 := HN.out.1
              omega)
            rw [HSP.out, ← HK.out.2.2.2.1] at hr11
            have hb10 : Below w8.heap.size w8 w10 := A9.out.2.1.trans (A10.out.2.mono A9.out.2.1.size)
            have hall : RowP w11 (.slice Av k cv) all := by
              refine RowC.step (RowC.below E8.out.2.1 hb10) (fun q hq => ?_)
              have hq8 := E8.out.2.2 q hq
              refine hg11.block q (Nat.lt_of_lt_of_le hq8 hb10.size) (fun e9 => ?_)
              have h9 := A9.out.2.2 q (by rw [← e9]; simp)
              omega
            have hbel : Below w.heap.size w w11 := (E8.out.1.below.trans (hb10.mono E8.out.1.base)).grown hg11 (Nat.le_trans E8.out.1.base hb10.size) (fun q hq => Nat.le_trans E8.out.1.base (A9.out.2.2 q (by rw [hq]; simp)))
            obtain ⟨Ar, cr, rfl, hcr, -⟩ := RowC.shape hr11
            have cS := same_calls (RowC.srcP hr11) (RowC.srcP hall) (by rw [HK.out.2.2.2.2.1]; have h9 := HK.out.1; have h8 := fromF_len (x := frm) (l := l); have h7 := HL.out.2.1; have h6 := HN.out.1; omega) hcr (by rw [HK.out.2.2.2.2.1]; exact HK.out.2.2.2.2.2)
            rw [HK.out.2.2.2.2.1] at cS hrun
            have HBE := Aside0.mk hbel
            clear hra hrb hr11 hg11 ho11 hb10 hall hbel hcr hln1
            go_upto_region 33 with ((with_reducible refine gate_dst (N := 166) rfl ?_); refine wp_append_run rfl (.tmp 164) (.tmp 165) rfl rfl (by simp [Act.eval, Act.put]) (by simp [Act.eval, Act.put]) hrun ?_)
            go_wp2_with (go_at_call 16; refine cS.mono ?_; rintro e w12 ⟨rfl, j12, rfl⟩)
            go_ret
            exact ⟨rfl, HBE.out.trans ((drewN_below w11 j12).mono HBE.out.size)⟩
          have hmt2 : mid = til := by
            by_cases h9 : mid = til
            · exact h9
            · exact absurd (nm_tri hmt h9) htm
          clear htm hmt hte
          subst hmt2
          have c3 : Op.bytesLess mid mid = false := by rw [nlt_eq]; exact decide_eq_false (nm_irrefl mid)
          have HSP := Aside0.mk (btw_split hmf hme HTM.out HRI.out)
          have cLb := cLa.out (f := frm) (t := mid) E8.out.1
          clear hmf hme
          go_upto_region 31 with (go_at_call 13; refine cLb.mono ?_; rintro e w9 ⟨va, rfl, hra, hba, hoa⟩; have A9 := Aside0.mk (And.intro hra (And.intro hba hoa)); have M9 := Aside0.mk (E8.out.1.on hba); clear hra hba hoa)
          have cLc := cLa.out (f := mid) (t := mid) M9.out
          go_upto_region 32 with (go_at_call 13; refine cLc.mono ?_; rintro e w10 ⟨vb, rfl, hrb, hbb, -⟩; have A10 := Aside0.mk (And.intro hrb hbb); clear hrb hbb)
          have hra := RowC.below A9.out.1 A10.out.2
          have hrb := A10.out.1
          have hln1 : (l.length : Int) ≤ (n : Int) := by rw [HL.out.2.1]; exact Int.le_refl _
          rw [listF_btw HRI.out hln1] at hra hrb
          obtain ⟨v', w11, hrun, hr11, hg11, ho11⟩ := append_rowp hra hrb (by
            have h9 := congrArg List.length HSP.out
            rw [List.length_append] at h9
            have h8 : (btw frm mid l).length ≤ l.length := List.length_filter_le ..
            have h7 := HL.out.2.1
            have h6 := HN.out.1
            omega)
          rw [HSP.out, ← HK.out.2.2.2.1] at hr11
          have hb10 : Below w8.heap.size w8 w10 := A9.out.2.1.trans (A10.out.2.mono A9.out.2.1.size)
          have hall : RowP w11 (.slice Av k cv) all := by
            refine RowC.step (RowC.below E8.out.2.1 hb10) (fun q hq => ?_)
            have hq8 := E8.out.2.2 q hq
            refine hg11.block q (Nat.lt_of_lt_of_le hq8 hb10.size) (fun e9 => ?_)
            have h9 := A9.out.2.2 q (by rw [← e9]; simp)
            omega
          have hbel : Below w.heap.size w w11 := (E8.out.1.below.trans (hb10.mono E8.out.1.base)).grown hg11 (Nat.le_trans E8.out.1.base hb10.size) (fun q hq => Nat.le_trans E8.out.1.base (A9.out.2.2 q (by rw [hq]; simp)))
          obtain ⟨Ar, cr, rfl, hcr, -⟩ := RowC.shape hr11
          have cS := same_calls (RowC.srcP hr11) (RowC.srcP hall) (by rw [HK.out.2.2.2.2.1]; have h9 := HK.out.1; have h8 := fromF_len (x := frm) (l := l); have h7 := HL.out.2.1; have h6 := HN.out.1; omega) hcr (by rw [HK.out.2.2.2.2.1]; exact HK.out.2.2.2.2.2)
          rw [HK.out.2.2.2.2.1] at cS hrun
          have HBE := Aside0.mk hbel
          clear hra hrb hr11 hg11 ho11 hb10 hall hbel hcr hln1
          go_upto_region 33 with ((with_reducible refine gate_dst (N := 166) rfl ?_); refine wp_append_run rfl (.tmp 164) (.tmp 165) rfl rfl (by simp [Act.eval, Act.put]) (by simp [Act.eval, Act.put]) hrun ?_)
          go_wp2_with (go_at_call 16; refine cS.mono ?_; rintro e w12 ⟨rfl, j12, rfl⟩)
          go_ret
          exact ⟨rfl, HBE.out.trans ((drewN_below w11 j12).mono HBE.out.size)⟩
  · have cN : Aside0 (∀ w1, Below W0.heap.size W0 w1 → Calls Try.prog 11 #[.int .i64 4, .slice A l.length c] w1 fun e w' => e = .returned (.tuple #[.pointer none, .int .i64 71]) ∧ Below w1.heap.size w1 w') := ⟨fun w1 hb => (new_calls (m := 4) (w := w1) (by decide) (by decide) (HL.out.1.below hb) (by rw [HL.out.2.1]; exact HL.out.2.2) (by rw [HL.out.2.1]; have := HN.out.1; omega)).mono (fun e w' h9 => by
      unfold NewP at h9
      rw [if_neg (by omega), if_neg hri] at h9
      exact h9)⟩
    have cR : Aside0 (∀ w1, Below W0.heap.size W0 w1 → Calls Try.prog 12 #[.int .i64 4, .slice A l.length c] w1 fun e w' => e = .returned (.tuple #[.pointer none, .int .i64 71]) ∧ Below w1.heap.size w1 w') := ⟨fun w1 hb => (newR_calls (m := 4) (w := w1) (by decide) (by decide) (HL.out.1.below hb) (by rw [HL.out.2.1]; exact HL.out.2.2) (by rw [HL.out.2.1]; have := HN.out.1; omega)).mono (fun e w' h9 => by
      unfold NewR at h9
      rw [if_neg (by omega), if_neg hri] at h9
      exact h9)⟩
    rw [HL.out.2.1] at cN cR
    clear hri
    go_upto_region 9 with (go_at_call 10; refine (cA.out _).mono ?_; rintro e w2 ⟨rfl, hb2⟩; have B2 := Aside0.mk ((drewN_below W0 j).trans (hb2.mono (Nat.le_refl _))); clear hb2)
    go_upto_region 10 with (go_at_call 11; refine (cN.out _ B2.out).mono ?_; rintro e w3 ⟨rfl, hb3⟩; have B3 := Aside0.mk (B2.out.trans (hb3.mono B2.out.size)); clear hb3)
    go_upto_region 11 with (go_at_call 12; refine (cR.out _ B3.out).mono ?_; rintro e w4 ⟨rfl, hb4⟩; have B4 := Aside0.mk (B3.out.trans (hb4.mono B3.out.size)); clear hb4)
    go_wp2
    go_ret
    exact ⟨rfl, HB0.out.trans (B4.out.mono HB0.out.size)⟩
end Go.Proofs.YtmomohljnmopfaaX
end
