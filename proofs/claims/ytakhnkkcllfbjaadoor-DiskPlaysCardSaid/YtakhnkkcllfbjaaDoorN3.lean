/- New of any files: the walk; no conditions beyond those in each theorem's head. -/
import Derived.Test.YtakhnkkcllfbjaaDoorN2
namespace Go.Proofs.YtakhnkkcllfbjaaDoorX
open Go.RowKit Go.Proofs.YtakhnkkcllfbjaaDoorW.PrintWords Go.Proofs.YtakhnkkcllfbjaaDoorW.PrintLast Go.Proofs.YtakhnkkcllfbjaaDoorW.PrintMore
open Go.Proofs.YtakhnkkcllfbjaaDoor.PA (S37 k37 z37)
set_option linter.unusedVariables false
set_option linter.unusedSimpArgs false
/-- What New leaves. -/
def NewP (size : Int) (l : List S37) (w : World) (e : Ending) (w' : World) : Prop :=
  (newE size l ≠ 0 ∧ e = .returned (.tuple #[.pointer none, .int .i64 (newE size l)]) ∧ Below w.heap.size w w') ∨ (newE size l = 0 ∧ ∃ a m lay, e = .returned (.tuple #[.pointer (some ⟨a, 0, none⟩), .int .i64 0]) ∧ Made w w' a m lay (newD size l))
set_option maxRecDepth 100000 in
set_option maxHeartbeats 8000000 in
theorem New_calls (size : Int) (A : Option Addr) (c : Nat) (l : List S37) (w : World) (hr : Kd.C k37 w A l.length l) (hsz : ∀ x ∈ l, x.f0.size ≤ maxLen ∧ x.f1.size ≤ maxLen) (hl : l.length ≤ 140737488351232) :
    Calls Tryd.prog 9 #[.int .i64 size, .slice A l.length c] w (NewP size l w) := by
  have c27 := contains27_calls A c l w hr
  have R0 := Aside0.mk hr
  have SZ := Aside0.mk hsz
  have HL := Aside0.mk hl
  have hu := Tryd.underlying37
  clear hr hsz hl
  by_cases h0 : size < 0
  · have E : Aside0 (newE size l = 1) := ⟨if_pos (.inl h0)⟩
    have e1 : decide (size < 0) = true := decide_eq_true h0
    clear h0
    go_enter Tryd.func9, Tryd.ntmps9
    go_wp2
    go_ret2
    exact .inl ⟨by rw [E.out]; decide, by rw [E.out]; rfl, Below.refl _ _⟩
  have e1 : decide (size < 0) = false := decide_eq_false h0
  by_cases h1 : 1048576 < size
  · have E : Aside0 (newE size l = 1) := ⟨if_pos (.inr (.inl h1))⟩
    have e2 : decide (1048576 < size) = true := decide_eq_true h1
    clear h0 h1
    go_enter Tryd.func9, Tryd.ntmps9
    go_wp2
    go_ret2
    exact .inl ⟨by rw [E.out]; decide, by rw [E.out]; rfl, Below.refl _ _⟩
  have e2 : decide (1048576 < size) = false := decide_eq_false h1
  have hmm := @run_makeMap Tryd.prog
  cases hb : l.any badF with
  | true =>
    have E : Aside0 (newE size l = 1) := ⟨if_pos (.inr (.inr hb))⟩
    rw [hb] at c27
    clear h0 h1 hb
    go_enter Tryd.func9, Tryd.ntmps9
    go_wp2_with (go_at_call 27; refine c27.mono ?_; rintro e w1 ⟨rfl, hb1⟩; have B1 := Aside0.mk hb1; clear hb1)
    go_ret2
    exact .inl ⟨by rw [E.out]; decide, by rw [E.out]; rfl, B1.out⟩
  | false =>
    have HE : Aside0 (newE size l = if ¬ NamesOk l then 40 else if ¬ Fits size l then 42 else 0) := ⟨if_neg (fun hh => hh.elim h0 (fun hh => hh.elim h1 (fun hh => by rw [hb] at hh; cases hh)))⟩
    have HSZ : Aside0 (0 ≤ size ∧ size ≤ 1048576) := ⟨by omega, by omega⟩
    rw [hb] at c27
    clear h0 h1 hb
    go_enter Tryd.func9, Tryd.ntmps9
    go_upto_region 4 with (go_at_call 27; refine c27.mono ?_; rintro e w1 ⟨rfl, hb1⟩; have B1 := Aside0.mk hb1; clear hb1)
    obtain ⟨W, hW⟩ : ∃ W, ((w1.alloc (.map #[] 0)).alloc (.cells #[.int .i64 size, .map (some w1.heap.size), .int .i64 0, .int .i64 (-1), .bool false, .int .i64 0] 64)) = W := ⟨_, rfl⟩
    have hhead : Aside0 (W.heap[w1.heap.size + 1]? = some (.cells (headD w1.heap.size (AD.fresh size [])) 64 (0, 0))) := ⟨by
      rw [← hW]
      have h9 := blk_new (w1.alloc (.map #[] 0)) (.cells #[.int .i64 size, .map (some w1.heap.size), .int .i64 0, .int .i64 (-1), .bool false, .int .i64 0] 64)
      rw [show (w1.alloc (.map #[] 0)).heap.size = w1.heap.size + 1 by simp] at h9
      exact h9⟩
    have hmap : Aside0 (MapP Tryd.prog 9 W w1.heap.size 0 (M1 l 0)) := ⟨by
      rw [← hW, show M1 l 0 = (fun _ => none) by funext z; simp [M1]]
      exact (MapP.made Tryd.prog 9 w1).step (Below.heap_alloc _ _ _ (by simp))⟩
    have hbel : Aside0 (Below w.heap.size w W ∧ w.heap.size ≤ w1.heap.size) := ⟨by
      rw [← hW]
      exact ⟨below_alloc (below_alloc B1.out _) _, B1.out.size⟩⟩
    rw [hW]
    clear hW B1
    obtain ⟨m, hm⟩ : ∃ m, m = w1.heap.size := ⟨_, rfl⟩
    obtain ⟨a, ha⟩ : ∃ a, a = w1.heap.size + 1 := ⟨_, rfl⟩
    rw [← ha, ← hm] at hhead
    rw [← hm] at hmap hbel
    have HAM : Aside0 (a = m + 1) := ⟨by omega⟩
    go_simp
    rw [← ha, ← hm]
    clear hm ha
    go_wp2
    go_loopg [29] l.length (fun kq v29 wr => ∃ i : Nat, v29 = .int .i64 i ∧ Aside0 (i + kq = l.length) ∧ Aside0 (NamesOk (l.take i)) ∧ Aside0 (Below w.heap.size w wr) ∧ Aside0 (wr.heap[a]? = some (.cells (headD m (AD.fresh size [])) 64 (0, 0))) ∧ Aside0 (MapP Tryd.prog 9 wr m i (M1 l i)))
    case atStart => exact ⟨0, rfl, ⟨by omega⟩, ⟨by rw [List.take_zero]; exact ⟨fun x hx => (by cases hx), List.Pairwise.nil⟩⟩, ⟨hbel.out.1⟩, hhead, hmap⟩
    case round =>
      clear hhead hmap c27
      obtain ⟨i, rfl, h1, h2, h3, h4, h5⟩ := hrel
      by_cases hi : i < l.length
      · have e3 : decide ((i : Int) < (l.length : Int)) = true := decide_eq_true (by omega)
        have e3' : decide (i < l.length) = true := decide_eq_true hi
        have e5 : IntKind.i64.wrap ((i : Int) + 1) = ((i + 1 : Nat) : Int) := by have := HL.out; rw [i64_w]; unfold wrap64; omega
        obtain ⟨x, hx0⟩ : ∃ x, l[i]? = some x := ⟨_, List.getElem?_eq_getElem hi⟩
        obtain ⟨ad, rfl, hq⟩ := file_at R0.out hx0
        obtain ⟨q0, q1, q2⟩ := file_later h3.out hq
        go_upto_region 7 with fail
        clear q0 q1 q2 hq
        have hxs := (SZ.out x (List.mem_of_getElem? hx0)).1
        obtain ⟨W1, hW1⟩ : ∃ W1, (wr.alloc (.cells #[.string x.f0, .string x.f1, .int .i64 x.f2] 37)) = W1 := ⟨_, rfl⟩
        have hblk : W1.heap[wr.heap.size]? = some (.cells #[.string x.f0, .string x.f1, .int .i64 x.f2] 37 (0, 0)) := by rw [← hW1]; exact blk_new _ _
        have hhd : W1.heap[a]? = some (.cells (headD m (AD.fresh size [])) 64 (0, 0)) := by rw [← hW1]; exact blk_alloc h4.out _
        have hmp : MapP Tryd.prog 9 W1 m i (M1 l i) := by rw [← hW1]; exact h5.out.step (Below.heap_alloc _ _ _ h5.out.lt)
        have hbw : Below w.heap.size w W1 := by rw [← hW1]; exact below_alloc h3.out _
        rw [hW1]
        obtain ⟨g, hg⟩ : ∃ g, g = wr.heap.size := ⟨_, rfl⟩
        rw [← hg] at hblk
        go_simp
        rw [← hg]
        clear hg hW1 h3 h4 h5
        obtain ⟨q0, q1, q2⟩ := file_box hblk
        have hlk := (hmp.step (w' := W1.drew) rfl).look_ok Tryd.underlying9 Tryd.underlying62 (Tryd.zeroValue65 W1.drew) hxs
        have d1 := (head_cells hhd).2.1
        have HBW : Aside0 (Below w.heap.size w W1.drew) := ⟨by apply below_drew1; exact hbw⟩
        have HMP := Aside0.mk hmp
        have HHD := Aside0.mk hhd
        have HBK := Aside0.mk hblk
        have HX := Aside0.mk hx0
        have HXS := Aside0.mk hxs
        have cN : Aside0 (∀ w6, Calls Tryd.prog 29 #[.string x.f0] w6 fun e w' => e = .returned (.bool (named x.f0.data.toList)) ∧ Below w6.heap.size w6 w') := ⟨fun w6 => named_calls x.f0 w6⟩
        clear hbw hmp hhd hblk hx0 hxs
        by_cases hdup : nmF x ∈ (l.take i).map nmF
        · have e6 : M1 l i x.f0.data.toList = some none := if_pos hdup
          rw [e6] at hlk
          simp only [Option.getD, Option.isSome, ptrVal] at hlk
          have E : Aside0 (newE size l = 40) := ⟨by rw [HE.out, if_pos (fun hh => ((names_take HX.out).1 (hh.take (i + 1))).2.2 hdup)]⟩
          clear hdup e6
          go_region
          go_wp2
          go_ret2
          exact .inl ⟨by rw [E.out]; decide, by rw [E.out]; rfl, HBW.out⟩
        · have e6 : M1 l i x.f0.data.toList = none := if_neg hdup
          rw [e6] at hlk
          simp only [Option.getD, Option.isSome, ptrVal] at hlk
          cases hnm : named x.f0.data.toList with
          | false =>
            rw [hnm] at cN
            have E : Aside0 (newE size l = 40) := ⟨by rw [HE.out, if_pos (fun hh => by have h9 := ((names_take HX.out).1 (hh.take (i + 1))).2.1; rw [show named (nmF x) = false from hnm] at h9; cases h9)]⟩
            clear hdup e6 hnm
            go_region
            go_wp2_with (go_at_call 29; refine (cN.out _).mono ?_; rintro e w6 ⟨rfl, hb6⟩; have B6 : Aside0 (Below w.heap.size w w6) := ⟨HBW.out.trans (hb6.mono HBW.out.size)⟩; clear hb6)
            go_ret2
            exact .inl ⟨by rw [E.out]; decide, by rw [E.out]; rfl, B6.out⟩
          | true =>
            rw [hnm] at cN
            have HI := Aside0.mk hi
            have HN : Aside0 (NamesOk (l.take (i + 1))) := ⟨(names_take HX.out).2 ⟨h2.out, hnm, hdup⟩⟩
            have HD := Aside0.mk hdup
            clear hdup e6 hnm
            go_region
            go_upto_region 10 with (go_at_call 29; refine (cN.out _).mono ?_; rintro e w6 ⟨rfl, hb6⟩; have B6 := Aside0.mk hb6; clear hb6)
            clear d1 q0 q1 q2 hlk
            have hb6 : Below W1.heap.size W1 w6 := (by apply below_drew1; exact Below.refl _ _ : Below W1.heap.size W1 W1.drew).trans B6.out
            have hmp6 := HMP.out.step (w' := w6.drew) (show w6.heap[m]? = W1.heap[m]? from hb6.block m HMP.out.lt)
            have hblk := blk_below HBK.out hb6
            have hhd := blk_below HHD.out hb6
            have B7 : Aside0 (Below w.heap.size w w6.drew) := ⟨by apply below_drew1; exact HBW.out.trans (B6.out.mono HBW.out.size)⟩
            obtain ⟨q0, q1, q2⟩ := file_box hblk
            have d1 := (head_cells hhd).2.1
            obtain ⟨w7, hst, hmp7, hg7⟩ := hmp6.store Tryd.underlying9 Tryd.underlying62 (by have := HL.out; have := HI.out; simp only [maxLen]; omega) HXS.out none
            rw [show (M1 l i x.f0.data.toList).isSome = false from by rw [show M1 l i x.f0.data.toList = none from if_neg HD.out]; rfl, if_neg (by decide), show (fun z => if z = x.f0.data.toList then some none else M1 l i z) = M1 l (i + 1) from M1_step HX.out] at hmp7
            simp only [ptrVal] at hst
            have MP7 := Aside0.mk hmp7
            have G7 := Aside0.mk hg7
            have HH6 := Aside0.mk hhd
            have HM6 := Aside0.mk hmp6
            clear hmp7 hg7 hhd hmp6 hblk hb6 B6
            go_region
            go_wp2
            go_roundg (l.length - (i + 1))
            case measure => have := HI.out; have := h1.out; omega
            case rel =>
              refine ⟨i + 1, by simp, ⟨by have := HI.out; have := h1.out; omega⟩, HN, ⟨?_⟩, ⟨?_⟩, MP7⟩
              · exact (((Fr.refl [m] w).trans (Fr.of_below B7.out []) (fun _ h => by cases h)).grown G7.out (fun k hk => by cases hk; exact .inl (by simp))).below_base (fun k hk => by simp at hk; subst hk; exact hbel.out.2) (Nat.le_refl _)
              · rw [G7.out.block _ (show a < w6.drew.heap.size from blk_lt HH6.out) (by have := HAM.out; simp; omega)]
                exact HH6.out
      · have e3 : decide ((i : Int) < (l.length : Int)) = false := decide_eq_false (by omega)
        have e3' : decide (i < l.length) = false := decide_eq_false hi
        have hil : i = l.length := by have := h1.out; omega
        subst hil
        have HN : Aside0 (NamesOk l) := ⟨by have := h2.out; rwa [List.take_length] at this⟩
        have HE2 : Aside0 (newE size l = if ¬ Fits size l then 42 else 0) := ⟨by rw [HE.out, if_neg (not_not_intro HN.out)]⟩
        have H5 : Aside0 (MapP Tryd.prog 9 wr m l.length (M2 (fun _ => (0, .slice none 0 0)) l 0)) := ⟨by have := h5.out; rwa [M1_end (fun _ => (0, .slice none 0 0))] at this⟩
        have H4 : Aside0 (NF wr a m (fun _ => (0, .slice none 0 0)) (AD.fresh size (putAll (l.take 0)))) := ⟨NF.zero l h4.out h5.out.lt (by have := HAM.out; omega)⟩
        have H3 := h3
        clear h1 h2 h4 h5 HE h3 hi
        go_wp2
        go_loopg [59] l.length (fun kq v59 w2 => ∃ (i : Nat) (lay : Lay), v59 = .int .i64 i ∧ Aside0 (i + kq = l.length) ∧ Aside0 ((0 < i → l.length ≤ 64) ∧ (totS (l.take i) : Int) ≤ size) ∧ Aside0 (Below w.heap.size w w2) ∧ Aside0 (NF w2 a m lay (AD.fresh size (putAll (l.take i)))) ∧ Aside0 (MapP Tryd.prog 9 w2 m l.length (M2 lay l i)) ∧ Aside0 (∀ k ∈ a :: m :: ownL lay (putAll (l.take i)), w.heap.size ≤ k))
        case atStart =>
          refine ⟨0, _, rfl, ⟨by omega⟩, ⟨fun h => absurd h (by decide), by rw [List.take_zero]; exact HSZ.out.1⟩, H3, H4, H5, ⟨fun k hk => ?_⟩⟩
          rw [List.take_zero] at hk
          have h9 := hbel.out.2
          have h8 := HAM.out
          simp only [List.mem_cons] at hk
          rcases hk with rfl | rfl | hk
          · omega
          · exact h9
          · cases hk
        case round =>
          clear H3 H4 H5 e3 e3'
          obtain ⟨i, lay, rfl, h1, h2, h3, h4, h5, h6⟩ := hrel
          by_cases hi : i < l.length
          · have e3 : decide ((i : Int) < (l.length : Int)) = true := decide_eq_true (by omega)
            have e3' : decide (i < l.length) = true := decide_eq_true hi
            have e5 : IntKind.i64.wrap ((i : Int) + 1) = ((i + 1 : Nat) : Int) := by have := HL.out; rw [i64_w]; unfold wrap64; omega
            obtain ⟨x, hx0⟩ : ∃ x, l[i]? = some x := ⟨_, List.getElem?_eq_getElem hi⟩
            obtain ⟨ad, rfl, hq⟩ := file_at R0.out hx0
            obtain ⟨q0, q1, q2⟩ := file_later h3.out hq
            go_upto_region 15 with fail
            clear q0 q1 q2 hq
            have hxs := SZ.out x (List.mem_of_getElem? hx0)
            obtain ⟨W1, hW1⟩ : ∃ W1, (wr.alloc (.cells #[.string x.f0, .string x.f1, .int .i64 x.f2] 37)) = W1 := ⟨_, rfl⟩
            have hblk : W1.heap[wr.heap.size]? = some (.cells #[.string x.f0, .string x.f1, .int .i64 x.f2] 37 (0, 0)) := by rw [← hW1]; exact blk_new _ _
            have hal : Below wr.heap.size wr W1 := by rw [← hW1]; exact below_alloc (Below.refl _ _) _
            have hsz1 : W1.heap.size = wr.heap.size + 1 := by rw [← hW1]; simp
            rw [hW1]
            obtain ⟨g, hg⟩ : ∃ g, g = wr.heap.size := ⟨_, rfl⟩
            rw [← hg] at hblk
            go_simp
            rw [← hg]
            have HG : Aside0 (g = wr.heap.size ∧ W1.heap.size = wr.heap.size + 1) := ⟨hg, hsz1⟩
            have HAL := Aside0.mk hal
            clear hg hW1 hsz1
            obtain ⟨q0, q1, q2⟩ := file_box hblk
            have hhd := blk_below h4.out.head hal
            obtain ⟨u, hu1⟩ : ∃ u : Nat, totL (putAll (l.take i)) = u := ⟨_, rfl⟩
            have hu2 : totS (l.take i) = u := by rw [← putAll_tot]; exact hu1
            have hused : (AD.fresh size (putAll (l.take i))).used = (u : Int) := congrArg _ hu1
            have hfr2 := blk_frozen hhd 2
            have d1 := (head_cells hhd).2.1
            have d2 := (head_cells hhd).2.2.1
            rw [hused] at d2
            have HHD := Aside0.mk hhd
            have HBK := Aside0.mk hblk
            have HX := Aside0.mk hx0
            have HXS := Aside0.mk hxs
            have HI := Aside0.mk hi
            have HU : Aside0 ((u : Int) ≤ size ∧ totS (l.take i) = u) := ⟨by have := h2.out.2; rw [hu2] at this; exact this, hu2⟩
            have hT : Aside0 (totS (l.take (i + 1)) = u + x.f1.size ∧ totS (l.take (i + 1)) ≤ totS l) := ⟨by rw [List.take_add_one, hx0, totS_app, hu2]; simp [totS], by
              have h9 := totS_app (l.take (i + 1)) (l.drop (i + 1))
              rw [List.take_append_drop] at h9
              omega⟩
            have e10 : IntKind.i64.wrap (size - (u : Int)) = size - u := by have := HU.out.1; have := HSZ.out; rw [i64_w]; unfold wrap64; omega
            clear hx0 hxs hhd hal hu1 hu2 hused hi
            by_cases h64 : 64 < l.length
            · have e11 : decide ((64 : Int) < (l.length : Int)) = true := decide_eq_true (by omega)
              have e11' : decide (64 < l.length) = true := decide_eq_true h64
              have E : Aside0 (newE size l = 42) := ⟨by rw [HE2.out, if_pos (fun hh => by have := hh.1; omega)]⟩
              have HB1 : Aside0 (Below w.heap.size w W1.drew) := ⟨by apply below_drew1; exact h3.out.trans (HAL.out.mono h3.out.size)⟩
              clear h64
              go_region
              go_wp2
              go_ret2
              exact .inl ⟨by rw [E.out]; decide, by rw [E.out]; rfl, HB1.out⟩
            · have e11 : decide ((64 : Int) < (l.length : Int)) = false := decide_eq_false (by omega)
              have e11' : decide (64 < l.length) = false := decide_eq_false h64
              by_cases hfull : size - (u : Int) < (x.f1.size : Int)
              · have e12 : decide (size - (u : Int) < (x.f1.size : Int)) = true := decide_eq_true hfull
                have E : Aside0 (newE size l = 42) := ⟨by rw [HE2.out, if_pos (fun hh => by have := hh.2; have := hT.out; omega)]⟩
                have HB1 : Aside0 (Below w.heap.size w W1.drew) := ⟨by apply below_drew1; exact h3.out.trans (HAL.out.mono h3.out.size)⟩
                clear h64 hfull
                go_region
                go_wp2
                go_ret2
                exact .inl ⟨by rw [E.out]; decide, by rw [E.out]; rfl, HB1.out⟩
              · have e12 : decide (size - (u : Int) < (x.f1.size : Int)) = false := decide_eq_false hfull
                have e13 : IntKind.i64.wrap ((u : Int) + (x.f1.size : Int)) = ((u + x.f1.size : Nat) : Int) := by have := HU.out.1; have := HSZ.out; rw [i64_w]; unfold wrap64; omega
                have HF : Aside0 (l.length ≤ 64 ∧ ((u + x.f1.size : Nat) : Int) ≤ size) := ⟨by omega, by omega⟩
                clear h64 hfull
                go_region
                go_upto_region 17 with fail
                go_region
                go_upto_region 18 with fail
                clear q0 q1 q2 d1 d2 hfr2
                obtain ⟨W2, hW2⟩ : ∃ W2, ((W1.setCell ⟨a, 2, none⟩ (.int .i64 ((u : Int) + (x.f1.size : Int)))).drew.drew) = W2 := ⟨_, rfl⟩
                have hga : a ≠ g := by have := blk_lt h4.out.head; have := HG.out; omega
                have hd2 : W2.heap[a]? = some (.cells (headD m ({ AD.fresh size (putAll (l.take (i + 1))) with L := putAll (l.take (i + 1)) } : AD)) 64 (0, 0)) := by
                  rw [← hW2]
                  refine blk_put (w := W1) HHD.out 2 _ ?_
                  have h9 : (AD.fresh size (putAll (l.take (i + 1)))).used = (u : Int) + (x.f1.size : Int) := by
                    show ((totL (putAll (l.take (i + 1))) : Nat) : Int) = _
                    rw [putAll_tot, hT.out.1]
                    omega
                  show _ = headD m (AD.fresh size (putAll (l.take (i + 1))))
                  unfold headD
                  rw [h9]
                  rfl
                have hb2 : W2.heap[g]? = some (.cells #[.string x.f0, .string x.f1, .int .i64 x.f2] 37 (0, 0)) := by
                  rw [← hW2]
                  exact blk_far (w := W1) HBK.out (fun e => hga e.symm) _
                have hs2 : W2.heap.size = wr.heap.size + 1 := by rw [← hW2]; have := HG.out.2; simpa [World.setCell] using this
                have hfr : Fr [a] wr W2 := by
                  rw [← hW2]
                  exact (((Fr.of_below HAL.out [a]).setCell (p := ⟨a, 2, none⟩) (.inl (by simp)) _).drew).drew
                rw [hW2]
                clear hW2
                have hconv := Lib.run_convert_string_bytes W2.drew 9 68 5 x.f1 Tryd.underlying9 Tryd.underlying68 Tryd.underlying5
                have hrow := RowB.made W2.drew 5 x.f1 HXS.out.2
                have hbv := fr_bytes W2.drew 5 x.f1
                have hvs := Lib.bytesWorld_size W2.drew 5 x.f1
                generalize Lib.bytesWorld W2.drew 5 x.f1 = V at hconv hrow hbv hvs
                generalize grownCap W2.drew x.f1.size 0 5 = cp at hconv hrow
                rw [show W2.drew.heap.size = wr.heap.size + 1 from hs2] at hconv hrow
                rw [show W2.drew.heap.size = wr.heap.size + 1 from hs2] at hvs
                have hbV : Below W2.heap.size W2 V := ⟨hbv.os, hbv.tape, hbv.output, hbv.size, hbv.block⟩
                have bg := file_box hb2
                obtain ⟨q0, q1, q2⟩ := bg
                have d1 := (head_cells hd2).2.1
                obtain ⟨p0, p1, p2⟩ := file_box (blk_below hb2 hbV)
                have c1 := (head_cells (blk_below hd2 hbV)).2.1
                have c1' : ∀ ob, (V.alloc ob).cell? ⟨a, 1, none⟩ = some (.map (some m)) := fun ob => (head_cells (blk_alloc (blk_below hd2 hbV) ob)).2.1
                have p0' : ∀ ob, (V.alloc ob).cell? ⟨g, 0, none⟩ = some (.string x.f0) := fun ob => (file_box (blk_alloc (blk_below hb2 hbV) ob)).1
                obtain ⟨V2, hV2⟩ : ∃ V2, (V.alloc (.cells #[.slice (some ⟨wr.heap.size + 1, 0, none⟩) x.f1.size cp, .int .i64 x.f2] 70)) = V2 := ⟨_, rfl⟩
                have hbV2 : Below W2.heap.size W2 V2 := by rw [← hV2]; exact below_alloc hbV _
                have hmp2 : MapP Tryd.prog 9 V2 m l.length (M2 lay l i) := h5.out.step (by
                  rw [hbV2.block m (by have := h5.out.lt; omega)]
                  exact hfr.block m h5.out.lt (by have := HAM.out; simp; omega))
                obtain ⟨w7, hst, hmp7, hg7⟩ := hmp2.store Tryd.underlying9 Tryd.underlying62 (by have := HL.out; simp only [maxLen]; omega) HXS.out.1 (some V.heap.size)
                have hnot : nmF x ∉ (l.take i).map nmF := ((names_take HX.out).1 (HN.out.take (i + 1))).2.2
                rw [show (M2 lay l i x.f0.data.toList).isSome = true from M2_has HX.out, if_pos rfl, show (fun z => if z = x.f0.data.toList then some (some V.heap.size) else M2 lay l i z) = M2 (setLay lay (nmF x) (V.heap.size, .slice (some ⟨wr.heap.size + 1, 0, none⟩) x.f1.size cp)) l (i + 1) from M2_step (V.heap.size, .slice (some ⟨wr.heap.size + 1, 0, none⟩) x.f1.size cp) HX.out hnot] at hmp7
                simp only [ptrVal] at hst
                rw [← hV2] at hst
                have MP7 := Aside0.mk hmp7
                have G7 := Aside0.mk hg7
                have HV2 := Aside0.mk hV2
                have HBV := Aside0.mk hbV
                have HBV2 := Aside0.mk hbV2
                have HFR := Aside0.mk hfr
                have HD2 := Aside0.mk hd2
                have HROW := Aside0.mk hrow
                have HVS := Aside0.mk hvs
                have HS2 := Aside0.mk hs2
                have HNOT := Aside0.mk hnot
                have HGA := Aside0.mk hga
                clear hmp7 hg7 hV2 hbV hbV2 hfr hd2 hb2 hrow hvs hs2 hnot hmp2 hbv hga hblk
                go_region
                go_wp2
                go_roundg (l.length - (i + 1))
                case measure => have := HI.out; have := h1.out; omega
                case rel =>
                  have hwm : ∀ k ∈ [a, m], w.heap.size ≤ k := fun k hk => h6.out k (by simp only [List.mem_cons, List.not_mem_nil, or_false] at hk; simp only [List.mem_cons]; rcases hk with hk | hk; exact .inl hk; exact .inr (.inl hk))
                  have FRW : Fr [a, m] wr w7 := ((HFR.out.mono (T := [a, m]) (fun k hk => by simp at hk; simp [hk])).trans (Fr.of_below HBV2.out []) (fun _ h => by cases h)).grown G7.out (fun k hk => by cases hk; exact .inl (by simp))
                  have hVlt : V.heap.size < V2.heap.size := by rw [← HV2.out]; simp
                  have hmlt := h5.out.lt
                  have hvs := HVS.out
                  have hat : FileAt w7 (V.heap.size, .slice (some ⟨wr.heap.size + 1, 0, none⟩) x.f1.size cp) (afF x) := by
                    refine ⟨?_, HROW.out.step (fun k hk => ?_)⟩
                    · rw [G7.out.block _ hVlt (by simp; omega), ← HV2.out]
                      exact blk_new _ _
                    · simp only [Value.ownBlock, Option.toList_some, List.mem_singleton] at hk
                      subst hk
                      rw [G7.out.block _ (by omega) (by simp; omega), ← HV2.out]
                      exact Below.heap_alloc _ _ _ (by omega)
                  have hh : w7.heap[a]? = some (.cells (headD m (AD.fresh size (putAll (l.take (i + 1))))) 64 (0, 0)) := by
                    have h9 := blk_below HD2.out HBV2.out
                    rw [G7.out.block _ (blk_lt h9) (by have := HAM.out; simp; omega)]
                    exact h9
                  have key := h4.out.add (w' := w7) (D' := AD.fresh size (putAll (l.take (i + 1)))) (afF x) (V.heap.size, .slice (some ⟨wr.heap.size + 1, 0, none⟩) x.f1.size cp) hh (putAll_take HX.out) (fun q hq e => by
                    obtain ⟨y, hy, rfl⟩ := (mem_putAll _ q).1 hq
                    exact HNOT.out (List.mem_map.2 ⟨y, hy, e⟩)) hat FRW (fun k hk => by
                    simp only [ownF, Value.ownBlock, Option.toList_some, List.mem_cons, List.not_mem_nil, or_false] at hk
                    rcases hk with rfl | rfl <;> omega) (by simp only [Value.ownBlock, Option.toList_some, List.mem_singleton]; omega)
                  refine ⟨i + 1, _, by simp, ⟨by have := HI.out; have := h1.out; omega⟩, ⟨fun _ => HF.out.1, by rw [hT.out.1]; exact HF.out.2⟩, ⟨h3.out.trans (FRW.below_base hwm h3.out.size)⟩, ⟨key.1⟩, MP7, ⟨fun k hk => ?_⟩⟩
                  simp only [List.mem_cons] at hk
                  rcases hk with rfl | rfl | hk
                  · exact hwm _ (by simp)
                  · exact hwm _ (by simp)
                  · rcases key.2 k hk with h9 | h9
                    · exact h6.out k (by simp only [List.mem_cons]; exact .inr (.inr h9))
                    · exact Nat.le_trans h3.out.size h9
          · have e3 : decide ((i : Int) < (l.length : Int)) = false := decide_eq_false (by omega)
            have e3' : decide (i < l.length) = false := decide_eq_false hi
            have hil : i = l.length := by have := h1.out; omega
            subst hil
            have hfit : Fits size l := ⟨by
              rcases Nat.eq_zero_or_pos l.length with h9 | h9
              · omega
              · exact h2.out.1 h9, by have := h2.out.2; rwa [List.take_length] at this⟩
            have E : Aside0 (newE size l = 0) := ⟨by rw [HE2.out, if_neg (not_not_intro hfit)]⟩
            clear hi hfit
            go_wp2
            go_ret2
            have H4 := h4.out
            rw [List.take_length] at H4
            refine .inr ⟨E.out, a, m, lay, rfl, ⟨H4.head, ?_, H4.file, H4.sep, ?_⟩, h3.out, ?_⟩
            · have := h5.out
              rw [M2_end] at this
              show MapP Tryd.prog 9 _ m (putAll l).length (mapL lay (putAll l))
              rw [putAll_length]
              exact this
            · exact newD_ok E.out
            · have := h6.out
              rwa [List.take_length] at this
end Go.Proofs.YtakhnkkcllfbjaaDoorX
