/- The reference's New; no conditions beyond those in each theorem's head. -/
import Derived.Test.YtakhnkkcllfbjaaDoorR3
namespace Go.Proofs.YtakhnkkcllfbjaaDoorX
open Go.RowKit Go.Proofs.YtakhnkkcllfbjaaDoorW.PrintWords Go.Proofs.YtakhnkkcllfbjaaDoorW.PrintLast Go.Proofs.YtakhnkkcllfbjaaDoorW.PrintMore
open Go.Proofs.YtakhnkkcllfbjaaDoor.PA (S37 k37 z37 rd_T37 at_T37)
set_option linter.unusedVariables false
set_option linter.unusedSimpArgs false
/-- What the reference's New leaves. -/
def RNewP (size : Int) (l : List S37) (w : World) (e : Ending) (w' : World) : Prop :=
  (newE size l ≠ 0 ∧ e = .returned (.tuple #[.pointer none, .int .i64 (newE size l)]) ∧ Below w.heap.size w w') ∨ (newE size l = 0 ∧ ∃ r v, e = .returned (.tuple #[.pointer (some ⟨r, 0, none⟩), .int .i64 0]) ∧ MineR w.heap.size w w' r v (newD size l))
theorem strEq_nm (s t : ByteArray) : (s.toList == t.toList) = decide (s.data.toList = t.data.toList) := by
  rw [toList_is, toList_is, Bool.eq_iff_iff]
  simp
theorem toA (s : ByteArray) : (⟨s.data.toList.toArray⟩ : ByteArray) = s := by cases s; simp
theorem puts37 {w : World} {r : Nat} {v : Value} {D : AD} (h : RefAt w r v D) (x : S37) (hm : D.L.length ≤ 64) :
    Calls Tryd.prog 35 #[.pointer (some ⟨r, 0, none⟩), .agg #[.string x.f0, .string x.f1, .int .i64 x.f2]] w fun e w' => e = .returned (.tuple #[]) ∧ RDid w w' r v { D with L := putR (afF x) D.L } := by
  have h9 := puts_calls h (afF x) hm
  rw [show (⟨(afF x).name.toArray⟩ : ByteArray) = x.f0 from toA x.f0] at h9
  exact h9
set_option maxRecDepth 100000 in
set_option maxHeartbeats 8000000 in
theorem RNew_calls (size : Int) (A : Option Addr) (c : Nat) (l : List S37) (w : World) (hr : Kd.C k37 w A l.length l) (hsz : ∀ x ∈ l, x.f0.size ≤ maxLen ∧ x.f1.size ≤ maxLen) (hl : l.length ≤ 140737488351232) :
    Calls Tryd.prog 19 #[.int .i64 size, .slice A l.length c] w (RNewP size l w) := by
  have R0 := Aside0.mk hr
  have SZ := Aside0.mk hsz
  have HL := Aside0.mk hl
  have hu := Tryd.underlying37
  clear hr hsz hl
  by_cases h0 : size < 0
  · have E : Aside0 (newE size l = 1) := ⟨if_pos (.inl h0)⟩
    have e1 : decide (size < 0) = true := decide_eq_true h0
    clear h0
    go_enter Tryd.func19, Tryd.ntmps19
    go_wp2
    go_ret2
    exact .inl ⟨by rw [E.out]; decide, by rw [E.out]; rfl, Below.refl _ _⟩
  have e1 : decide (size < 0) = false := decide_eq_false h0
  by_cases h1 : 1048576 < size
  · have E : Aside0 (newE size l = 1) := ⟨if_pos (.inr (.inl h1))⟩
    have e2 : decide (1048576 < size) = true := decide_eq_true h1
    clear h0 h1
    go_enter Tryd.func19, Tryd.ntmps19
    go_wp2
    go_ret2
    exact .inl ⟨by rw [E.out]; decide, by rw [E.out]; rfl, Below.refl _ _⟩
  have e2 : decide (1048576 < size) = false := decide_eq_false h1
  have HSZ : Aside0 (0 ≤ size ∧ size ≤ 1048576) := ⟨by omega, by omega⟩
  clear h0 h1
  go_enter Tryd.func19, Tryd.ntmps19
  go_wp2
  go_loopg [6] l.length (fun kq v6 wr => ∃ i : Nat, v6 = .int .i64 i ∧ Aside0 (i + kq = l.length) ∧ Aside0 ((l.take i).any badF = false) ∧ Aside0 (Below w.heap.size w wr))
  case atStart => exact ⟨0, rfl, ⟨by omega⟩, ⟨rfl⟩, ⟨Below.refl _ _⟩⟩
  case round =>
    obtain ⟨i, rfl, h1, h2, h3⟩ := hrel
    by_cases hi : i < l.length
    · have e3 : decide ((i : Int) < (l.length : Int)) = true := decide_eq_true (by omega)
      have e3' : decide (i < l.length) = true := decide_eq_true hi
      have e4 : (i : Int) < (l.length : Int) := by omega
      have e5 : IntKind.i64.wrap ((i : Int) + 1) = ((i + 1 : Nat) : Int) := by have := HL.out; rw [i64_w]; unfold wrap64; omega
      obtain ⟨x, hx0⟩ : ∃ x, l[i]? = some x := ⟨_, List.getElem?_eq_getElem hi⟩
      obtain ⟨ad, rfl, hq⟩ := file_at R0.out hx0
      obtain ⟨q0, q1, q2⟩ := file_later h3.out hq
      have AT := Aside0.mk (any_take hx0)
      have HX := Aside0.mk hx0
      have HI := Aside0.mk hi
      have H3 : Aside0 (Below w.heap.size w wr.drew) := ⟨by apply below_drew1; exact h3.out⟩
      clear hx0 hq
      by_cases hs0 : x.f2 < 0
      · have e6 : decide (x.f2 < 0) = true := decide_eq_true hs0
        have hb : Aside0 (badF x = true) := ⟨by unfold badF; rw [e6]; rfl⟩
        have E : Aside0 (newE size l = 1) := ⟨if_pos (.inr (.inr (List.any_eq_true.2 ⟨x, List.mem_of_getElem? HX.out, hb.out⟩)))⟩
        clear hs0
        go_wp2
        go_region
        go_wp2
        go_ret2
        exact .inl ⟨by rw [E.out]; decide, by rw [E.out]; rfl, H3.out⟩
      · have e6 : decide (x.f2 < 0) = false := decide_eq_false hs0
        by_cases hs1 : (x.f1.size : Int) < x.f2
        · have e7 : decide ((x.f1.size : Int) < x.f2) = true := decide_eq_true hs1
          have hb : Aside0 (badF x = true) := ⟨by unfold badF; rw [e6, e7]; rfl⟩
          have E : Aside0 (newE size l = 1) := ⟨if_pos (.inr (.inr (List.any_eq_true.2 ⟨x, List.mem_of_getElem? HX.out, hb.out⟩)))⟩
          clear hs0 hs1
          go_wp2
          go_region
          go_wp2
          go_ret2
          exact .inl ⟨by rw [E.out]; decide, by rw [E.out]; rfl, H3.out⟩
        · have e7 : decide ((x.f1.size : Int) < x.f2) = false := decide_eq_false hs1
          have hb : Aside0 (badF x = false) := ⟨by unfold badF; rw [e6, e7]; rfl⟩
          clear hs0 hs1
          go_wp2
          go_region
          go_wp2
          go_roundg (l.length - (i + 1))
          case measure => have := HI.out; have := h1.out; omega
          case rel => exact ⟨i + 1, by simp, ⟨by have := HI.out; have := h1.out; omega⟩, ⟨by rw [AT.out, h2.out, hb.out]; rfl⟩, H3⟩
    · have e3 : decide ((i : Int) < (l.length : Int)) = false := decide_eq_false (by omega)
      have e3' : decide (i < l.length) = false := decide_eq_false hi
      have hb : l.any badF = false := by
        have h9 := h2.out
        rwa [List.take_of_length_le (by omega)] at h9
      have HE : Aside0 (newE size l = if ¬ NamesOk l then 40 else if ¬ Fits size l then 42 else 0) := ⟨if_neg (fun hh => by
        have h9 := HSZ.out
        rcases hh with h | h | h
        · omega
        · omega
        · rw [hb] at h; cases h)⟩
      have h7 := blk_new wr (.cells #[.int .i64 size, .slice none 0 0, .int .i64 (-1), .bool false, .int .i64 0] 79)
      have MR : Aside0 (MineR w.heap.size w (wr.alloc (.cells #[.int .i64 size, .slice none 0 0, .int .i64 (-1), .bool false, .int .i64 0] 79)) wr.heap.size (.slice none 0 0) (AD.fresh size [])) := ⟨⟨h7, Kd.R_nil _ _ _ _ _⟩, below_alloc h3.out _, by have := h3.out.size; simp; omega, fun k hk => by simp [Value.ownBlock] at hk; subst hk; exact h3.out.size⟩
      clear hi hb h1 h2 h3 h7
      go_upto_region 9 with fail
      obtain ⟨W, hW⟩ : ∃ W, (wr.alloc (.cells #[.int .i64 size, .slice none 0 0, .int .i64 (-1), .bool false, .int .i64 0] 79)) = W := ⟨_, rfl⟩
      obtain ⟨r, hr⟩ : ∃ r, r = wr.heap.size := ⟨_, rfl⟩
      rw [hW, ← hr] at MR
      rw [hW]
      go_simp
      rw [← hr]
      clear hW hr e3 e3'
      go_wp2
      go_loopg [9] l.length (fun kq v9 wr => ∃ i : Nat, v9 = .int .i64 i ∧ Aside0 (i + kq = l.length) ∧ Aside0 (NamesOk (l.take i)) ∧ Aside0 (MineR w.heap.size w wr r (.slice none 0 0) (AD.fresh size [])))
      case atStart => exact ⟨0, rfl, ⟨by omega⟩, ⟨by rw [List.take_zero]; exact ⟨fun x hx => (by cases hx), List.Pairwise.nil⟩⟩, MR⟩
      case round =>
        clear MR
        obtain ⟨i, rfl, h1, h2, h3⟩ := hrel
        by_cases hi : i < l.length
        · have e3 : decide ((i : Int) < (l.length : Int)) = true := decide_eq_true (by omega)
          have e3' : decide (i < l.length) = true := decide_eq_true hi
          have e4 : (i : Int) < (l.length : Int) := by omega
          have e5 : IntKind.i64.wrap ((i : Int) + 1) = ((i + 1 : Nat) : Int) := by have := HL.out; rw [i64_w]; unfold wrap64; omega
          obtain ⟨x, hx0⟩ : ∃ x, l[i]? = some x := ⟨_, List.getElem?_eq_getElem hi⟩
          obtain ⟨ad, rfl, hq⟩ := file_at R0.out hx0
          obtain ⟨q0, q1, q2⟩ := file_later h3.out.2.1 hq
          have HX := Aside0.mk hx0
          have HI := Aside0.mk hi
          have HQ := Aside0.mk hq
          have cN := rname_calls x.f0 (SZ.out x (List.mem_of_getElem? hx0)).1 wr
          obtain ⟨nm, hnm⟩ : ∃ nm, named x.f0.data.toList = nm := ⟨_, rfl⟩
          rw [hnm] at cN
          have HNM := Aside0.mk hnm
          clear hx0 hq hnm
          go_upto_region 14 with (go_at_call 34; refine cN.mono ?_; rintro e w6 ⟨rfl, hb6⟩; have M6 := Aside0.mk (h3.out.on hb6); clear hb6 cN)
          clear q0 q1 q2
          go_wp2
          go_loopg [10, 11] i (fun kq v10 v11 wr => ∃ k : Nat, v10 = .bool (nm && decide (nmF x ∉ (l.take k).map nmF)) ∧ v11 = .int .i64 k ∧ Aside0 (k + kq = i) ∧ Aside0 (MineR w.heap.size w wr r (.slice none 0 0) (AD.fresh size [])))
          case atStart => exact ⟨0, by simp, rfl, ⟨by omega⟩, M6⟩
          case round =>
            clear M6
            obtain ⟨k, rfl, rfl, g1, g2⟩ := hrel
            by_cases hk : k < i
            · have e6 : decide ((k : Int) < (i : Int)) = true := decide_eq_true (by omega)
              have e6' : decide (k < i) = true := decide_eq_true hk
              have e7 : (k : Int) < (l.length : Int) := by omega
              have e7' : k < l.length := by omega
              have e8 : IntKind.i64.wrap ((k : Int) + 1) = ((k + 1 : Nat) : Int) := by have := HL.out; rw [i64_w]; unfold wrap64; omega
              obtain ⟨y, hy0⟩ : ∃ y, l[k]? = some y := ⟨_, List.getElem?_eq_getElem e7'⟩
              obtain ⟨ad2, had, hq2⟩ := file_at R0.out hy0
              cases had
              obtain ⟨p0, p1, p2⟩ := file_later g2.out.2.1 hq2
              obtain ⟨q0, q1, q2⟩ := file_later g2.out.2.1 HQ.out
              have HK := Aside0.mk hk
              have M7 := Aside0.mk (g2.out.on (w' := wr.drew) (by apply below_drew1; exact Below.refl _ _))
              have htk : Aside0 ((l.take (k + 1)).map nmF = (l.take k).map nmF ++ [nmF y]) := ⟨by rw [List.take_add_one, hy0]; simp⟩
              have heq := strEq_nm y.f0 x.f0
              clear hy0 hq2 hk
              by_cases hyx : nmF y = nmF x
              · have e9 : (y.f0.toList == x.f0.toList) = true := by rw [heq]; exact decide_eq_true hyx
                have hnew : Aside0 ((nm && decide (nmF x ∉ (l.take (k + 1)).map nmF)) = false) := ⟨by rw [htk.out, decide_eq_false (by simp [hyx])]; simp⟩
                clear hyx heq
                go_wp2
                go_region
                go_wp2
                go_roundg (i - (k + 1))
                case measure => have := HK.out; have := g1.out; omega
                case rel => exact ⟨k + 1, by rw [hnew.out], by simp, ⟨by have := HK.out; have := g1.out; omega⟩, M7⟩
              · have e9 : (y.f0.toList == x.f0.toList) = false := by rw [heq]; exact decide_eq_false hyx
                have hnew : Aside0 ((nm && decide (nmF x ∉ (l.take (k + 1)).map nmF)) = (nm && decide (nmF x ∉ (l.take k).map nmF))) := ⟨by
                  have h9 : (nmF x ∉ (l.take (k + 1)).map nmF) = (nmF x ∉ (l.take k).map nmF) := by
                    rw [htk.out, eq_iff_iff]
                    simp only [List.mem_append, List.mem_singleton, not_or]
                    exact ⟨fun h => h.1, fun h => ⟨h, fun e => hyx e.symm⟩⟩
                  simp only [h9]⟩
                clear hyx heq
                go_wp2
                go_region
                go_wp2
                go_roundg (i - (k + 1))
                case measure => have := HK.out; have := g1.out; omega
                case rel => exact ⟨k + 1, by rw [hnew.out], by simp, ⟨by have := HK.out; have := g1.out; omega⟩, M7⟩
            · have e6 : decide ((k : Int) < (i : Int)) = false := decide_eq_false (by omega)
              have e6' : decide (k < i) = false := decide_eq_false hk
              have hki : k = i := by have := g1.out; omega
              subst hki
              obtain ⟨b, hb⟩ : ∃ b, (nm && decide (nmF x ∉ (l.take k).map nmF)) = b := ⟨_, rfl⟩
              have hiff : NamesOk (l.take (k + 1)) ↔ b = true := by
                rw [names_take HX.out, ← hb]
                simp only [Bool.and_eq_true, decide_eq_true_iff]
                rw [show (named (nmF x) = true) = (nm = true) by rw [show named (nmF x) = nm from HNM.out]]
                exact ⟨fun h => h.2, fun h => ⟨h2.out, h⟩⟩
              rw [hb]
              clear hb hk
              cases b with
              | true =>
                have HN : Aside0 (NamesOk (l.take (k + 1))) := ⟨hiff.2 rfl⟩
                clear hiff
                go_wp2
                go_roundg (l.length - (k + 1))
                case measure => have := HI.out; have := h1.out; omega
                case rel => exact ⟨k + 1, by simp, ⟨by have := HI.out; have := h1.out; omega⟩, HN, g2⟩
              | false =>
                have E : Aside0 (newE size l = 40) := ⟨by rw [HE.out, if_pos (fun hh => by have h9 := hiff.1 (hh.take (k + 1)); cases h9)]⟩
                clear hiff
                go_wp2
                go_ret2
                exact .inl ⟨by rw [E.out]; decide, by rw [E.out]; rfl, g2.out.2.1⟩
        · have e3 : decide ((i : Int) < (l.length : Int)) = false := decide_eq_false (by omega)
          have e3' : decide (i < l.length) = false := decide_eq_false hi
          have hil : i = l.length := by have := h1.out; omega
          subst hil
          have HN : Aside0 (NamesOk l) := ⟨by have := h2.out; rwa [List.take_length] at this⟩
          have HE2 : Aside0 (newE size l = if ¬ Fits size l then 42 else 0) := ⟨by rw [HE.out, if_neg (not_not_intro HN.out)]⟩
          have M0 := h3
          clear h1 h2 h3 HE hi
          go_wp2
          go_loopg [8, 12] l.length (fun kq v8 v12 wr => ∃ (i : Nat) (many : Nat) (v : Value), v8 = .int .i64 many ∧ v12 = .int .i64 i ∧ Aside0 (i + kq = l.length) ∧ Aside0 (totS (l.take i) = many ∧ (many : Int) ≤ size ∧ i ≤ 64) ∧ Aside0 (MineR w.heap.size w wr r v (AD.fresh size (putAll (l.take i)))))
          case atStart => exact ⟨0, 0, _, rfl, rfl, ⟨by omega⟩, ⟨rfl, HSZ.out.1, by decide⟩, M0⟩
          case round =>
            clear M0 e3 e3'
            obtain ⟨i, many, v, rfl, rfl, h1, h2, h3⟩ := hrel
            by_cases hi : i < l.length
            · have e3 : decide ((i : Int) < (l.length : Int)) = true := decide_eq_true (by omega)
              have e3' : decide (i < l.length) = true := decide_eq_true hi
              have e4 : (i : Int) < (l.length : Int) := by omega
              have e5 : IntKind.i64.wrap ((i : Int) + 1) = ((i + 1 : Nat) : Int) := by have := HL.out; rw [i64_w]; unfold wrap64; omega
              have e10 : IntKind.i64.wrap (size - (many : Int)) = size - many := by have := h2.out; have := HSZ.out; rw [i64_w]; unfold wrap64; omega
              obtain ⟨x, hx0⟩ : ∃ x, l[i]? = some x := ⟨_, List.getElem?_eq_getElem hi⟩
              obtain ⟨ad, rfl, hq⟩ := file_at R0.out hx0
              obtain ⟨q0, q1, q2⟩ := file_later h3.out.2.1 hq
              have HX := Aside0.mk hx0
              have HI := Aside0.mk hi
              have hT : Aside0 (totS (l.take (i + 1)) = many + x.f1.size ∧ totS (l.take (i + 1)) ≤ totS l) := ⟨by rw [List.take_add_one, hx0, totS_app, h2.out.1]; simp [totS], by
                have h9 := totS_app (l.take (i + 1)) (l.drop (i + 1))
                rw [List.take_append_drop] at h9
                omega⟩
              clear hx0 hq
              by_cases h64 : 64 ≤ i
              · have e11 : decide ((64 : Int) ≤ (i : Int)) = true := decide_eq_true (by omega)
                have e11' : decide (64 ≤ i) = true := decide_eq_true h64
                have E : Aside0 (newE size l = 42) := ⟨by rw [HE2.out, if_pos (fun hh => by have := hh.1; omega)]⟩
                clear h64
                go_wp2
                go_ret2
                exact .inl ⟨by rw [E.out]; decide, by rw [E.out]; rfl, h3.out.2.1⟩
              · have e11 : decide ((64 : Int) ≤ (i : Int)) = false := decide_eq_false (by omega)
                have e11' : decide (64 ≤ i) = false := decide_eq_false h64
                by_cases hfull : size - (many : Int) < (x.f1.size : Int)
                · have e12 : decide (size - (many : Int) < (x.f1.size : Int)) = true := decide_eq_true hfull
                  have E : Aside0 (newE size l = 42) := ⟨by rw [HE2.out, if_pos (fun hh => by have := hh.2; have := hT.out; omega)]⟩
                  clear h64 hfull
                  go_wp2
                  go_ret2
                  exact .inl ⟨by rw [E.out]; decide, by rw [E.out]; rfl, h3.out.2.1⟩
                · have e12 : decide (size - (many : Int) < (x.f1.size : Int)) = false := decide_eq_false hfull
                  have e13 : IntKind.i64.wrap ((many : Int) + (x.f1.size : Int)) = ((many + x.f1.size : Nat) : Int) := by have := h2.out; have := HSZ.out; rw [i64_w]; unfold wrap64; omega
                  have HF : Aside0 (((many + x.f1.size : Nat) : Int) ≤ size ∧ i + 1 ≤ 64) := ⟨by omega, by omega⟩
                  have cP := puts37 h3.out.1 x (by show (putAll (l.take i)).length ≤ 64; rw [putAll_length, List.length_take]; omega)
                  have hput : putR (afF x) (putAll (l.take i)) = putAll (l.take (i + 1)) := by
                    rw [putAll_take HX.out]
                    refine putR_new (fun f hf e => ?_)
                    obtain ⟨y, hy, rfl⟩ := (mem_putAll _ f).1 hf
                    exact ((names_take HX.out).1 (HN.out.take (i + 1))).2.2 (List.mem_map.2 ⟨y, hy, e⟩)
                  rw [show ({ AD.fresh size (putAll (l.take i)) with L := putR (afF x) (AD.fresh size (putAll (l.take i))).L } : AD) = AD.fresh size (putAll (l.take (i + 1))) by rw [← hput]; rfl] at cP
                  clear h64 hfull hput
                  go_wp2_with (go_at_call 35; refine cP.mono ?_; rintro e w6 ⟨rfl, hd6⟩; obtain ⟨v6, hm6, -, -⟩ := h3.out.did hd6; have M6 := Aside0.mk hm6; clear hd6 hm6 cP)
                  go_roundg (l.length - (i + 1))
                  case measure => have := HI.out; have := h1.out; omega
                  case rel => exact ⟨i + 1, many + x.f1.size, v6, by simp, by simp, ⟨by have := HI.out; have := h1.out; omega⟩, ⟨hT.out.1, HF.out.1, HF.out.2⟩, M6⟩
            · have e3 : decide ((i : Int) < (l.length : Int)) = false := decide_eq_false (by omega)
              have e3' : decide (i < l.length) = false := decide_eq_false hi
              have hil : i = l.length := by have := h1.out; omega
              subst hil
              have E : Aside0 (newE size l = 0) := ⟨by rw [HE2.out, if_neg (not_not_intro ⟨h2.out.2.2, by have h9 := h2.out.1; rw [List.take_length] at h9; rw [h9]; exact h2.out.2.1⟩)]⟩
              clear hi
              go_wp2
              go_ret2
              refine .inr ⟨E.out, r, v, rfl, ?_⟩
              have h9 := h3.out
              rw [List.take_length] at h9
              exact h9
end Go.Proofs.YtakhnkkcllfbjaaDoorX
