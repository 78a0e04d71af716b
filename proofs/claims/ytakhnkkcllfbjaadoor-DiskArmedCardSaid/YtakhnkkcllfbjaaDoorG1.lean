/- DiskGrows: the walk. -/
import Derived.Test.YtakhnkkcllfbjaaDoorED
namespace Go.Proofs.YtakhnkkcllfbjaaDoorX
open Go.RowKit Go.Proofs.YtakhnkkcllfbjaaDoorW.PrintWords Go.Proofs.YtakhnkkcllfbjaaDoorW.PrintLast Go.Proofs.YtakhnkkcllfbjaaDoorW.PrintMore
open Go.Proofs.YtakhnkkcllfbjaaDoor.PA (S37 k37 z37 k37_mkM eqA37 k37_open)
attribute [local go_sem high] eqA37
set_option linter.unusedVariables false
set_option linter.unusedSimpArgs false
def totB : List ByteArray → Nat
  | [] => 0
  | x :: r => x.size + totB r
theorem totB_app (a b : List ByteArray) : totB (a ++ b) = totB a + totB b := by
  induction a with
  | nil => simp [totB]
  | cons x r ih => simp only [List.cons_append, totB, ih]; omega
theorem totB_take_le (l : List ByteArray) (i : Nat) : totB (l.take i) ≤ totB l := by
  have := totB_app (l.take i) (l.drop i)
  rw [List.take_append_drop] at this
  omega
abbrev log : Nm := [108, 111, 103]
def grD (st : Int) (all : ByteArray) (safe : Int) : AD := ⟨1048576, -1, false, st, [⟨log, all, safe⟩]⟩
def GrAt (D : AD) (all : ByteArray) (safe : Int) (i : Nat) : Prop := (i = 0 ∧ D = AD.fresh 1048576 [] ∧ all = ⟨#[]⟩ ∧ safe = 0) ∨ (0 < i ∧ ∃ st, D = grD st all safe)
theorem gr_append {D : AD} {all p : ByteArray} {safe : Int} {i : Nat} (h : GrAt D all safe i) (hs : all.size + p.size ≤ 1048576) : (D.append log p).2 = 0 ∧ GrAt (D.append log p).1 (all ++ p) safe (i + 1) := by
  rcases h with ⟨rfl, rfl, rfl, rfl⟩ | ⟨h0, st, rfl⟩
  · have e0 : (AD.fresh 1048576 []).findE log = 41 := rfl
    have e1 : (AD.fresh 1048576 []).free = 1048576 := rfl
    have h2 : ¬ ((AD.fresh 1048576 []).free < (p.size : Int) ∨ (findL log (AD.fresh 1048576 []).L = none ∧ (AD.fresh 1048576 []).L.length = 64)) := by
      rintro (h3 | h3)
      · rw [e1] at h3
        have : (⟨#[]⟩ : ByteArray).size = 0 := rfl
        omega
      · exact absurd h3.2 (by decide)
    unfold AD.append
    rw [if_neg (by rw [e0]; decide), if_neg h2, if_neg (by decide)]
    refine ⟨rfl, .inr ⟨by omega, wrap64 1, ?_⟩⟩
    show AD.mk _ _ _ _ _ = AD.mk _ _ _ _ _
    rw [show (⟨#[]⟩ : ByteArray) ++ p = p from ByteArray.empty_append]
    rfl
  · have e0 : (grD st all safe).findE log = 0 := rfl
    have e1 : (grD st all safe).free = 1048576 - (all.size : Int) := by
      show (1048576 : Int) - ((all.size + 0 : Nat) : Int) = _
      rw [Nat.add_zero]
    have h2 : ¬ ((grD st all safe).free < (p.size : Int) ∨ (findL log (grD st all safe).L = none ∧ (grD st all safe).L.length = 64)) := by
      rintro (h3 | h3)
      · rw [e1] at h3; omega
      · exact absurd h3.2 (by show ¬ (1 : Nat) = 64; decide)
    unfold AD.append
    rw [if_neg (by rw [e0]; decide), if_neg h2, if_neg (by show ¬ (-1 : Int) = 0; decide)]
    exact ⟨rfl, .inr ⟨by omega, wrap64 (st + 1), rfl⟩⟩
theorem gr_sync {D : AD} {all : ByteArray} {safe : Int} {i : Nat} (h : GrAt D all safe (i + 1)) : (D.sync log).2 = 0 ∧ GrAt (D.sync log).1 all all.size (i + 1) := by
  rcases h with ⟨h0, _⟩ | ⟨h0, st, rfl⟩
  · cases h0
  · exact ⟨rfl, .inr ⟨h0, wrap64 (st + 1), rfl⟩⟩
theorem R_none {w : World} {base : Nat} {ok : Nat → Prop} {v : Value} (h : Kd.R k37 37 w base ok v []) : ∃ A c, v = .slice A 0 c := by
  obtain ⟨h0, inner, hown, hr⟩ := h
  exact row_shape hown
theorem one_cells {w5 w6 : World} {g : Nat} {cur : Array Value} {x : S37} (h : w5.heap[g]? = some (.cells cur 37 (0, 0)) ∧ cur[0]? = some (.string x.f0) ∧ cur[1]? = some (.string x.f1) ∧ cur[2]? = some (.int .i64 x.f2)) (hb : Below w5.heap.size w5 w6) :
    w6.cell? ⟨g, 0, none⟩ = some (.string x.f0) ∧ w6.cell? ⟨g, 1, none⟩ = some (.string x.f1) ∧ w6.cell? ⟨g, 2, none⟩ = some (.int .i64 x.f2) := by
  obtain ⟨h2, h3, h4, h5⟩ := h
  have h6 := blk_below h2 hb
  exact ⟨by rw [blk_cell h6, h3], by rw [blk_cell h6, h4], by rw [blk_cell h6, h5]⟩
theorem C_str {w : World} {A : Option Addr} {n : Nat} {xs : List ByteArray} (h : Kd.C Kd.string w A n xs) {i : Nat} (hi : i < xs.length) : ∃ ad, A = some ad ∧ w.cell? (ad.add i) = some (.string xs[i]) := by
  obtain ⟨ad, h1, h2⟩ := h.2.2 (by have := h.1; omega)
  obtain ⟨c, h3, h4, h5⟩ := h2 i xs[i] (List.getElem?_eq_getElem hi)
  have h6 : c = [.string xs[i]] := h4
  refine ⟨ad, h1, ?_⟩
  have := h5 0 (.string xs[i]) (by rw [h6]; rfl)
  rw [show Kd.string.sz = 1 from rfl, Nat.mul_one, Nat.add_zero] at this
  exact this
theorem C_str_at {w : World} {ad : Addr} {n : Nat} {xs : List ByteArray} (h : Kd.C Kd.string w (some ad) n xs) {i : Nat} {x : ByteArray} (hi : xs[i]? = some x) : w.cell? (ad.add i) = some (.string x) := by
  obtain ⟨hl, rfl⟩ := List.getElem?_eq_some_iff.1 hi
  obtain ⟨ad', e, hc⟩ := C_str h hl
  cases e
  exact hc
theorem C_bool {w : World} {A : Option Addr} {n : Nat} {xs : List Bool} (h : Kd.C Kd.bool w A n xs) {i : Nat} (hi : i < xs.length) : ∃ ad, A = some ad ∧ w.cell? (ad.add i) = some (.bool xs[i]) := by
  obtain ⟨ad, h1, h2⟩ := h.2.2 (by have := h.1; omega)
  obtain ⟨c, h3, h4, h5⟩ := h2 i xs[i] (List.getElem?_eq_getElem hi)
  have h6 : c = [.bool xs[i]] := h4
  refine ⟨ad, h1, ?_⟩
  have := h5 0 (.bool xs[i]) (by rw [h6]; rfl)
  rw [show Kd.bool.sz = 1 from rfl, Nat.mul_one, Nat.add_zero] at this
  exact this
set_option maxRecDepth 100000 in
theorem Grows_calls (A0 : Option Addr) (c0 : Nat) (l0 : List ByteArray) (A1 : Option Addr) (c1 : Nat) (l1 : List Bool) (w : World) (hr0 : Kd.C Kd.string w A0 l0.length l0) (hr1 : Kd.C Kd.bool w A1 l1.length l1) :
    Calls Tryd.prog 3 #[.slice A0 l0.length c0, .slice A1 l1.length c1] w fun e w' => e = .returned (.bool true) ∧ Below w.heap.size w w' := by
  have R0 := Aside0.mk hr0
  have R1 := Aside0.mk hr1
  clear hr0 hr1
  go_enter Tryd.func3, Tryd.ntmps3
  go_wp2
  go_loopg [5, 6] l0.length (fun kq v5 v6 wr => ∃ (i : Nat) (many : Int), v6 = .int .i64 i ∧ v5 = .int .i64 many ∧ Aside0 (i + kq = l0.length) ∧ Aside0 (0 ≤ many ∧ many ≤ 2097152 ∧ (many ≤ 1048576 → many = totB (l0.take i))) ∧ wr = w)
  case atStart => exact ⟨0, 0, rfl, rfl, ⟨by omega⟩, ⟨by omega, by omega, fun _ => rfl⟩, rfl⟩
  case round =>
    obtain ⟨i, many, rfl, rfl, h1, h2, hw⟩ := hrel
    replace hw := hw.symm
    subst hw
    by_cases hm : many ≤ 1048576
    · have e1 : decide (many ≤ 1048576) = true := decide_eq_true hm
      by_cases hi : i < l0.length
      · have e2 : decide ((i : Int) < (l0.length : Int)) = true := decide_eq_true (by omega)
        have e2' : decide (i < l0.length) = true := decide_eq_true hi
        obtain ⟨ad, rfl, hc⟩ := C_str R0.out hi
        have hl := R0.out.2.1
        have e5 : IntKind.i64.wrap ((i : Int) + 1) = ((i + 1 : Nat) : Int) := by rw [i64_w]; unfold wrap64; omega
        have hnext : l0.take (i + 1) = l0.take i ++ [l0[i]] := by rw [List.take_add_one, List.getElem?_eq_getElem hi]; rfl
        generalize l0[i] = x at hc hnext
        have NX := Aside0.mk hnext
        have HI := Aside0.mk hi
        have HM := Aside0.mk hm
        by_cases hx : (x.size : Int) > 1048576
        · have e6 : decide ((1048576 : Int) < (x.size : Int)) = true := decide_eq_true hx
          have e6' : decide (1048576 < x.size) = true := decide_eq_true (by omega)
          clear hx hm hl hnext
          go_wp2
          go_roundg (l0.length - (i + 1))
          case measure => have := HI.out; have := h1.out; omega
          case rel => exact ⟨i + 1, 1048577, by simp, rfl, ⟨by have := HI.out; have := h1.out; omega⟩, ⟨by omega, by omega, fun h => by omega⟩, rfl⟩
        · have e6 : decide ((1048576 : Int) < (x.size : Int)) = false := decide_eq_false hx
          have e6' : decide (1048576 < x.size) = false := decide_eq_false (by omega)
          have e7 : IntKind.i64.wrap (many + x.size) = many + x.size := by have := h2.out; rw [i64_w]; unfold wrap64; omega
          have HX : Aside0 (x.size ≤ 1048576) := ⟨by omega⟩
          clear hx hm hl hnext
          go_wp2
          go_roundg (l0.length - (i + 1))
          case measure => have := HI.out; have := h1.out; omega
          case rel =>
            refine ⟨i + 1, many + x.size, by simp, rfl, ⟨by have := HI.out; have := h1.out; omega⟩, ⟨?_, ?_, fun h => ?_⟩, rfl⟩
            · have := h2.out; omega
            · have := HX.out; have := HM.out; omega
            · have := h2.out.2.2 HM.out
              rw [NX.out, totB_app]
              simp only [totB]
              omega
      · have hi2 : l0.take i = l0 := List.take_of_length_le (by omega)
        have hm2 : many = totB l0 := by have := h2.out.2.2 hm; rwa [hi2] at this
        have e2 : decide ((i : Int) < (l0.length : Int)) = false := decide_eq_false (by omega)
        have e2' : decide (i < l0.length) = false := decide_eq_false hi
        have e3 : decide ((1048576 : Int) < many) = false := decide_eq_false (by omega)
        have cA := awake_calls w
        by_cases hbig : l0.length > 2147483647
        · have e4 : decide ((2147483647 : Int) < (l0.length : Int)) = true := decide_eq_true (by omega)
          have e4' : decide (2147483647 < l0.length) = true := decide_eq_true hbig
          clear hm hi hi2 hm2 hbig
          go_wp2_with (go_at_call 8; refine cA.mono ?_; rintro e w1 ⟨rfl, hb1⟩)
          go_ret
          exact ⟨rfl, hb1⟩
        · have e4 : decide ((2147483647 : Int) < (l0.length : Int)) = false := decide_eq_false (by omega)
          have e4' : decide (2147483647 < l0.length) = false := decide_eq_false hbig
          have HM := Aside0.mk hm2
          have HTot : Aside0 (totB l0 ≤ 1048576 ∧ l0.length ≤ 2147483647) := ⟨by omega, by omega⟩
          clear hm hi hi2 hm2 hbig h1 h2
          go_upto_block 2 with (first
            | (go_at_call 8; refine cA.mono ?_; rintro e w1 ⟨rfl, hb1⟩; have B1 := Aside0.mk hb1; have cN := M_new (B := w.heap.size) (w0 := w) (w := w1) 1048576 (by decide) (by decide) hb1 hb1.size; clear hb1)
            | (go_at_call 9; refine cN.mono ?_; rintro e w2 ⟨a, S, rfl, hm, -⟩; have M2 := Aside0.mk hm; clear hm cN))
          clear e1 e2 e2' e3 e4 e4' cA
          go_wp2_with fail
          go_loopg [10, 11, 12] l0.length (fun kq v10 v11 v12 w3 => ∃ (i : Nat) (all : ByteArray) (safe : Int) (D : AD) (S : List Nat), v10 = .string all ∧ v11 = .int .i64 safe ∧ v12 = .int .i64 i ∧ Aside0 (i + kq = l0.length) ∧ Aside0 (GrAt D all safe i ∧ all.size = totB (l0.take i)) ∧ Aside0 (Mine w.heap.size w w3 a S D))
          case atStart => exact ⟨0, _, 0, _, S, rfl, rfl, rfl, ⟨by omega⟩, ⟨.inl ⟨rfl, rfl, rfl, rfl⟩, rfl⟩, M2⟩
          case round =>
            obtain ⟨j, all, safe, D, S3, rfl, rfl, rfl, h1, h2, h3⟩ := hrel
            by_cases hj : j < l0.length
            · have e2 : decide ((j : Int) < (l0.length : Int)) = true := decide_eq_true (by omega)
              have e2' : decide (j < l0.length) = true := decide_eq_true hj
              obtain ⟨ad, rfl, hc⟩ := C_str (Kd.Heap.C Kd.heap_string (fun k hk => h3.out.below.block k hk) R0.out) hj
              have hl := R0.out.2.1
              have e5 : IntKind.i64.wrap ((j : Int) + 1) = ((j + 1 : Nat) : Int) := by rw [i64_w]; unfold wrap64; omega
              have hnext : l0.take (j + 1) = l0.take j ++ [l0[j]] := by rw [List.take_add_one, List.getElem?_eq_getElem hj]; rfl
              have hle := totB_take_le l0 (j + 1)
              obtain ⟨x, hx0⟩ : ∃ x, l0[j] = x := ⟨_, rfl⟩
              have HX0 : l0[j]? = some x := by rw [List.getElem?_eq_getElem hj, hx0]
              rw [hx0] at hc hnext
              clear hx0
              have hsz : all.size + x.size ≤ 1048576 := by
                have h9 := h2.out.2
                have h10 := HTot.out.1
                rw [hnext, totB_app] at hle
                simp only [totB] at hle
                omega
              obtain ⟨g1, g2⟩ := gr_append h2.out.1 hsz
              obtain ⟨g3, g4⟩ := gr_sync g2
              have e9 : ¬ 9223372036854775807 < all.size + x.size := by omega
              have G3 := Aside0.mk g3
              have G4 := Aside0.mk g4
              clear g3 g4
              have cP := M_append h3.out ⟨#[108, 111, 103]⟩ x (by decide)
              rw [show (D.append (⟨#[108, 111, 103]⟩ : ByteArray).data.toList x).2 = 0 from g1] at cP
              have HJ := Aside0.mk hj
              have NX := Aside0.mk hnext
              have G2 := Aside0.mk g2
              have HSZ : Aside0 ((all ++ x).size = totB (l0.take (j + 1))) := ⟨by rw [hnext, totB_app, ByteArray.size_append, h2.out.2]; simp [totB]⟩
              have hcW : ∀ W, Below w.heap.size w W → W.cell? (ad.add j) = some (.string x) := fun W hW => (C_str_at (Kd.Heap.C Kd.heap_string (fun k hk => hW.block k hk) R0.out) HX0)
              have HCW := Aside0.mk hcW
              clear hnext hle hsz g1 g2 hl hcW HX0
              by_cases hb : j < l1.length
              · have e6 : decide ((j : Int) < (l1.length : Int)) = true := decide_eq_true (by omega)
                have e6' : decide (j < l1.length) = true := decide_eq_true hb
                cases hbv : l1[j] with
                | false =>
                  go_wp2_with (go_at_call 10; refine cP.mono ?_; rintro e w4 ⟨rfl, S4, hm4, -⟩; have M4 := Aside0.mk hm4; obtain ⟨ad1, rfl, hc1⟩ := C_bool (Kd.Heap.C Kd.heap_bool (fun k hk => hm4.below.block k hk) R1.out) hb; rw [hbv] at hc1; have hc4 := HCW.out _ hm4.below; clear hm4)
                  go_roundg (l0.length - (j + 1))
                  case measure => have := HJ.out; have := h1.out; omega
                  case rel => exact ⟨j + 1, all ++ x, safe, _, S4, rfl, rfl, by simp, ⟨by have := HJ.out; have := h1.out; omega⟩, ⟨G2.out, HSZ.out⟩, M4⟩
                | true =>
                  go_wp2_with (first
                    | (go_at_call 10; refine cP.mono ?_; rintro e w4 ⟨rfl, S4, hm4, -⟩; have M4 := Aside0.mk hm4; obtain ⟨ad1, rfl, hc1⟩ := C_bool (Kd.Heap.C Kd.heap_bool (fun k hk => hm4.below.block k hk) R1.out) hb; rw [hbv] at hc1; have cS := M_sync hm4 ⟨#[108, 111, 103]⟩ (by decide); rw [show ((D.append log x).1.sync (⟨#[108, 111, 103]⟩ : ByteArray).data.toList).2 = 0 from G3.out] at cS; have hc4 := HCW.out _ hm4.below; clear hm4)
                    | (go_at_call 11; refine cS.mono ?_; rintro e w5 ⟨rfl, S5, hm5, -⟩; have M5 := Aside0.mk hm5; clear hm5))
                  go_roundg (l0.length - (j + 1))
                  case measure => have := HJ.out; have := h1.out; omega
                  case rel => exact ⟨j + 1, all ++ x, ((all ++ x).size : Int), _, S5, rfl, by simp, by simp, ⟨by have := HJ.out; have := h1.out; omega⟩, ⟨G4.out, HSZ.out⟩, M5⟩
              · have e6 : decide ((j : Int) < (l1.length : Int)) = false := decide_eq_false (by omega)
                have e6' : decide (j < l1.length) = false := decide_eq_false hb
                clear hb
                go_wp2_with (go_at_call 10; refine cP.mono ?_; rintro e w4 ⟨rfl, S4, hm4, -⟩; have M4 := Aside0.mk hm4; have hc4 := HCW.out _ hm4.below; clear hm4)
                go_roundg (l0.length - (j + 1))
                case measure => have := HJ.out; have := h1.out; omega
                case rel => exact ⟨j + 1, all ++ x, safe, _, S4, rfl, rfl, by simp, ⟨by have := HJ.out; have := h1.out; omega⟩, ⟨G2.out, HSZ.out⟩, M4⟩
            · have e2 : decide ((j : Int) < (l0.length : Int)) = false := decide_eq_false (by omega)
              have e2' : decide (j < l0.length) = false := decide_eq_false hj
              have hj2 : l0.take j = l0 := List.take_of_length_le (by omega)
              have hsz : all.size = totB l0 := by have := h2.out.2; rwa [hj2] at this
              have cFr := M_free h3.out
              rcases h2.out.1 with ⟨hj0, hD, ha0, hs0⟩ | ⟨hj0, st, hD⟩
              · subst hD
                have hl0 : l0.length = 0 := by omega
                have e6 : ((l0.length : Int) == 0) = true := by rw [hl0]; rfl
                have e7 : (AD.fresh 1048576 []).free = 1048576 := rfl
                clear hj hj2 hsz hj0 hl0
                go_wp2_with (first
                  | (go_at_call 12; refine cFr.mono ?_; rintro e w4 ⟨rfl, hm4, -⟩; have M4 := Aside0.mk hm4; have cFi := M_files hm4; clear hm4)
                  | (go_at_call 13; refine cFi.mono ?_; rintro e w5 ⟨v, rfl, hr5, hm5, -⟩; have M5 := Aside0.mk hm5; obtain ⟨Av, cv, rfl⟩ := R_none hr5; clear hm5 hr5))
                go_ret
                exact ⟨rfl, M5.out.below⟩
              · subst hD
                have hlt : 0 < l0.length := by have := h1.out; omega
                have e6 : ((l0.length : Int) == 0) = false := by rw [beq_eq_false_iff_ne]; omega
                have e6' : (l0.length == 0) = false := by rw [beq_eq_false_iff_ne]; omega
                have e7 : (grD st all safe).free = 1048576 - (all.size : Int) := by
                  show (1048576 : Int) - ((all.size + 0 : Nat) : Int) = _
                  rw [Nat.add_zero]
                have e8 : IntKind.i64.wrap (1048576 - many) = 1048576 - (all.size : Int) := by
                  rw [HM.out, ← hsz, i64_w]
                  have := HTot.out.1
                  unfold wrap64; omega
                have e9 : (grD st all safe).read log = (all, 0) := rfl
                have E9 := Aside0.mk e9
                clear hj hj2 hsz hj0 hlt e9
                go_wp2_with (first
                  | (go_at_call 12; refine cFr.mono ?_; rintro e w4 ⟨rfl, hm4, -⟩; have M4 := Aside0.mk hm4; have cFi := M_files hm4; clear hm4)
                  | (go_at_call 13; refine cFi.mono ?_; rintro e w5 ⟨v, rfl, hr5, hm5, -⟩; have M5 := Aside0.mk hm5; obtain ⟨g, cv, cur, rfl, hg, hb5, k0, k1, k2⟩ := one_file hr5; have K := Aside0.mk (And.intro hb5 (And.intro k0 (And.intro k1 k2))); have cRd := M_read hm5 ⟨#[108, 111, 103]⟩ (by decide); rw [show (grD st all safe).read (⟨#[108, 111, 103]⟩ : ByteArray).data.toList = (all, 0) from E9.out] at cRd; clear hm5 hr5 hg hb5 k0 k1 k2)
                  | (go_at_call 14; refine cRd.mono ?_; rintro e w6 ⟨rfl, hm6, hb6⟩; have M6 := Aside0.mk hm6; obtain ⟨q0, q1, q2⟩ := one_cells K.out hb6; replace q0 : w6.cell? ⟨g, 0, none⟩ = some (.string ⟨#[108, 111, 103]⟩) := q0; replace q1 : w6.cell? ⟨g, 1, none⟩ = some (.string all) := q1; replace q2 : w6.cell? ⟨g, 2, none⟩ = some (.int .i64 safe) := q2; clear hm6 hb6))
                go_ret
                exact ⟨rfl, M6.out.below⟩
    · have e1 : decide (many ≤ 1048576) = false := decide_eq_false hm
      have e3 : decide ((1048576 : Int) < many) = true := decide_eq_true (by omega)
      have cA := awake_calls w
      by_cases hi : i < l0.length
      · have e2 : decide ((i : Int) < (l0.length : Int)) = true := decide_eq_true (by omega)
        have e2' : decide (i < l0.length) = true := decide_eq_true hi
        clear hm hi
        go_wp2_with (go_at_call 8; refine cA.mono ?_; rintro e w1 ⟨rfl, hb1⟩)
        go_ret
        exact ⟨rfl, hb1⟩
      · have e2 : decide ((i : Int) < (l0.length : Int)) = false := decide_eq_false (by omega)
        have e2' : decide (i < l0.length) = false := decide_eq_false hi
        clear hm hi
        go_wp2_with (go_at_call 8; refine cA.mono ?_; rintro e w1 ⟨rfl, hb1⟩)
        go_ret
        exact ⟨rfl, hb1⟩
end Go.Proofs.YtakhnkkcllfbjaaDoorX
