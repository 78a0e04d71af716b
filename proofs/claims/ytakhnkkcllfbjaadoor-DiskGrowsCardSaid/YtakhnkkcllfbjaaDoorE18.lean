/- awake of unisonlaw04 answers true. -/
import Derived.Test.YtakhnkkcllfbjaaDoorE17
import Derived.Test.YtakhnkkcllfbjaaDoorPAx1
namespace Go.Proofs.YtakhnkkcllfbjaaDoorX
open Go.RowKit Go.Proofs.YtakhnkkcllfbjaaDoorW.PrintWords Go.Proofs.YtakhnkkcllfbjaaDoorW.PrintLast Go.Proofs.YtakhnkkcllfbjaaDoorW.PrintMore
open Go.Proofs.YtakhnkkcllfbjaaDoor.PA (S37 k37 z37 k37_mkM eqA37 k37_open)
attribute [local go_sem high] eqA37
set_option linter.unusedVariables false
set_option linter.unusedSimpArgs false
def aw (data : ByteArray) (safe steps armed : Int) : AD := ⟨10, armed, false, steps, [⟨[97], data, safe⟩]⟩
theorem aw1 : (AD.fresh 10 []).append [97] ⟨#[120, 121, 122]⟩ = (aw ⟨#[120, 121, 122]⟩ 0 1 (-1), 0) := by kernel_rfl
theorem aw2 : (aw ⟨#[120, 121, 122]⟩ 0 1 (-1)).sync [97] = (aw ⟨#[120, 121, 122]⟩ 3 2 (-1), 0) := by kernel_rfl
theorem aw3 : (aw ⟨#[120, 121, 122]⟩ 3 2 (-1)).append [97] ⟨#[49, 50, 51]⟩ = (aw ⟨#[120, 121, 122, 49, 50, 51]⟩ 3 3 (-1), 0) := by kernel_rfl
theorem aw4 : (aw ⟨#[120, 121, 122, 49, 50, 51]⟩ 3 3 (-1)).crash [2] = aw ⟨#[120, 121, 122, 49, 50]⟩ 5 3 (-1) := by kernel_rfl
theorem aw5 : (aw ⟨#[120, 121, 122, 49, 50]⟩ 5 3 (-1)).sync [98] = (aw ⟨#[120, 121, 122, 49, 50]⟩ 5 3 (-1), 41) := by kernel_rfl
theorem one_keeps {S : List Nat} {w : World} (hS : ∀ k ∈ S, k < w.heap.size) (k0 : Int) : Keeps S (w.alloc (.cells #[.int .i64 k0] 3)) (some ⟨w.heap.size, 0, none⟩) [k0] := fun w' hw' => by
  have hb := hw'.blk (blk_new w (.cells #[.int .i64 k0] 3)) (fun hk => by have := hS _ hk; omega)
  refine ⟨rfl, (by show 1 ≤ _; omega), fun _ => ⟨_, rfl, fun j p hj => ?_⟩⟩
  have hj0 : j = 0 := by
    have := (List.getElem?_eq_some_iff.1 hj).1
    simp at this
    exact this
  subst hj0
  simp at hj
  subst hj
  refine ⟨[.int .i64 k0], rfl, rfl, fun i u hi => ?_⟩
  have hi0 : i = 0 := by
    have := (List.getElem?_eq_some_iff.1 hi).1
    simp at this
    exact this
  subst hi0
  simp at hi
  subst hi
  show w'.cell? ((⟨w.heap.size, 0, none⟩ : Addr).add 0) = _
  rw [show (⟨w.heap.size, 0, none⟩ : Addr).add 0 = ⟨w.heap.size, 0, none⟩ by simp [Addr.add], blk_cell hb]
  rfl
theorem one_file {w : World} {base : Nat} {ok : Nat → Prop} {v : Value} {x : S37} (h : Kd.R k37 37 w base ok v [x]) : ∃ g c cur, v = .slice (some ⟨g, 0, none⟩) 1 c ∧ base ≤ g ∧ w.heap[g]? = some (.cells cur 37 (0, 0)) ∧ cur[0]? = some (.string x.f0) ∧ cur[1]? = some (.string x.f1) ∧ cur[2]? = some (.int .i64 x.f2) := by
  obtain ⟨h0, inner, hown, hr⟩ := h
  have h1 := hr.2 0 x rfl
  have h2 := Go.Proofs.YtakhnkkcllfbjaaDoor.PA.k37_openM h1
  rcases hown.2 with ⟨_, h3⟩ | ⟨g, cap, cur, rfl, hb, hg, k1, k2, k3, k4⟩
  · cases h3
  · refine ⟨g, cap, cur, rfl, hb, hg, ?_⟩
    have e1 : cur.toList.take 3 = inner := k4
    have e2 : inner.take 3 = [.string x.f0, .string x.f1, .int .i64 x.f2] := by
      have h9 := h2
      rw [Nat.zero_mul, List.drop_zero] at h9
      exact h9
    rw [← e1, List.take_take] at e2
    have get : ∀ j u, j < 3 → [Value.string x.f0, .string x.f1, .int .i64 x.f2][j]? = some u → cur[j]? = some u := fun j u hj hu => by
      rw [← e2, List.getElem?_take, if_pos (by omega), Array.getElem?_toList] at hu
      exact hu
    exact ⟨get 0 _ (by omega) rfl, get 1 _ (by omega) rfl, get 2 _ (by omega) rfl⟩
theorem awake_cells {w5 w6 w7 w8 : World} {S : List Nat} {g : Nat} {cur : Array Value} {x : S37} (h : w5.heap.size ≤ g ∧ w6.heap[g]? = some (.cells cur 37 (0, 0)) ∧ cur[0]? = some (.string x.f0) ∧ cur[1]? = some (.string x.f1) ∧ cur[2]? = some (.int .i64 x.f2)) (hb : Below w6.heap.size w6 w7) (hf : Fr S w7 w8) (hS : ∀ k ∈ S, k < w5.heap.size) :
    w8.cell? ⟨g, 0, none⟩ = some (.string x.f0) ∧ w8.cell? ⟨g, 1, none⟩ = some (.string x.f1) ∧ w8.cell? ⟨g, 2, none⟩ = some (.int .i64 x.f2) := by
  obtain ⟨h1, h2, h3, h4, h5⟩ := h
  have h6 := hf.blk (blk_below h2 hb) (fun hk => by have := hS g hk; omega)
  exact ⟨by rw [blk_cell h6, h3], by rw [blk_cell h6, h4], by rw [blk_cell h6, h5]⟩
theorem awake_calls (w : World) : Calls Tryd.prog 8 #[] w fun e w' => e = .returned (.bool true) ∧ Below w.heap.size w w' := by
  have c0 := M_new (B := w.heap.size) (w0 := w) (w := w) 10 (by decide) (by decide) (Below.refl _ _) (Nat.le_refl _)
  have c1 : ∀ {w1 a S}, Mine w.heap.size w w1 a S (AD.fresh 10 []) → Calls Tryd.prog 10 #[.pointer (some ⟨a, 0, none⟩), .string ⟨#[97]⟩, .string ⟨#[120, 121, 122]⟩] w1 fun e w' => e = .returned (.int .i64 0) ∧ ∃ S', Mine w.heap.size w w' a S' (aw ⟨#[120, 121, 122]⟩ 0 1 (-1)) ∧ Fr S w1 w' := fun h => by
    have := M_append h ⟨#[97]⟩ ⟨#[120, 121, 122]⟩ (by decide)
    rw [show (AD.fresh 10 []).append (⟨#[97]⟩ : ByteArray).data.toList ⟨#[120, 121, 122]⟩ = _ from aw1] at this
    exact this
  have c2 : ∀ {w1 a S}, Mine w.heap.size w w1 a S (aw ⟨#[120, 121, 122]⟩ 0 1 (-1)) → Calls Tryd.prog 11 #[.pointer (some ⟨a, 0, none⟩), .string ⟨#[97]⟩] w1 fun e w' => e = .returned (.int .i64 0) ∧ ∃ S', Mine w.heap.size w w' a S' (aw ⟨#[120, 121, 122]⟩ 3 2 (-1)) ∧ Fr S w1 w' := fun h => by
    have := M_sync h ⟨#[97]⟩ (by decide)
    rw [show (aw ⟨#[120, 121, 122]⟩ 0 1 (-1)).sync (⟨#[97]⟩ : ByteArray).data.toList = _ from aw2] at this
    exact this
  have c3 : ∀ {w1 a S}, Mine w.heap.size w w1 a S (aw ⟨#[120, 121, 122]⟩ 3 2 (-1)) → Calls Tryd.prog 10 #[.pointer (some ⟨a, 0, none⟩), .string ⟨#[97]⟩, .string ⟨#[49, 50, 51]⟩] w1 fun e w' => e = .returned (.int .i64 0) ∧ ∃ S', Mine w.heap.size w w' a S' (aw ⟨#[120, 121, 122, 49, 50, 51]⟩ 3 3 (-1)) ∧ Fr S w1 w' := fun h => by
    have := M_append h ⟨#[97]⟩ ⟨#[49, 50, 51]⟩ (by decide)
    rw [show (aw ⟨#[120, 121, 122]⟩ 3 2 (-1)).append (⟨#[97]⟩ : ByteArray).data.toList ⟨#[49, 50, 51]⟩ = _ from aw3] at this
    exact this
  have c4 : ∀ {w1 a S}, Mine w.heap.size w w1 a S (aw ⟨#[120, 121, 122, 49, 50, 51]⟩ 3 3 (-1)) → Calls Tryd.prog 17 #[.pointer (some ⟨a, 0, none⟩), .slice (some ⟨w1.heap.size, 0, none⟩) 1 1] (w1.alloc (.cells #[.int .i64 2] 3)) fun e w' => e = .returned (.tuple #[]) ∧ ∃ S', Mine w.heap.size w w' a S' (aw ⟨#[120, 121, 122, 49, 50]⟩ 5 3 (-1)) ∧ Fr S (w1.alloc (.cells #[.int .i64 2] 3)) w' := fun h => by
    have := M_crash (h.on (below_alloc (Below.refl _ _) _)) _ 1 [2] (one_keeps h.lt 2) (by decide) (by decide)
    rw [aw4] at this
    exact this
  have c5 : ∀ {w1 a S}, Mine w.heap.size w w1 a S (aw ⟨#[120, 121, 122, 49, 50]⟩ 5 3 (-1)) → Calls Tryd.prog 11 #[.pointer (some ⟨a, 0, none⟩), .string ⟨#[98]⟩] w1 fun e w' => e = .returned (.int .i64 41) ∧ ∃ S', Mine w.heap.size w w' a S' (aw ⟨#[120, 121, 122, 49, 50]⟩ 5 3 (-1)) ∧ Fr S w1 w' := fun h => by
    have := M_sync h ⟨#[98]⟩ (by decide)
    rw [show (aw ⟨#[120, 121, 122, 49, 50]⟩ 5 3 (-1)).sync (⟨#[98]⟩ : ByteArray).data.toList = _ from aw5] at this
    exact this
  have C1 := Aside0.mk @c1
  have C2 := Aside0.mk @c2
  have C3 := Aside0.mk @c3
  have C4 := Aside0.mk @c4
  have C5 := Aside0.mk @c5
  clear c1 c2 c3 c4 c5
  go_enter Tryd.func8, Tryd.ntmps8
  go_upto_region 10 with (first
    | (go_at_call 9; refine c0.mono ?_; rintro e w1 ⟨a, S1, rfl, hm, -⟩; have M1 := Aside0.mk hm; clear hm)
    | (go_at_call 10; refine (C1.out M1.out).mono ?_; rintro e w2 ⟨rfl, S2, hm, -⟩; have M2 := Aside0.mk hm; clear hm M1)
    | (go_at_call 11; refine (C2.out M2.out).mono ?_; rintro e w3 ⟨rfl, S3, hm, -⟩; have M3 := Aside0.mk hm; clear hm M2)
    | (go_at_call 10; refine (C3.out M3.out).mono ?_; rintro e w4 ⟨rfl, S4, hm, -⟩; have M4 := Aside0.mk hm; clear hm M3)
    | (go_at_call 17; refine (C4.out M4.out).mono ?_; rintro e w5 ⟨rfl, S5, hm, -⟩; have M5 := Aside0.mk hm; clear hm M4; have L5 := Aside0.mk M5.out.lt; have c13 := M_files M5.out)
    | (go_at_call 13; refine c13.mono ?_; rintro e w6 ⟨v, rfl, hr, hm, -⟩; have M6 := Aside0.mk hm; have R6 := Aside0.mk hr; clear hm hr M5; have c24 := M_steps M6.out)
    | (go_at_call 24; refine c24.mono ?_; rintro e w7 ⟨rfl, hm, hb⟩; have M7 := Aside0.mk hm; have B7 := Aside0.mk hb; clear hm hb))
  obtain ⟨g, c, cur, rfl, hg, hb6, k0, k1, k2⟩ := one_file R6.out
  have K := Aside0.mk (And.intro hg (And.intro hb6 (And.intro k0 (And.intro k1 k2))))
  clear hg hb6 k0 k1 k2
  have st : (aw ⟨#[120, 121, 122, 49, 50]⟩ 5 3 (-1)).steps = 3 := rfl
  go_wp2_with (go_at_call 11; refine (C5.out M7.out).mono ?_; rintro e w8 ⟨rfl, S8, hm, hf8⟩; obtain ⟨q0, q1, q2⟩ := awake_cells K.out B7.out hf8 L5.out; replace q0 : w8.cell? ⟨g, 0, none⟩ = some (.string ⟨#[97]⟩) := q0; replace q1 : w8.cell? ⟨g, 1, none⟩ = some (.string ⟨#[120, 121, 122, 49, 50]⟩) := q1; replace q2 : w8.cell? ⟨g, 2, none⟩ = some (.int .i64 5) := q2; have M8 := Aside0.mk hm; clear hm hf8)
  go_ret
  exact ⟨rfl, M8.out.below⟩
end Go.Proofs.YtakhnkkcllfbjaaDoorX
