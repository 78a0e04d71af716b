/- DiskPlays: the walk; no conditions beyond those in each theorem's head. -/
import Derived.Test.YtakhnkkcllfbjaaDoorS2
import Derived.Test.YtakhnkkcllfbjaaDoorG3
namespace Go.Proofs.YtakhnkkcllfbjaaDoorX
open Go.RowKit Go.Proofs.YtakhnkkcllfbjaaDoorW.PrintWords Go.Proofs.YtakhnkkcllfbjaaDoorW.PrintLast Go.Proofs.YtakhnkkcllfbjaaDoorW.PrintMore
open Go.Proofs.YtakhnkkcllfbjaaDoor.PA (S37 k37 z37 S51 k51 z51 k37_open k37_openM k37_mk k37_mkM eqA37 unisonlaw04_weighs.calls unisonlaw04_weighs.f unisonlaw04_same.calls)
attribute [local go_sem high] eqA37
set_option linter.unusedVariables false
set_option linter.unusedSimpArgs false
/-- What was handed in, and beyond it a mark. -/
def m37 : S37 := ⟨⟨#[109, 97, 114, 107]⟩, ⟨#[]⟩, 0⟩
theorem cpy_own (l : List S37) : cpy (List.replicate (l.length + 2) z37) l = l ++ [z37, z37] := by
  unfold cpy
  rw [List.length_replicate, List.take_of_length_le (by omega), List.drop_replicate, show l.length + 2 - l.length = 2 by omega]
  rfl
theorem set_own (l : List S37) : (l ++ [z37, z37]).set l.length m37 = l ++ [m37, z37] := by
  rw [List.set_append_right _ _ (Nat.le_refl _), Nat.sub_self]
  rfl
theorem get_own (l : List S37) (x y : S37) : (l ++ [x, y])[l.length]? = some x := by
  rw [List.getElem?_append_right (Nat.le_refl _), Nat.sub_self]
  rfl
theorem same37C {w : World} {A0 A1 : Option Addr} {c0 c1 : Nat} {l : List S37} (h0 : Kd.C k37 w A0 l.length l) (hc0 : l.length ≤ c0) (h1 : Kd.C k37 w A1 l.length l) (hc1 : l.length ≤ c1) (hb : l.length ≤ 140737488351232) :
    Calls Tryd.prog 22 #[.slice A0 l.length c0, .slice A1 l.length c1] w fun e w' => e = .returned (.bool true) ∧ Below w.heap.size w w' := by
  obtain ⟨k, hk⟩ := same_some l l hb
  rw [decide_eq_true rfl] at hk
  exact (unisonlaw04_same.calls k A0 c0 l A1 c1 l _ w h0 hc0 h1 hc1 hk).mono (fun e w' hh => ⟨hh.1, by first | exact hh.2 | (obtain ⟨n, rfl⟩ := hh.2; exact pw_below_drewN (Below.refl _ _) n)⟩)
/-- The list of one's own, with its mark. -/
def OwnAt (w W : World) (g c n : Nat) (l : List S37) : Prop := Row37 W (.slice (some ⟨g, 0, none⟩) (n + 2) c) (l ++ [m37, z37]) ∧ n + 2 ≤ c ∧ w.heap.size ≤ g ∧ l.length = n
theorem OwnAt.on {w W W' : World} {g c n : Nat} {l : List S37} (h : OwnAt w W g c n l) (hb : Below W.heap.size W W') : OwnAt w W' g c n l := ⟨h.1.below hb, h.2⟩
theorem OwnAt.C {w W : World} {g c n : Nat} {l : List S37} (h : OwnAt w W g c n l) : Kd.C k37 W (some ⟨g, 0, none⟩) l.length l := by
  have h9 := Kd.R_take (m := l.length) h.1 (by simp)
  rw [List.take_left] at h9
  exact (Kd.R_reads' h9).2.2
theorem OwnAt.mark {w W : World} {g c n : Nat} {l : List S37} (h : OwnAt w W g c n l) : W.cell? ⟨g, n * 3, none⟩ = some (.string ⟨#[109, 97, 114, 107]⟩) ∧ W.cell? ⟨g, n * 3 + 1, none⟩ = some (.string ⟨#[]⟩) ∧ W.cell? ⟨g, n * 3 + 2, none⟩ = some (.int .i64 0) := by
  obtain ⟨h1, h2, h3, h4⟩ := h
  have hl : (l ++ [m37, z37]).length = n + 2 := by rw [List.length_append, h4]; rfl
  rw [← hl] at h1
  obtain ⟨g', c', hv, q0, q1, q2⟩ := h1.at (i := n) (x := m37) (by rw [← h4]; exact get_own l m37 z37)
  cases hv
  exact ⟨q0, q1, q2⟩
theorem Mine.new {w0 w : World} {a : Nat} {S : List Nat} {D : AD} (h : Mine w0.heap.size w0 w a S D) : ∀ k ∈ S, ¬ k < w0.heap.size := by
  obtain ⟨m, lay, q1, rfl, q3, q4, q5⟩ := h
  exact fun k hk => Nat.not_lt.2 (q5 k hk)
set_option maxRecDepth 100000 in
set_option maxHeartbeats 8000000 in
theorem Plays_calls (size : Int) (A0 : Option Addr) (c0 : Nat) (l0 : List S37) (A1 : Option Addr) (c1 : Nat) (l1 : List S51) (w : World) (hwf : (Lit.int .i64 size).wf = true)
    (hr0 : Kd.C k37 w A0 l0.length l0) (hc0 : l0.length ≤ c0) (hf0 : ∀ y ∈ l0, Fine37 y) (hy0 : l0.length * 40 ≤ 140737488351232)
    (hr1 : Kd.C k51 w A1 l1.length l1) (hc1 : l1.length ≤ c1) (hf1 : ∀ y ∈ l1, Fine51 y) (hy1 : l1.length * 88 ≤ 140737488351232) :
    Calls Tryd.prog 7 #[.int .i64 size, .slice A0 l0.length c0, .slice A1 l1.length c1] w fun e w' => e = .returned (.bool true) ∧ Below w.heap.size w w' := by
  obtain ⟨k, r, hk, hr⟩ := weighs_some l0 l1 (by omega) (by omega)
  have cW : Calls Tryd.prog 18 #[.slice A0 l0.length c0, .slice A1 l1.length c1] w fun e w' => e = .returned (.int .i64 r) ∧ Below w.heap.size w w' := unisonlaw04_weighs.calls k A0 c0 l0 A1 c1 l1 r w hr0 hc0 hr1 hc1 hk
  have R0 := Aside0.mk hr0
  have HC0 := Aside0.mk hc0
  have R1 := Aside0.mk hr1
  have F0 := Aside0.mk hf0
  have F1 := Aside0.mk hf1
  have HL : Aside0 (l0.length * 40 ≤ 140737488351232 ∧ l1.length ≤ 140737488351232) := ⟨by omega, by omega⟩
  have hu := Tryd.underlying51
  have hu37 := Tryd.underlying37
  clear hr0 hc0 hf0 hy0 hr1 hc1 hf1 hy1 hk hwf
  by_cases hbig : r > 2147483647
  · have e0 : decide ((2147483647 : Int) < r) = true := decide_eq_true hbig
    clear hbig hr
    go_enter Tryd.func7, Tryd.ntmps7
    go_wp2_with (go_at_call 18; refine cW.mono ?_; rintro e w1 ⟨rfl, hb1⟩; have B1 := Aside0.mk hb1; clear hb1)
    go_ret
    exact ⟨rfl, B1.out⟩
  have e0 : decide ((2147483647 : Int) < r) = false := decide_eq_false hbig
  obtain ⟨-, -, hr51⟩ := hr (by show r ≤ 2147483647; omega)
  have F5 : Aside0 (∀ y ∈ l1, y.f5.length ≤ 2147483647) := ⟨fun y hy => by
    obtain ⟨j, hj⟩ := List.mem_iff_getElem?.1 hy
    have h9 := (hr51 j y hj).2.2.2
    have h8 : (y.f5.length : Int) ≤ 2147483647 := h9
    omega⟩
  have hsz : ∀ x ∈ l0, x.f0.size ≤ maxLen ∧ x.f1.size ≤ maxLen := fun x hx => ⟨(F0.out x hx).2.1, (F0.out x hx).2.2⟩
  have cN : Aside0 (∀ w2 (A : Option Addr) (c : Nat), Below w.heap.size w w2 → Kd.C k37 w2 A l0.length l0 → Calls Tryd.prog 9 #[.int .i64 size, .slice A l0.length c] w2 fun e w' => (newE size l0 ≠ 0 ∧ e = .returned (.tuple #[.pointer none, .int .i64 (newE size l0)]) ∧ Below w2.heap.size w2 w') ∨
      (newE size l0 = 0 ∧ ∃ a S, e = .returned (.tuple #[.pointer (some ⟨a, 0, none⟩), .int .i64 0]) ∧ Mine w2.heap.size w2 w' a S (newD size l0) ∧ Below w2.heap.size w2 w')) :=
    ⟨fun w2 A c h2 hC => M_newL size A c l0 (Below.refl _ _) (Nat.le_refl _) hC hsz (by have := HL.out; omega)⟩
  have cR : Aside0 (∀ w3, Below w.heap.size w w3 → Calls Tryd.prog 19 #[.int .i64 size, .slice A0 l0.length c0] w3 (RNewP size l0 w3)) :=
    ⟨fun w3 h3 => RNew_calls size A0 c0 l0 w3 (Kd.C_below R0.out h3) hsz (by have := HL.out; omega)⟩
  have cS : Aside0 (∀ W g c, Below w.heap.size w W → OwnAt w W g c l0.length l0 → Calls Tryd.prog 22 #[.slice (some ⟨g, 0, none⟩) l0.length c, .slice A0 l0.length c0] W fun e w' => e = .returned (.bool true) ∧ Below W.heap.size W w') :=
    ⟨fun W g c hW hO => same37C hO.C (by have := hO.2.1; omega) (Kd.C_below R0.out hW) HC0.out (by have := HL.out; omega)⟩
  have hI37 : (Tryd.prog.info? 37).map (fun i => (i.zero, i.size, i.bytes)) = some (some (.agg #[.string ⟨#[]⟩, .string ⟨#[]⟩, .int .i64 0]), 3, 40) := info37r
  have e20 : IntKind.i64.wrap ((l0.length : Int) + 2) = (l0.length : Int) + 2 := by have := HL.out; rw [i64_w]; unfold wrap64; omega
  have e20' : (0 : Int) ≤ (l0.length : Int) + 2 := by omega
  have e21 : ((l0.length : Int) + 2).toNat * 40 ≤ 281474976710656 := by have := HL.out; omega
  have e22 : (l0.length : Int) < (l0.length : Int) + 2 := by omega
  have e22' : l0.length < l0.length + 2 := by omega
  have e23 : (l0.length : Int) ≤ (l0.length : Int) + 2 := by omega
  have e23' : l0.length ≤ l0.length + 2 := by omega
  have hZ : Aside0 (∀ W base, k37.M W base (fun _ => True) z37 [.string ⟨#[]⟩, .string ⟨#[]⟩, .int .i64 0]) := ⟨fun _ _ => k37_mkM _ _ _ z37⟩
  have hxn : ((l0.length : Int) + 2).toNat = l0.length + 2 := by omega
  have HXN := Aside0.mk hxn
  clear hbig hr hr51 hsz hxn
  by_cases hne : newE size l0 ≠ 0
  · have cN' : Aside0 (∀ w2 (A : Option Addr) (c : Nat), Below w.heap.size w w2 → Kd.C k37 w2 A l0.length l0 → Calls Tryd.prog 9 #[.int .i64 size, .slice A l0.length c] w2 fun e w' => e = .returned (.tuple #[.pointer none, .int .i64 (newE size l0)]) ∧ Below w2.heap.size w2 w') :=
      ⟨fun w2 A c h2 hC => (cN.out w2 A c h2 hC).mono (by
        rintro e w' (⟨_, h8, h7⟩ | ⟨h9, _⟩)
        · exact ⟨h8, h7⟩
        · exact absurd h9 hne)⟩
    have cR' : Aside0 (∀ w3, Below w.heap.size w w3 → Calls Tryd.prog 19 #[.int .i64 size, .slice A0 l0.length c0] w3 fun e w' => e = .returned (.tuple #[.pointer none, .int .i64 (newE size l0)]) ∧ Below w3.heap.size w3 w') :=
      ⟨fun w3 h3 => (cR.out w3 h3).mono (by
        rintro e w' (⟨_, h8, h7⟩ | ⟨h9, _⟩)
        · exact ⟨h8, h7⟩
        · exact absurd h9 hne)⟩
    have e3 : (newE size l0 != newE size l0) = false := by simp
    generalize newE size l0 = ge at cN' cR' e3
    clear cN cR hne
    have cN := cN'
    clear cN'
    go_enter Tryd.func7, Tryd.ntmps7
    go_upto_region 6 with (first
      | (go_at_call 18; refine cW.mono ?_; rintro e w1 ⟨rfl, hb1⟩; have B1 := Aside0.mk hb1; clear hb1 cW)
      | (go_at_call 8; refine (awake_calls _).mono ?_; rintro e w2 ⟨rfl, hb2⟩; have B2 := Aside0.mk (B1.out.trans (hb2.mono B1.out.size)); clear hb2 B1)
      | ((with_reducible refine gate_dst (N := 29) rfl ?_); refine Kd.R_make k37 (w0 := w2) w2.heap.size 37 rfl (N := 29) rfl 32 (.tmp 28) (.tmp 28) rfl ((l0.length : Int) + 2) rfl rfl Tryd.underlying32 (.agg #[.string ⟨#[]⟩, .string ⟨#[]⟩, .int .i64 0]) 40 hI37 (by decide) (by decide) (by decide) z37 (ok := fun _ => True) (okp := fun _ => True) (hZ.out _ _) (fun _ _ => trivial) trivial e20' e21 (Below.refl _ _) (Nat.le_refl _) ?_; intro vk w3 hR hB hg hat; have RK := Aside0.mk hR; have BK := Aside0.mk hB; clear hR hB hg hat))
    rw [HXN.out] at RK
    have HC3 : Aside0 (Kd.C k37 w3 A0 l0.length l0) := ⟨Kd.C_below R0.out (B2.out.trans (BK.out.mono B2.out.size))⟩
    have hKM : Aside0 (∀ (W : World) (ok' : Nat → Prop) (x : S37) (cs : List Value), k37.K w3 x cs → k37.M W w2.heap.size ok' x cs) := ⟨fun _ _ x _ h => by rw [k37_open h]; exact k37_mkM _ _ _ x⟩
    have hMM : Aside0 (∀ (W : World) (ok1 ok' : Nat → Prop) (x : S37) (cs : List Value), k37.M w3 w2.heap.size ok1 x cs → k37.M W w2.heap.size ok' x cs) := ⟨fun _ _ _ x _ h => by rw [k37_openM h]; exact k37_mkM _ _ _ x⟩
    go_upto_region 7 with ((with_reducible refine gate_dst (N := 32) rfl ?_); refine R_copy k37 (w0 := w2) w2.heap.size rfl (.tmp 30) (.tmp 31) 32 37 (.agg #[.string ⟨#[]⟩, .string ⟨#[]⟩, .int .i64 0]) 40 rfl Tryd.underlying32 hI37 (by decide) vk (List.replicate (l0.length + 2) z37) l0 A0 l0.length c0 (fun _ => True) rfl rfl RK.out HC3.out hKM.out hMM.out BK.out ?_; intro w4 hR hB hg; have RK4 := Aside0.mk hR; have BK4 := Aside0.mk hB; clear hR hB hg)
    rw [cpy_own] at RK4
    obtain ⟨g, c, hvk, hgk, -, -⟩ := Kd.R_form RK4.out (by simp)
    rw [List.length_append] at hvk
    subst hvk
    obtain ⟨-, hnk, -⟩ := Kd.R_reads' RK4.out
    have RL4 : Aside0 (Row37 w4 (.slice (some ⟨g, 0, none⟩) (l0 ++ [z37, z37]).length c) (l0 ++ [z37, z37])) := ⟨Kd.R_lower (by rw [List.length_append]; exact RK4.out) (Nat.zero_le _)⟩
    have z4 := Row37.frozen RL4.out (by simp) (l0.length * 3)
    obtain ⟨g', c', hv', y0, -, -⟩ := RL4.out.at (get_own l0 z37 z37)
    cases hv'
    have P4 := Aside0.mk (Row37.put1 RL4.out (get_own l0 z37 z37) 0 (by decide) (.string ⟨#[109, 97, 114, 107]⟩) m37 rfl)
    rw [set_own] at P4
    have BW4 : Aside0 (Below w.heap.size w w4) := ⟨B2.out.trans (BK4.out.mono B2.out.size)⟩
    have HGK : Aside0 (w2.heap.size ≤ g) := ⟨hgk⟩
    have HNK : Aside0 (l0.length + 2 ≤ c) := ⟨hnk⟩
    have e24 : l0.length ≤ c := by have := HNK.out; omega
    have e24' : (l0.length : Int) ≤ (c : Int) := by omega
    clear hgk hnk e20 e20' e21 hI37 hZ HC3 hKM hMM RK
    go_upto_region 8 with fail
    obtain ⟨W8, hW8⟩ : ∃ W8, w4.setCell ⟨g, l0.length * 3, none⟩ (.string ⟨#[109, 97, 114, 107]⟩) = W8 := ⟨_, rfl⟩
    have O8 : Aside0 (OwnAt w W8 g c l0.length l0) := ⟨by rw [← hW8]; exact ⟨by have h9 := P4.out; rw [List.length_append] at h9; exact h9, HNK.out, Nat.le_trans B2.out.size HGK.out, rfl⟩⟩
    have B8 : Aside0 (Below w.heap.size w W8) := ⟨by rw [← hW8]; exact BW4.out.setCell (p := ⟨g, l0.length * 3, none⟩) (Nat.le_trans B2.out.size HGK.out) _⟩
    have cN8 := cN.out W8 (some ⟨g, 0, none⟩) c B8.out O8.out.C
    rw [hW8]
    clear hW8 z4 y0 P4 RL4 RK4 BK4 BW4 cN
    go_upto_region 11 with (first
      | (go_at_call 9; refine cN8.mono ?_; rintro e w9 ⟨rfl, hb9⟩; have O9 := Aside0.mk (O8.out.on hb9); have B9 := Aside0.mk (B8.out.trans (hb9.mono B8.out.size)); clear hb9 cN8 O8 B8)
      | (go_at_call 19; refine (cR'.out _ B9.out).mono ?_; rintro e w10 ⟨rfl, hb10⟩; have O10 := Aside0.mk (O9.out.on hb10); have B10 := Aside0.mk (B9.out.trans (hb10.mono B9.out.size)); clear hb10 cR' O9 B9)
      | (go_at_call 22; refine (cS.out _ _ _ B10.out O10.out).mono ?_; rintro e w11 ⟨rfl, hb11⟩; have O11 := Aside0.mk (O10.out.on hb11); have B11 := Aside0.mk (B10.out.trans (hb11.mono B10.out.size)); clear hb11 cS O10 B10))
    obtain ⟨y0, y1, y2⟩ := O11.out.mark
    go_wp2
    go_ret
    exact ⟨rfl, B11.out⟩
  have hne2 : newE size l0 = 0 := Decidable.not_not.1 hne
  have cN' : Aside0 (∀ w2 (A : Option Addr) (c : Nat), Below w.heap.size w w2 → Kd.C k37 w2 A l0.length l0 → Calls Tryd.prog 9 #[.int .i64 size, .slice A l0.length c] w2 fun e w' => ∃ a S, e = .returned (.tuple #[.pointer (some ⟨a, 0, none⟩), .int .i64 0]) ∧ Mine w2.heap.size w2 w' a S (newD size l0) ∧ Below w2.heap.size w2 w') :=
    ⟨fun w2 A c h2 hC => (cN.out w2 A c h2 hC).mono (by
      rintro e w' (⟨h9, _⟩ | ⟨_, h8⟩)
      · exact absurd hne2 h9
      · exact h8)⟩
  have cR' : Aside0 (∀ w3, Below w.heap.size w w3 → Calls Tryd.prog 19 #[.int .i64 size, .slice A0 l0.length c0] w3 fun e w' => ∃ r v, e = .returned (.tuple #[.pointer (some ⟨r, 0, none⟩), .int .i64 0]) ∧ MineR w3.heap.size w3 w' r v (newD size l0)) :=
    ⟨fun w3 h3 => (cR.out w3 h3).mono (by
      rintro e w' (⟨h9, _⟩ | ⟨_, h8⟩)
      · exact absurd hne2 h9
      · exact h8)⟩
  clear cN cR hne hne2
  have cN := cN'
  clear cN'
  go_enter Tryd.func7, Tryd.ntmps7
  go_upto_region 6 with (first
    | (go_at_call 18; refine cW.mono ?_; rintro e w1 ⟨rfl, hb1⟩; have B1 := Aside0.mk hb1; clear hb1 cW)
    | (go_at_call 8; refine (awake_calls _).mono ?_; rintro e w2 ⟨rfl, hb2⟩; have B2 := Aside0.mk (B1.out.trans (hb2.mono B1.out.size)); clear hb2 B1)
    | ((with_reducible refine gate_dst (N := 29) rfl ?_); refine Kd.R_make k37 (w0 := w2) w2.heap.size 37 rfl (N := 29) rfl 32 (.tmp 28) (.tmp 28) rfl ((l0.length : Int) + 2) rfl rfl Tryd.underlying32 (.agg #[.string ⟨#[]⟩, .string ⟨#[]⟩, .int .i64 0]) 40 hI37 (by decide) (by decide) (by decide) z37 (ok := fun _ => True) (okp := fun _ => True) (hZ.out _ _) (fun _ _ => trivial) trivial e20' e21 (Below.refl _ _) (Nat.le_refl _) ?_; intro vk w3 hR hB hg hat; have RK := Aside0.mk hR; have BK := Aside0.mk hB; clear hR hB hg hat))
  rw [HXN.out] at RK
  have HC3 : Aside0 (Kd.C k37 w3 A0 l0.length l0) := ⟨Kd.C_below R0.out (B2.out.trans (BK.out.mono B2.out.size))⟩
  have hKM : Aside0 (∀ (W : World) (ok' : Nat → Prop) (x : S37) (cs : List Value), k37.K w3 x cs → k37.M W w2.heap.size ok' x cs) := ⟨fun _ _ x _ h => by rw [k37_open h]; exact k37_mkM _ _ _ x⟩
  have hMM : Aside0 (∀ (W : World) (ok1 ok' : Nat → Prop) (x : S37) (cs : List Value), k37.M w3 w2.heap.size ok1 x cs → k37.M W w2.heap.size ok' x cs) := ⟨fun _ _ _ x _ h => by rw [k37_openM h]; exact k37_mkM _ _ _ x⟩
  go_upto_region 7 with ((with_reducible refine gate_dst (N := 32) rfl ?_); refine R_copy k37 (w0 := w2) w2.heap.size rfl (.tmp 30) (.tmp 31) 32 37 (.agg #[.string ⟨#[]⟩, .string ⟨#[]⟩, .int .i64 0]) 40 rfl Tryd.underlying32 hI37 (by decide) vk (List.replicate (l0.length + 2) z37) l0 A0 l0.length c0 (fun _ => True) rfl rfl RK.out HC3.out hKM.out hMM.out BK.out ?_; intro w4 hR hB hg; have RK4 := Aside0.mk hR; have BK4 := Aside0.mk hB; clear hR hB hg)
  rw [cpy_own] at RK4
  obtain ⟨g, c, hvk, hgk, -, -⟩ := Kd.R_form RK4.out (by simp)
  rw [List.length_append] at hvk
  subst hvk
  obtain ⟨-, hnk, -⟩ := Kd.R_reads' RK4.out
  have RL4 : Aside0 (Row37 w4 (.slice (some ⟨g, 0, none⟩) (l0 ++ [z37, z37]).length c) (l0 ++ [z37, z37])) := ⟨Kd.R_lower (by rw [List.length_append]; exact RK4.out) (Nat.zero_le _)⟩
  have z4 := Row37.frozen RL4.out (by simp) (l0.length * 3)
  obtain ⟨g', c', hv', y0, -, -⟩ := RL4.out.at (get_own l0 z37 z37)
  cases hv'
  have P4 := Aside0.mk (Row37.put1 RL4.out (get_own l0 z37 z37) 0 (by decide) (.string ⟨#[109, 97, 114, 107]⟩) m37 rfl)
  rw [set_own] at P4
  have BW4 : Aside0 (Below w.heap.size w w4) := ⟨B2.out.trans (BK4.out.mono B2.out.size)⟩
  have HGK : Aside0 (w2.heap.size ≤ g) := ⟨hgk⟩
  have HNK : Aside0 (l0.length + 2 ≤ c) := ⟨hnk⟩
  have e24 : l0.length ≤ c := by have := HNK.out; omega
  have e24' : (l0.length : Int) ≤ (c : Int) := by omega
  clear hgk hnk e20 e20' e21 hI37 hZ HC3 hKM hMM RK
  go_upto_region 8 with fail
  obtain ⟨W8, hW8⟩ : ∃ W8, w4.setCell ⟨g, l0.length * 3, none⟩ (.string ⟨#[109, 97, 114, 107]⟩) = W8 := ⟨_, rfl⟩
  have O8 : Aside0 (OwnAt w W8 g c l0.length l0) := ⟨by rw [← hW8]; exact ⟨by have h9 := P4.out; rw [List.length_append] at h9; exact h9, HNK.out, Nat.le_trans B2.out.size HGK.out, rfl⟩⟩
  have B8 : Aside0 (Below w.heap.size w W8) := ⟨by rw [← hW8]; exact BW4.out.setCell (p := ⟨g, l0.length * 3, none⟩) (Nat.le_trans B2.out.size HGK.out) _⟩
  have cN8 := cN.out W8 (some ⟨g, 0, none⟩) c B8.out O8.out.C
  rw [hW8]
  clear hW8 z4 y0 P4 RL4 RK4 BK4 BW4 cN
  have hgW8 : g < W8.heap.size := O8.out.1.lt g (by simp [Value.ownBlock])
  have GW8 := Aside0.mk hgW8
  clear hgW8
  go_upto_region 11 with (first
    | (go_at_call 9; refine cN8.mono ?_; rintro e w9 ⟨a, S, rfl, hm9, hb9⟩; have M9 := Aside0.mk (And.intro (hm9.low B8.out B8.out.size) (fun h8 : g ∈ S => hm9.new g h8 GW8.out)); have O9 := Aside0.mk (O8.out.on hb9); have B9 := Aside0.mk (B8.out.trans (hb9.mono B8.out.size)); clear hm9 hb9 cN8 O8)
    | (go_at_call 19; refine (cR'.out _ B9.out).mono ?_; rintro e w10 ⟨r9, v9, rfl, hm10⟩; have M10 : Aside0 (Both w.heap.size w w10 a S r9 v9 (newD size l0) (newD size l0) ∧ g ∉ S ∧ g ∉ r9 :: v9.ownBlock.toList) := ⟨⟨M9.out.1.on hm10.2.1, hm10.low B9.out B9.out.size, fun k hk hx => by have h7 := M9.out.1.lt k hk; have h6 := hm10.2.2.2 k hx; omega⟩, M9.out.2, fun hx => by have h6 := hm10.2.2.2 g hx; have h5 := O9.out.1.lt g (by simp [Value.ownBlock]); omega⟩; have O10 := Aside0.mk (O9.out.on hm10.2.1); have B10 := Aside0.mk (B9.out.trans (hm10.2.1.mono B9.out.size)); clear hm10 cR' O9 B9 M9)
    | (go_at_call 22; refine (cS.out _ _ _ B10.out O10.out).mono ?_; rintro e w11 ⟨rfl, hb11⟩; have O11 := Aside0.mk (O10.out.on hb11); have M11 := Aside0.mk (And.intro (M10.out.1.on hb11) M10.out.2); clear hb11 cS O10 B10 M10))
  obtain ⟨y0, y1, y2⟩ := O11.out.mark
  go_wp2
  go_loopg [15] l0.length (fun kq v15 wr => ∃ (i : Nat) (l : List S37), v15 = .int .i64 i ∧ Aside0 (i + kq = l0.length ∧ l.length = l0.length + 2) ∧ Aside0 (Row37 wr (.slice (some ⟨g, 0, none⟩) (l0.length + 2) c) l) ∧ Aside0 (Both w.heap.size w wr a S r9 v9 (newD size l0) (newD size l0)))
  case atStart => exact ⟨0, l0 ++ [m37, z37], rfl, ⟨by omega, by rw [List.length_append]; rfl⟩, ⟨O11.out.1⟩, ⟨M11.out.1⟩⟩
  case round =>
    have G11 := Aside0.mk M11.out.2
    have GB := Aside0.mk O11.out.2.2.1
    clear y0 y1 y2 O11 M11
    obtain ⟨i, l, rfl, h1, h2, h3⟩ := hrel
    by_cases hi : i < l0.length
    · have e1 : decide ((i : Int) < (l0.length : Int)) = true := decide_eq_true (by omega)
      have e1' : decide (i < l0.length) = true := decide_eq_true hi
      have e2 : (i : Int) < (l0.length : Int) + 2 := by omega
      have e2' : i < l0.length + 2 := by omega
      have e5 : IntKind.i64.wrap ((i : Int) + 1) = ((i + 1 : Nat) : Int) := by have := HL.out; rw [i64_w]; unfold wrap64; omega
      obtain ⟨x, hx⟩ : ∃ x, l[i]? = some x := ⟨_, List.getElem?_eq_getElem (by have := h1.out.2; omega)⟩
      have hrow : Row37 wr (.slice (some ⟨g, 0, none⟩) l.length c) l := by rw [h1.out.2]; exact h2.out
      obtain ⟨g', c', hv, q0, q1, q2⟩ := hrow.at hx
      cases hv
      have z0 := Row37.frozen hrow (by have := h1.out.2; omega) (i * 3)
      have z1 := Row37.frozen hrow (by have := h1.out.2; omega) (i * 3 + 1)
      have z2 := Row37.frozen hrow (by have := h1.out.2; omega) (i * 3 + 2)
      have P1 := Aside0.mk (Row37.put hrow (i := i) (by have := h1.out.2; omega) z37)
      have HI := Aside0.mk hi
      clear hx hrow hi
      go_wp2
      go_roundg (l0.length - (i + 1))
      case measure => have := HI.out; have := h1.out; omega
      case rel =>
        refine ⟨i + 1, l.set i z37, by simp, ⟨by have := HI.out; have := h1.out; omega, by rw [List.length_set]; exact h1.out.2⟩, ⟨?_⟩, ⟨?_⟩⟩
        · have h9 := P1.out
          rw [h1.out.2] at h9
          exact h9
        · exact h3.out.fr (T := [g]) (put_fr (Fr.refl _ _) (.inl (by simp))) (fun k hk => by simp only [List.mem_singleton] at hk; rw [hk]; exact GB.out) (fun k hk hx => by simp only [List.mem_singleton] at hx; exact G11.out.1 (hx ▸ hk)) (fun k hk hx => by simp only [List.mem_singleton] at hx; exact G11.out.2 (hx ▸ hk))
    · have e1 : decide ((i : Int) < (l0.length : Int)) = false := decide_eq_false (by omega)
      have e1' : decide (i < l0.length) = false := decide_eq_false hi
      have M12 := h3
      clear hi h1 h2 h3
      go_wp2
      go_loopg [16] l1.length (fun kq v16 wr => ∃ (j : Nat) (D : AD) (S5 : List Nat) (v5 : Value), v16 = .int .i64 j ∧ Aside0 (j + kq = l1.length) ∧ Aside0 (Both w.heap.size w wr a S5 r9 v5 D D))
      case atStart => exact ⟨0, _, S, v9, rfl, ⟨by omega⟩, M12⟩
      case round =>
        clear M12 G11
        obtain ⟨j, D, S5, v5, rfl, h1, h3⟩ := hrel
        by_cases hj : j < l1.length
        · have e3 : decide ((j : Int) < (l1.length : Int)) = true := decide_eq_true (by omega)
          have e3' : decide (j < l1.length) = true := decide_eq_true hj
          have e3'' : (j : Int) < (l1.length : Int) := by omega
          have e5 : IntKind.i64.wrap ((j : Int) + 1) = ((j + 1 : Nat) : Int) := by have := HL.out; rw [i64_w]; unfold wrap64; omega
          obtain ⟨x, hx0⟩ : ∃ x, l1[j]? = some x := ⟨_, List.getElem?_eq_getElem hj⟩
          have hfx := F1.out x (List.mem_of_getElem? hx0)
          have hf5 := F5.out x (List.mem_of_getElem? hx0)
          obtain ⟨ad, A5, c5, rfl, q0, q1, q2, q3, q4, q5, hO1, hO2⟩ := op_at R1.out hx0
          have hW := h3.out.below
          replace q0 := (hW.cell (World.block_lt_of_cell? w _ q0)).trans q0
          replace q1 := (hW.cell (World.block_lt_of_cell? w _ q1)).trans q1
          replace q2 := (hW.cell (World.block_lt_of_cell? w _ q2)).trans q2
          replace q3 := (hW.cell (World.block_lt_of_cell? w _ q3)).trans q3
          replace q4 := (hW.cell (World.block_lt_of_cell? w _ q4)).trans q4
          replace q5 := (hW.cell (World.block_lt_of_cell? w _ q5)).trans q5
          have HJ := Aside0.mk hj
          have cL := plays_calls h3.out x A5 c5 (by first | exact hO1 | exact hO2) (by first | exact hO1 | exact hO2) hfx.2.2.1 hfx.2.2.2.1 (by have h9 := hfx.2.1; simp [Lit.wf] at h9; omega) hf5
          clear hx0 hfx hW hf5 hO1 hO2
          go_wp2_with (go_at_call 25; refine cL.mono ?_; rintro e w6 ⟨rfl, S6, v6, hm⟩; have M6 := Aside0.mk hm; clear hm cL)
          go_roundg (l1.length - (j + 1))
          case measure => have := HJ.out; have := h1.out; omega
          case rel => exact ⟨j + 1, _, S6, v6, by simp, ⟨by have := HJ.out; have := h1.out; omega⟩, M6⟩
        · have e3 : decide ((j : Int) < (l1.length : Int)) = false := decide_eq_false (by omega)
          have e3' : decide (j < l1.length) = false := decide_eq_false hj
          have cL : Aside0 (∀ W, Both w.heap.size w W a S5 r9 v5 D D → Calls Tryd.prog 26 #[.pointer (some ⟨a, 0, none⟩), .pointer (some ⟨r9, 0, none⟩)] W fun e w' => e = .returned (.bool true) ∧ Both w.heap.size w w' a S5 r9 v5 D D) := ⟨fun W hW => (looks_calls hW).mono (fun e w' hh => ⟨hh.1, hW.on hh.2⟩)⟩
          clear hj
          go_upto_region 26 with (go_at_call 26; refine (cL.out _ h3.out).mono ?_; rintro e w6 ⟨rfl, hm⟩; have M6 := Aside0.mk hm; clear hm)
          go_wp2_with (go_at_call 26; refine (cL.out _ M6.out).mono ?_; rintro e w7 ⟨rfl, hm⟩; have M7 := Aside0.mk hm; clear hm cL)
          go_ret
          exact ⟨rfl, M7.out.below⟩
end Go.Proofs.YtakhnkkcllfbjaaDoorX
