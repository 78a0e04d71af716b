/- looks, of the law; no conditions beyond those in each theorem's head. -/
import Derived.Test.YtakhnkkcllfbjaaDoorR6
namespace Go.Proofs.YtakhnkkcllfbjaaDoorX
open Go.RowKit Go.Proofs.YtakhnkkcllfbjaaDoorW.PrintWords Go.Proofs.YtakhnkkcllfbjaaDoorW.PrintLast Go.Proofs.YtakhnkkcllfbjaaDoorW.PrintMore
open Go.Proofs.YtakhnkkcllfbjaaDoor.PA (S37 k37 z37 S51 k37_open k37_openM k37_mk k37_mkM)
set_option linter.unusedVariables false
set_option linter.unusedSimpArgs false
theorem Row37.raise {w : World} {B : Nat} {v : Value} {l : List S37} (h : Row37 w v l) (hB : ∀ k ∈ v.ownBlock.toList, B ≤ k) : Kd.R k37 37 w B (fun _ => True) v l := by
  obtain ⟨h0, inner, hown, hr⟩ := h
  refine ⟨fun _ _ => trivial, inner, ?_, hr.imp_ (fun p c hp => by rw [k37_openM hp]; exact k37_mkM _ _ _ p)⟩
  refine ⟨hown.1, ?_⟩
  rcases hown.2 with h2 | ⟨g, cap, cur, hv, hb, rest⟩
  · exact .inl h2
  · exact .inr ⟨g, cap, cur, hv, hB g (by rw [hv]; simp [Value.ownBlock]), rest⟩
theorem row_shape37 {w : World} {v : Value} {l : List S37} (h : Row37 w v l) : ∃ A c, v = .slice A l.length c := by
  obtain ⟨A, c, hv, _⟩ := h.reads
  exact ⟨A, c, hv⟩
set_option maxRecDepth 100000 in
set_option maxHeartbeats 8000000 in
theorem looks_calls {B : Nat} {w0 w : World} {a r : Nat} {S : List Nat} {v : Value} {D : AD} (h : Both B w0 w a S r v D D) :
    Calls Tryd.prog 26 #[.pointer (some ⟨a, 0, none⟩), .pointer (some ⟨r, 0, none⟩)] w fun e w' => e = .returned (.bool true) ∧ Below w.heap.size w w' := by
  have hu := Tryd.underlying37
  have H := Aside0.mk h
  have OK := Aside0.mk h.p.ok
  have cF := M_files2 h.p
  have cG : Aside0 (∀ w1, Below w.heap.size w w1 → Calls Tryd.prog 44 #[.pointer (some ⟨r, 0, none⟩)] w1 fun e w' => ∃ u, e = .returned u ∧ Row37 w' u (filesT D.L) ∧ (∀ k ∈ u.ownBlock.toList, w1.heap.size ≤ k) ∧ Below w1.heap.size w1 w') := ⟨fun w1 hb => rfiles_calls (h.q.1.below hb) h.p.ok.many⟩
  have hlen : (filesT D.L).length = D.L.length := by rw [filesT, List.length_map]
  have HLEN := Aside0.mk hlen
  clear h hlen
  go_enter Tryd.func26, Tryd.ntmps26
  go_upto_region 4 with (first
    | (go_at_call 13; refine cF.mono ?_; rintro e w1 ⟨v1, rfl, hr1, hn1, hm1, hb1⟩; have B1 := Aside0.mk hb1; have R1 := Aside0.mk hr1; have N1 := Aside0.mk hn1; clear hr1 hn1 hm1 hb1 cF)
    | (go_at_call 44; refine (cG.out _ B1.out).mono ?_; rintro e w2 ⟨v2, rfl, hr2, hn2, hb2⟩; have R12 := Aside0.mk (R1.out.below hb2); have cS := same37 R12.out hr2 (by rw [HLEN.out]; have := OK.out.many; omega); rw [decide_eq_true rfl] at cS; have B2 := Aside0.mk (B1.out.trans (hb2.mono B1.out.size)); clear hr2 hn2 hb2 cG B1 R1)
    | (go_at_call 22; refine cS.mono ?_; rintro e w3 ⟨rfl, hb3⟩; have R13 := Aside0.mk (R12.out.below hb3); have B3 := Aside0.mk (B2.out.trans (hb3.mono B2.out.size)); clear hb3 cS R12 B2))
  obtain ⟨A, c, hv1⟩ := row_shape37 R13.out
  rw [HLEN.out] at hv1
  subst hv1
  go_wp2
  go_loopg [8] D.L.length (fun kq v8 wr => ∃ (i : Nat) (l : List S37), v8 = .int .i64 i ∧ Aside0 (i + kq = D.L.length ∧ l.length = D.L.length) ∧ Aside0 (Row37 wr (.slice A D.L.length c) l) ∧ Aside0 (Below w.heap.size w wr))
  case atStart => exact ⟨0, filesT D.L, rfl, ⟨by omega, HLEN.out⟩, R13, B3⟩
  case round =>
    clear R13 B3
    obtain ⟨i, l, rfl, h1, h2, h3⟩ := hrel
    by_cases hi : i < D.L.length
    · have e1 : decide ((i : Int) < (D.L.length : Int)) = true := decide_eq_true (by omega)
      have e1' : decide (i < D.L.length) = true := decide_eq_true hi
      have e2 : (i : Int) < (D.L.length : Int) := by omega
      have e5 : IntKind.i64.wrap ((i : Int) + 1) = ((i + 1 : Nat) : Int) := by have := OK.out.many; rw [i64_w]; unfold wrap64; omega
      obtain ⟨x, hx⟩ : ∃ x, l[i]? = some x := ⟨_, List.getElem?_eq_getElem (by have := h1.out.2; omega)⟩
      obtain ⟨g, cc, hv, q0, q1, q2⟩ := h2.out.at hx
      rw [h1.out.2] at hv
      cases hv
      have z1 := Row37.frozen h2.out (by have := h1.out.2; omega) (i * 3 + 1)
      have P1 := Aside0.mk (Row37.put1 (l := l) (by rw [h1.out.2]; exact h2.out) hx 1 (by decide) (.string ⟨#[109, 97, 114, 107]⟩) ⟨x.f0, ⟨#[109, 97, 114, 107]⟩, x.f2⟩ rfl)
      have HI := Aside0.mk hi
      clear hx
      go_wp2
      go_roundg (D.L.length - (i + 1))
      case measure => have := HI.out; have := h1.out; omega
      case rel =>
        refine ⟨i + 1, l.set i ⟨x.f0, ⟨#[109, 97, 114, 107]⟩, x.f2⟩, by simp, ⟨by have := HI.out; have := h1.out; omega, by rw [List.length_set]; exact h1.out.2⟩, ⟨?_⟩, ⟨h3.out.setCell (p := ⟨g, i * 3 + 1, none⟩) (N1.out g (by simp [Value.ownBlock])) _⟩⟩
        have h9 := P1.out
        rw [h1.out.2] at h9
        exact h9
    · have e1 : decide ((i : Int) < (D.L.length : Int)) = false := decide_eq_false (by omega)
      have e1' : decide (i < D.L.length) = false := decide_eq_false hi
      have RR := Aside0.mk (Row37.raise (B := w.heap.size) h2.out N1.out)
      have aL : Aside0 ((l.length + 1) * 40 ≤ 140737488355328) := ⟨by have := h1.out.2; have := OK.out.many; omega⟩
      have cA : Aside0 (∀ W, Below w.heap.size w W → Calls Tryd.prog 12 #[.pointer (some ⟨a, 0, none⟩)] W fun e w' => e = .returned (.int .i64 D.free) ∧ Below W.heap.size W w') := ⟨fun W hW => (M_free (H.out.on hW).p).mono (fun e w' hh => ⟨hh.1, hh.2.2⟩)⟩
      have cB : Aside0 (∀ W, Below w.heap.size w W → Calls Tryd.prog 45 #[.pointer (some ⟨r, 0, none⟩)] W fun e w' => e = .returned (.int .i64 D.free) ∧ Below W.heap.size W w') := ⟨fun W hW => rfree_calls (H.out.on hW).q.1 OK.out⟩
      have cC : Aside0 (∀ W, Below w.heap.size w W → Calls Tryd.prog 24 #[.pointer (some ⟨a, 0, none⟩)] W fun e w' => e = .returned (.int .i64 D.steps) ∧ Below W.heap.size W w') := ⟨fun W hW => (M_steps (H.out.on hW).p).mono (fun e w' hh => ⟨hh.1, hh.2.2⟩)⟩
      have cD : Aside0 (∀ W, Below w.heap.size w W → Calls Tryd.prog 21 #[.pointer (some ⟨a, 0, none⟩)] W fun e w' => e = .returned (.bool D.down) ∧ Below W.heap.size W w') := ⟨fun W hW => (M_down (H.out.on hW).p).mono (fun e w' hh => ⟨hh.1, hh.2.2⟩)⟩
      clear hi
      go_upto_region 9 with (((with_reducible refine gate_dst (N := 33) rfl ?_); refine Kd.R_append k37 (w0 := w) w.heap.size rfl (.tmp 30) (.tmp 32) 32 37 _ 40 rfl Tryd.underlying32 info37r rfl (by decide) (by decide) _ l (⟨⟨#[109, 111, 114, 101]⟩, ⟨#[]⟩, 0⟩ : S37) [.string ⟨#[109, 111, 114, 101]⟩, .string ⟨#[]⟩, .int .i64 0] (fun _ => True) (fun _ => False) rfl rfl (k37_mkM _ _ _ (⟨⟨#[109, 111, 114, 101]⟩, ⟨#[]⟩, 0⟩ : S37)) (fun _ hk => hk.elim) (fun _ _ => trivial) RR.out h3.out h3.out.size aL.out ?_; intro v4 w4 hR4 hB4 hg4 hat4; have B4 := Aside0.mk hB4; clear hR4 hB4 hg4 hat4))
      go_upto_region 13 with (first
        | (go_at_call 12; refine (cA.out _ B4.out).mono ?_; rintro e w5 ⟨rfl, hb⟩; have B5 := Aside0.mk (B4.out.trans (hb.mono B4.out.size)); clear hb cA B4)
        | (go_at_call 45; refine (cB.out _ B5.out).mono ?_; rintro e w6 ⟨rfl, hb⟩; have B6 := Aside0.mk (B5.out.trans (hb.mono B5.out.size)); clear hb cB B5)
        | (go_at_call 24; refine (cC.out _ B6.out).mono ?_; rintro e w7 ⟨rfl, hb⟩; have B7 := Aside0.mk (B6.out.trans (hb.mono B6.out.size)); clear hb cC B6)
        | (go_at_call 21; refine (cD.out _ B7.out).mono ?_; rintro e w8 ⟨rfl, hb⟩; have B8 := Aside0.mk (B7.out.trans (hb.mono B7.out.size)); clear hb cD B7))
      obtain ⟨-, -, -, c3, c4⟩ := ref_cells (H.out.on B8.out).q.1.head
      have e8 : (D.free == D.free) = true := by simp
      have e9 : (D.steps == D.steps) = true := by simp
      have e10 : (D.down == D.down) = true := by simp
      go_wp2
      go_ret
      exact ⟨rfl, B8.out⟩
end Go.Proofs.YtakhnkkcllfbjaaDoorX
