/- Rename of a disk: what the call answers and does. -/
import Derived.Test.YtakhnkkcllfbjaaDoorE10
namespace Go.Proofs.YtakhnkkcllfbjaaDoorX
open Go.RowKit Go.Proofs.YtakhnkkcllfbjaaDoorW.PrintWords Go.Proofs.YtakhnkkcllfbjaaDoorW.PrintLast Go.Proofs.YtakhnkkcllfbjaaDoorW.PrintMore
set_option linter.unusedVariables false
set_option linter.unusedSimpArgs false
theorem rename_done {w2 w5 : World} {a m : Nat} {lay : Lay} {D : AD} {x y : Nm} {f : AF} (h2 : DK w2 a m lay D.tick) (hf : findL x D.L = some f) (hxy : x ≠ y) (hok : ({ D.tick with L := D.renL x y } : AD).Ok)
    (hfr : Fr [a, m] w2 w5) (hb : w5.heap[a]? = some (.cells (headD m { D.tick with L := D.renL x y }) 64 (0, 0)))
    (hmp : MapP Tryd.prog 9 w5 m (D.renL x y).length (fun z => if z = y then some (some (lay x).1) else if z = x then none else mapL lay D.L z)) :
    Did w2 w5 a m lay D { D.tick with L := D.renL x y } := by
  obtain ⟨hn, hm⟩ := findL_name hf
  have hL : D.renL x y = insL { f with name := y } (delL x (delL y D.L)) := by unfold AD.renL; rw [if_neg hxy, hf]
  have hmem : ∀ q ∈ D.renL x y, q = { f with name := y } ∨ (q ∈ D.L ∧ q.name ≠ y ∧ q.name ≠ x) := fun q hq => by
    rw [hL] at hq
    rcases mem_insL.1 hq with h | h
    · exact .inl h
    · have h3 := mem_delL.1 h
      have h4 := mem_delL.1 h3.1
      exact .inr ⟨h4.1, h4.2, h3.2⟩
  have hfa := h2.at (x := x) hf
  have sep := h2.sep
  have haf : ∀ q ∈ D.L, ∀ k ∈ ownF (lay q.name), w5.heap[k]? = w2.heap[k]? := fun q hq k hk => by
    refine hfr.block k ((h2.file q hq).lt k hk) ?_
    simp only [List.mem_cons, List.not_mem_nil, or_false, not_or]
    exact ⟨fun e => sep.afar q hq (e ▸ hk), fun e => sep.mfar q hq (e ▸ hk)⟩
  have hself := sep.self f hm
  rw [hn] at hself
  have key := h2.one (w' := w5) (D' := { D.tick with L := D.renL x y }) { f with name := y } x (lay x) hb ?_ hok hmem ?_ (fun q hq _ _ => haf q hq) (fun k hk => .inr ⟨⟨f, hm, hn⟩, hk⟩) hself
  · exact ⟨_, key.1, hfr.mono (fun k hk => by simp at hk; simp only [List.mem_cons]; rcases hk with h | h; exact .inl h; exact .inr (.inl h)), key.2⟩
  · show MapP _ _ _ _ (D.renL x y).length (mapL (setLay lay y (lay x)) (D.renL x y))
    have e1 : mapL (setLay lay y (lay x)) (D.renL x y) = fun z => if z = y then some (some (lay x).1) else if z = x then none else mapL lay D.L z := by
      rw [hL]
      rw [mapL_ins (f := { f with name := y }) (x := y) rfl (fun g hg => (mem_delL.1 (mem_delL.1 hg).1).2)]
      funext z
      by_cases h : z = y
      · simp [h]
      · simp only [if_neg h]
        rw [mapL_del, mapL_del]
        simp only [if_neg h]
    rw [e1]
    exact hmp
  · have h3 := haf f hm
    rw [hn] at h3
    exact FileAt.step (f := { f with name := y }) hfa h3
theorem ren_tot {D : AD} (hr : Rising D.L) {x y : Nm} {f : AF} (hf : findL x D.L = some f) (hxy : x ≠ y) :
    (∀ g, findL y D.L = some g → totL (D.renL x y) + g.data.size = totL D.L ∧ (D.renL x y).length + 1 = D.L.length) ∧ (findL y D.L = none → totL (D.renL x y) = totL D.L ∧ (D.renL x y).length = D.L.length) := by
  have hL : D.renL x y = insL { f with name := y } (delL x (delL y D.L)) := by unfold AD.renL; rw [if_neg hxy, hf]
  have hf2 : findL x (delL y D.L) = some f := by rw [findL_delL, if_neg hxy, hf]
  have ht := delL_tot (delL_rising hr) hf2
  have hl := delL_length (delL_rising hr) hf2
  have e1 : totL (D.renL x y) = totL (delL x (delL y D.L)) + f.data.size := by rw [hL, insL_tot]
  have e2 : (D.renL x y).length = (delL x (delL y D.L)).length + 1 := by rw [hL, insL_length]
  refine ⟨fun g hg => ?_, fun hg => ?_⟩
  · have := delL_tot hr hg
    have := delL_length hr hg
    omega
  · have h3 : delL y D.L = D.L := delL_of_not (findL_none.1 hg)
    rw [h3] at ht hl e1 e2
    omega
theorem Rename_calls {w : World} {a m : Nat} {lay : Lay} {D : AD} (h : DK w a m lay D) (s t : ByteArray) (hs : s.size ≤ maxLen) (ht : t.size ≤ maxLen) :
    Calls Tryd.prog 16 #[.pointer (some ⟨a, 0, none⟩), .string s, .string t] w fun e w' => e = .returned (.int .i64 (D.rename s.data.toList t.data.toList).2) ∧ Did w w' a m lay D (D.rename s.data.toList t.data.toList).1 := by
  have cF := find_calls h s hs
  have cN := named_calls t
  have H := Aside0.mk h
  have HS := Aside0.mk hs
  have HT := Aside0.mk ht
  by_cases he3 : D.findE s.data.toList = 3
  · have hr : D.renE s.data.toList t.data.toList = 3 := by unfold AD.renE; rw [if_neg (fun k => k.1 he3), he3]
    have E : Aside0 (D.rename s.data.toList t.data.toList = (D, 3)) := ⟨by unfold AD.rename; rw [if_pos (by rw [hr]; decide), hr]⟩
    have hq : D.findQ lay s.data.toList = none := if_neg (by rw [he3]; decide)
    rw [he3, hq] at cF
    rw [E.out]
    clear h hs ht hq he3 hr E
    go_enter Tryd.func16, Tryd.ntmps16
    go_wp2_with (go_at_call 30; refine cF.mono ?_; rintro e w1 ⟨rfl, hb1⟩; have B1 := Aside0.mk hb1; clear hb1; simp only [ptrVal])
    go_ret
    exact ⟨rfl, Did.same (H.out.below B1.out) rfl (Fr.of_below B1.out _)⟩
  · cases hn : named t.data.toList with
    | false =>
      have hr : D.renE s.data.toList t.data.toList = 40 := by unfold AD.renE; rw [if_pos ⟨he3, hn⟩]
      have E : Aside0 (D.rename s.data.toList t.data.toList = (D, 40)) := ⟨by unfold AD.rename; rw [if_pos (by rw [hr]; decide), hr]⟩
      rw [E.out]
      rw [hn] at cN
      generalize D.findQ lay s.data.toList = q0 at cF
      generalize D.findE s.data.toList = e0 at cF he3
      have e1 : (e0 == 3) = false := by simpa using he3
      have e2 : (e0 != 3) = true := by simpa using he3
      clear h hs ht he3 hr E hn
      cases q0 with
      | none =>
        go_enter Tryd.func16, Tryd.ntmps16
        go_wp2_with (first
          | (go_at_call 30; refine cF.mono ?_; rintro e w1 ⟨rfl, hb1⟩; have B1 := Aside0.mk hb1; clear hb1; simp only [ptrVal])
          | (go_at_call 29; refine (cN _).mono ?_; rintro e w2 ⟨rfl, hb2⟩))
        go_ret
        have hb := B1.out.trans (hb2.mono B1.out.size)
        exact ⟨rfl, Did.same (H.out.below hb) rfl (Fr.of_below hb _)⟩
      | some q1 =>
        go_enter Tryd.func16, Tryd.ntmps16
        go_wp2_with (first
          | (go_at_call 30; refine cF.mono ?_; rintro e w1 ⟨rfl, hb1⟩; have B1 := Aside0.mk hb1; clear hb1; simp only [ptrVal])
          | (go_at_call 29; refine (cN _).mono ?_; rintro e w2 ⟨rfl, hb2⟩))
        go_ret
        have hb := B1.out.trans (hb2.mono B1.out.size)
        exact ⟨rfl, Did.same (H.out.below hb) rfl (Fr.of_below hb _)⟩
    | true =>
      have hr : D.renE s.data.toList t.data.toList = D.findE s.data.toList := by unfold AD.renE; rw [if_neg (fun k => by rw [hn] at k; cases k.2)]
      rw [hn] at cN
      by_cases he : D.findE s.data.toList = 0
      · obtain ⟨_, _, f, hf⟩ := findE_ok he
        have hat := h.at hf
        obtain ⟨p, c, hv⟩ := hat.2.shape
        rw [he] at cF hr
        have hq : D.findQ lay s.data.toList = some (lay s.data.toList).1 := if_pos he
        rw [hq] at cF
        by_cases hz : D.armed = 0
        · have E : Aside0 (D.rename s.data.toList t.data.toList = (D.fall, 3)) := ⟨by unfold AD.rename; rw [if_neg (by rw [hr]; decide), if_pos hz]⟩
          have ES : D.stepE = 3 := if_pos hz
          have ED : D.stepD = D.fall := if_pos hz
          rw [E.out]
          clear h hs ht hat hv hq he hf hz E hn hr he3
          go_enter Tryd.func16, Tryd.ntmps16
          go_wp2_with (first
            | (go_at_call 30; refine cF.mono ?_; rintro e w1 ⟨rfl, hb1⟩; have B1 := Aside0.mk hb1; clear hb1; simp only [ptrVal])
            | (go_at_call 29; refine (cN _).mono ?_; rintro e w2 ⟨rfl, hb2⟩; have B2 : Aside0 (Below w.heap.size w w2) := ⟨B1.out.trans (hb2.mono B1.out.size)⟩; clear hb2; have H1 : Aside0 (DK w2 a m lay D) := ⟨H.out.below B2.out⟩; have cS := step_calls H1.out; rw [ES, ED] at cS)
            | (go_at_call 31; refine cS.mono ?_; rintro e w3 ⟨rfl, h2, hf2⟩))
          go_ret
          exact ⟨rfl, Did.same h2 rfl ((Fr.of_below B2.out _).trans hf2 (fun x hx => .inl (by simp at hx; simp [hx])))⟩
        · have E : Aside0 (D.rename s.data.toList t.data.toList = ({ D.tick with L := D.renL s.data.toList t.data.toList }, 0)) := ⟨by unfold AD.rename; rw [if_neg (by rw [hr]; decide), if_neg hz]⟩
          have ES : D.stepE = 0 := if_neg hz
          have ED : D.stepD = D.tick := if_neg hz
          have OA := Aside0.mk (renL_Ok h.ok (x := s.data.toList) hn)
          by_cases hst : s = t
          · subst hst
            have E2 : D.renL s.data.toList s.data.toList = D.L := by unfold AD.renL; rw [if_pos rfl]
            rw [E2] at E
            rw [E.out]
            clear h hs ht hat hv hq he hf hz E hn hr he3 E2
            go_enter Tryd.func16, Tryd.ntmps16
            go_wp2_with (first
              | (go_at_call 30; refine cF.mono ?_; rintro e w1 ⟨rfl, hb1⟩; have B1 := Aside0.mk hb1; clear hb1; simp only [ptrVal])
              | (go_at_call 29; refine (cN _).mono ?_; rintro e w2 ⟨rfl, hb2⟩; have B2 : Aside0 (Below w.heap.size w w2) := ⟨B1.out.trans (hb2.mono B1.out.size)⟩; clear hb2; have H1 : Aside0 (DK w2 a m lay D) := ⟨H.out.below B2.out⟩; have cS := step_calls H1.out; rw [ES, ED] at cS)
              | (go_at_call 31; refine cS.mono ?_; rintro e w3 ⟨rfl, h2, hf2⟩))
            go_ret
            exact ⟨rfl, Did.same h2 rfl ((Fr.of_below B2.out _).trans hf2 (fun x hx => .inl (by simp at hx; simp [hx])))⟩
          · rw [E.out]
            have HF := Aside0.mk hf
            have hst2 : s.data.toList ≠ t.data.toList := fun e => hst (ByteArray.ext (Array.toList_inj.1 e))
            have e7 : (s.toList == t.toList) = false := by rw [toList_is, toList_is]; simpa using hst2
            obtain ⟨rt1, rt2⟩ := ren_tot h.ok.rising hf hst2
            have HST := Aside0.mk hst2
            have hused := h.ok.used
            have hsize := h.ok.size1
            cases hg : findL t.data.toList D.L with
            | none =>
              have hM : Aside0 (mapL lay D.L t.data.toList = none) := ⟨mapL_none hg⟩
              have hM2 : Aside0 ((mapL lay D.L s.data.toList).isSome = true) := ⟨by rw [mapL_some hf]; rfl⟩
              have RT := Aside0.mk (rt2 hg)
              have HL : Aside0 (0 < D.L.length ∧ D.L.length ≤ 64) := ⟨List.length_pos_of_mem (findL_name hf).2, h.ok.many⟩
              clear h hs ht hat hv hq he hf hz E hn hr he3 hst hst2 rt1 rt2 hg hused hsize
              go_enter Tryd.func16, Tryd.ntmps16
              go_wp2_with (first
              | (go_at_call 30; refine cF.mono ?_; rintro e w1 ⟨rfl, hb1⟩; have B1 := Aside0.mk hb1; clear hb1; simp only [ptrVal])
              | (go_at_call 29; refine (cN _).mono ?_; rintro e w2 ⟨rfl, hb2⟩; have B2 : Aside0 (Below w.heap.size w w2) := ⟨B1.out.trans (hb2.mono B1.out.size)⟩; clear hb2; have H1 : Aside0 (DK w2 a m lay D) := ⟨H.out.below B2.out⟩; have cS := step_calls H1.out; rw [ES, ED] at cS)
              | (go_at_call 31; refine cS.mono ?_; rintro e w3 ⟨rfl, h2, hf2⟩; have d1 := (head_cells h2.head).2.1; have H3 := Aside0.mk h2; have F3 := Aside0.mk hf2; clear h2 hf2)
              | (at_lookup; refine wp_look rfl H3.out.map _ _ rfl Tryd.underlying9 Tryd.underlying62 (Tryd.zeroValue65 w3) rfl t rfl HT.out ?_; rw [show mapL lay D.tick.L t.data.toList = _ from hM.out]; simp only [Option.getD, ptrVal])
              | (at_delete; refine wp_del rfl H3.out.map _ _ rfl Tryd.underlying9 Tryd.underlying62 rfl s rfl HS.out ?_; intro w4 mp4 hg4; have d4 : w4.cell? ⟨a, 1, none⟩ = some (.map (some m)) := (head_cells ((hg4.block a (blk_lt H3.out.head) (fun e => H3.out.sep.am (Option.some.inj e))).trans H3.out.head)).2.1; have MP4 := Aside0.mk mp4; have G4 := Aside0.mk hg4; clear mp4 hg4)
              | (at_mapUpdate; refine wp_put rfl MP4.out _ _ _ rfl Tryd.underlying9 Tryd.underlying62 (by rw [show (mapL lay D.tick.L s.data.toList).isSome = true from hM2.out]; have h9 := HL.out; show D.L.length - 1 < maxLen; simp only [maxLen]; omega) rfl t rfl HT.out (some (lay s.data.toList).1) rfl ?_; intro w5 mp5 hg5; have MP5 := Aside0.mk mp5; have G5 := Aside0.mk hg5; clear mp5 hg5))
              go_ret
              refine ⟨rfl, Did.before ((Fr.of_below B2.out _).trans F3.out (fun x hx => .inl hx)) rfl ?_⟩
              have hfr : Fr [a, m] w3 w5 := (((Fr.refl [a, m] w3).grown G4.out (fun k hk => by cases hk; exact .inl (by simp))).grown G5.out (fun k hk => by cases hk; exact .inl (by simp)))
              refine rename_done H3.out HF.out HST.out OA.out hfr ?_ ?_
              · have ha := blk_lt H3.out.head
                rw [G5.out.block a (by have := G4.out.size; omega) (fun e => H3.out.sep.am (Option.some.inj e)), G4.out.block a ha (fun e => H3.out.sep.am (Option.some.inj e)), H3.out.head]
                simp only [headD, AD.used]
                rw [show totL ({ D.tick with L := D.renL s.data.toList t.data.toList } : AD).L = totL D.L from RT.out.1]
                rfl
              · have h9 := MP5.out
                have h10 : (mapL lay D.tick.L s.data.toList).isSome = true := hM2.out
                have h11 : (if t.data.toList = s.data.toList then none else mapL lay D.tick.L t.data.toList) = none := by rw [if_neg (fun e => HST.out e.symm)]; exact hM.out
                rw [h10] at h9
                simp only [h11, if_true, Option.isSome_none, Bool.false_eq_true, if_false] at h9
                rw [RT.out.2]
                have h12 : D.tick.L.length - 1 + 1 = D.L.length := by have := HL.out; show D.L.length - 1 + 1 = _; omega
                rw [h12] at h9
                exact h9
            | some g =>
              have hM : Aside0 (mapL lay D.L t.data.toList = some (some (lay t.data.toList).1)) := ⟨mapL_some hg⟩
              have hM2 : Aside0 ((mapL lay D.L s.data.toList).isSome = true) := ⟨by rw [mapL_some hf]; rfl⟩
              have RT := Aside0.mk (rt1 g hg)
              have HL : Aside0 (0 < D.L.length ∧ D.L.length ≤ 64) := ⟨List.length_pos_of_mem (findL_name hf).2, h.ok.many⟩
              have HG := Aside0.mk hg
              obtain ⟨p2, c2, hv2⟩ := (h.at hg).2.shape
              have HV2 := Aside0.mk hv2
              have hwr : IntKind.i64.wrap (D.used - g.data.size) = D.used - g.data.size := by
                have := mem_tot (findL_name hg).2
                unfold AD.used at hused ⊢
                rw [i64_w]; unfold wrap64; omega
              clear h hs ht hat hv hq he hf hz E hn hr he3 hst hst2 rt1 rt2 hg hused hsize hv2
              go_enter Tryd.func16, Tryd.ntmps16
              go_upto_region 10 with (first
                | (go_at_call 30; refine cF.mono ?_; rintro e w1 ⟨rfl, hb1⟩; have B1 := Aside0.mk hb1; clear hb1; simp only [ptrVal])
                | (go_at_call 29; refine (cN _).mono ?_; rintro e w2 ⟨rfl, hb2⟩; have B2 : Aside0 (Below w.heap.size w w2) := ⟨B1.out.trans (hb2.mono B1.out.size)⟩; clear hb2; have H1 : Aside0 (DK w2 a m lay D) := ⟨H.out.below B2.out⟩; have cS := step_calls H1.out; rw [ES, ED] at cS)
                | (go_at_call 31; refine cS.mono ?_; rintro e w3 ⟨rfl, h2, hf2⟩; have hat2 := h2.at HG.out; have c0 := (file_cells hat2).1; rw [HV2.out] at c0; have d1 := (head_cells h2.head).2.1; have d2 : w3.cell? ⟨a, 2, none⟩ = some (.int .i64 D.used) := (head_cells h2.head).2.2.1; have f2 := blk_frozen h2.head 2; have H3 := Aside0.mk h2; have F3 := Aside0.mk hf2; clear h2 hf2 hat2)
                | (at_lookup; refine wp_look rfl H3.out.map _ _ rfl Tryd.underlying9 Tryd.underlying62 (Tryd.zeroValue65 w3) rfl t rfl HT.out ?_; rw [show mapL lay D.tick.L t.data.toList = _ from hM.out]; simp only [Option.getD, ptrVal]))
              go_region
              have hfr3 : Aside0 (Fr [a] w3 (w3.setCell ⟨a, 2, none⟩ (.int .i64 (D.used - g.data.size))).drew) := ⟨((Fr.refl [a] w3).setCell (p := ⟨a, 2, none⟩) (.inl (by simp)) _).drew⟩
              have hb3 : Aside0 ((w3.setCell ⟨a, 2, none⟩ (.int .i64 (D.used - g.data.size))).drew.heap[a]? = some (.cells ((headD m D.tick).setIfInBounds 2 (.int .i64 (D.used - g.data.size))) 64 (0, 0))) := ⟨blk_set H3.out.head 2 _⟩
              have hm3 : Aside0 (MapP Tryd.prog 9 (w3.setCell ⟨a, 2, none⟩ (.int .i64 (D.used - g.data.size))).drew m D.L.length (mapL lay D.L)) := ⟨H3.out.map.fr hfr3.out (by simp; exact fun e => H3.out.sep.am e.symm)⟩
              have d1' : (w3.setCell ⟨a, 2, none⟩ (.int .i64 (D.used - g.data.size))).drew.cell? ⟨a, 1, none⟩ = some (.map (some m)) := by rw [blk_cell hb3.out]; rfl
              generalize (w3.setCell ⟨a, 2, none⟩ (.int .i64 (D.used - g.data.size))).drew = w3' at hfr3 hb3 hm3 d1' ⊢
              clear d1 d2 c0 f2
              go_wp2_with (first
                | (at_delete; refine wp_del rfl hm3.out _ _ rfl Tryd.underlying9 Tryd.underlying62 rfl s rfl HS.out ?_; intro w4 mp4 hg4; have d4 : w4.cell? ⟨a, 1, none⟩ = some (.map (some m)) := ((World.cell?_of_block (hg4.block a (blk_lt hb3.out) (fun e => H3.out.sep.am (Option.some.inj e)))).trans d1'); have MP4 := Aside0.mk mp4; have G4 := Aside0.mk hg4; clear mp4 hg4)
                | (at_mapUpdate; refine wp_put rfl MP4.out _ _ _ rfl Tryd.underlying9 Tryd.underlying62 (by rw [hM2.out]; have h9 := HL.out; show D.L.length - 1 < maxLen; simp only [maxLen]; omega) rfl t rfl HT.out (some (lay s.data.toList).1) rfl ?_; intro w5 mp5 hg5; have MP5 := Aside0.mk mp5; have G5 := Aside0.mk hg5; clear mp5 hg5))
              go_ret
              refine ⟨rfl, Did.before ((Fr.of_below B2.out _).trans F3.out (fun x hx => .inl hx)) rfl ?_⟩
              have hfr : Fr [a, m] w3 w5 := (((hfr3.out.mono (T := [a, m]) (fun x hx => by simp at hx; simp [hx])).grown G4.out (fun k hk => by cases hk; exact .inl (by simp))).grown G5.out (fun k hk => by cases hk; exact .inl (by simp)))
              refine rename_done H3.out HF.out HST.out OA.out hfr ?_ ?_
              · have ha := blk_lt hb3.out
                rw [G5.out.block a (by have := G4.out.size; omega) (fun e => H3.out.sep.am (Option.some.inj e)), G4.out.block a ha (fun e => H3.out.sep.am (Option.some.inj e)), hb3.out]
                have e9 : ({ D.tick with L := D.renL s.data.toList t.data.toList } : AD).used = D.used - g.data.size := by
                  have h8 := RT.out.1
                  unfold AD.used
                  show ((totL (D.renL s.data.toList t.data.toList) : Nat) : Int) = (totL D.L : Int) - g.data.size
                  omega
                unfold headD
                rw [e9]
                rfl
              · have h9 := MP5.out
                have h10 := hM2.out
                have h11 : (if t.data.toList = s.data.toList then none else mapL lay D.L t.data.toList) = some (some (lay t.data.toList).1) := by rw [if_neg (fun e => HST.out e.symm)]; exact hM.out
                rw [h10] at h9
                simp only [h11, if_true, Option.isSome_some] at h9
                rw [show (D.renL s.data.toList t.data.toList).length = D.L.length - 1 from by have := RT.out.2; omega]
                exact h9
      · have E : Aside0 (D.rename s.data.toList t.data.toList = (D, D.findE s.data.toList)) := ⟨by unfold AD.rename; rw [if_pos (by rw [hr]; exact he), hr]⟩
        have hq : D.findQ lay s.data.toList = none := if_neg he
        rw [E.out]
        rw [hq] at cF
        generalize D.findE s.data.toList = e0 at cF he he3 ⊢
        have e1 : (e0 == 0) = false := by simpa using he
        have e2 : (e0 != 0) = true := by simpa using he
        have e3 : (e0 == 3) = false := by simpa using he3
        have e4 : (e0 != 3) = true := by simpa using he3
        clear h hs ht hq he he3 hr E hn
        go_enter Tryd.func16, Tryd.ntmps16
        go_wp2_with (first
          | (go_at_call 30; refine cF.mono ?_; rintro e w1 ⟨rfl, hb1⟩; have B1 := Aside0.mk hb1; clear hb1; simp only [ptrVal])
          | (go_at_call 29; refine (cN _).mono ?_; rintro e w2 ⟨rfl, hb2⟩))
        go_ret
        have hb := B1.out.trans (hb2.mono B1.out.size)
        exact ⟨rfl, Did.same (H.out.below hb) rfl (Fr.of_below hb _)⟩
end Go.Proofs.YtakhnkkcllfbjaaDoorX
