/- Remove of a disk: what the call answers and does. -/
import Derived.Test.YtakhnkkcllfbjaaDoorE9
namespace Go.Proofs.YtakhnkkcllfbjaaDoorX
open Go.RowKit Go.Proofs.YtakhnkkcllfbjaaDoorW.PrintWords Go.Proofs.YtakhnkkcllfbjaaDoorW.PrintLast Go.Proofs.YtakhnkkcllfbjaaDoorW.PrintMore
set_option linter.unusedVariables false
set_option linter.unusedSimpArgs false
theorem mapL_del {lay : Lay} {L : List AF} {x : Nm} : mapL lay (delL x L) = fun z => if z = x then none else mapL lay L z := by
  funext z
  unfold mapL hasL
  rw [findL_delL]
  by_cases h : z = x
  · simp [h]
  · simp [h]
theorem remove_done {w2 w3 w4 : World} {a m : Nat} {lay : Lay} {D : AD} {x : Nm} {f : AF} (h2 : DK w2 a m lay D.tick) (hf : findL x D.L = some f) (hok : ({ D.tick with L := delL x D.L } : AD).Ok)
    (hf3 : Fr [a] w2 w3) (hb3 : w3.heap[a]? = some (.cells ((headD m D.tick).setIfInBounds 2 (.int .i64 (D.used - f.data.size))) 64 (0, 0)))
    (hmp : MapP Tryd.prog 9 w4 m (D.L.length - 1) (fun z => if z = x then none else mapL lay D.L z)) (hg : w3.grownBy w4 (some m)) :
    Did w2 w4 a m lay D { D.tick with L := delL x D.L } := by
  have hfr : Fr [a, m] w2 w4 := ((hf3.mono (T := [a, m]) (fun x hx => by simp at hx; simp [hx])).grown hg (fun k hk => by cases hk; exact .inl (by simp)))
  have ht := delL_tot h2.ok.rising hf
  have hl := delL_length h2.ok.rising hf
  have ha3 := blk_lt hb3
  have key := h2.less (w' := w4) (D' := { D.tick with L := delL x D.L }) ?_ ?_ (fun q hq => (mem_delL.1 hq).1) hok ?_
  · exact ⟨lay, key.1, hfr.mono (fun k hk => by simp at hk; simp only [List.mem_cons]; rcases hk with h | h; exact .inl h; exact .inr (.inl h)), fun k hk => .inl (key.2 k hk)⟩
  · rw [hg.block a ha3 (by simp; exact h2.sep.am), hb3]
    have e2 : ({ D.tick with L := delL x D.L } : AD).used = D.used - f.data.size := by
      unfold AD.used
      show ((totL (delL x D.L) : Nat) : Int) = (totL D.L : Int) - f.data.size
      have : totL (delL x D.L) + f.data.size = totL D.L := ht
      omega
    unfold headD
    rw [e2]
    rfl
  · show MapP _ _ _ _ (delL x D.L).length (mapL lay (delL x D.L))
    rw [mapL_del, show (delL x D.L).length = D.L.length - 1 from by have : (delL x D.L).length + 1 = D.L.length := hl; omega]
    exact hmp
  · intro q hq k hk
    have hq2 := (mem_delL.1 hq).1
    refine hfr.block k ((h2.file q hq2).lt k hk) ?_
    simp only [List.mem_cons, List.not_mem_nil, or_false, not_or]
    exact ⟨fun e => h2.sep.afar q hq2 (e ▸ hk), fun e => h2.sep.mfar q hq2 (e ▸ hk)⟩
theorem Remove_calls {w : World} {a m : Nat} {lay : Lay} {D : AD} (h : DK w a m lay D) (s : ByteArray) (hs : s.size ≤ maxLen) :
    Calls Tryd.prog 36 #[.pointer (some ⟨a, 0, none⟩), .string s] w fun e w' => e = .returned (.int .i64 (D.remove s.data.toList).2) ∧ Did w w' a m lay D (D.remove s.data.toList).1 := by
  have cF := find_calls h s hs
  have H := Aside0.mk h
  have HS := Aside0.mk hs
  by_cases he : D.findE s.data.toList = 0
  · obtain ⟨_, _, f, hf⟩ := findE_ok he
    have hat := h.at hf
    obtain ⟨p, c, hv⟩ := hat.2.shape
    rw [he] at cF
    have hq : D.findQ lay s.data.toList = some (lay s.data.toList).1 := if_pos he
    rw [hq] at cF
    by_cases hz : D.armed = 0
    · have E : Aside0 (D.remove s.data.toList = (D.fall, 3)) := ⟨by unfold AD.remove; rw [if_neg (by rw [he]; decide), if_pos hz]⟩
      have ES : D.stepE = 3 := if_pos hz
      have ED : D.stepD = D.fall := if_pos hz
      rw [E.out]
      clear h hs hat hv hq he hf hz E
      go_enter Tryd.func36, Tryd.ntmps36
      go_wp2_with (first
        | (go_at_call 30; refine cF.mono ?_; rintro e w1 ⟨rfl, hb1⟩; have H1 := Aside0.mk (H.out.below hb1); have B1 := Aside0.mk hb1; clear hb1; have cS := step_calls H1.out; rw [ES, ED] at cS; simp only [ptrVal])
        | (go_at_call 31; refine cS.mono ?_; rintro e w2 ⟨rfl, h2, hf2⟩))
      go_ret
      exact ⟨rfl, Did.same h2 rfl ((Fr.of_below B1.out _).trans hf2 (fun x hx => .inl (by simp at hx; simp [hx])))⟩
    · have E : Aside0 (D.remove s.data.toList = ({ D.tick with L := delL s.data.toList D.L }, 0)) := ⟨by unfold AD.remove; rw [if_neg (by rw [he]; decide), if_neg hz]⟩
      have ES : D.stepE = 0 := if_neg hz
      have ED : D.stepD = D.tick := if_neg hz
      have OA := Aside0.mk (removeOk h.ok s.data.toList)
      have HF := Aside0.mk hf
      have HV := Aside0.mk hv
      have hwr : IntKind.i64.wrap (D.used - f.data.size) = D.used - f.data.size := by
        have := mem_tot (findL_name hf).2
        have h9 := h.ok.used; have := h.ok.size1
        unfold AD.used at h9 ⊢
        rw [i64_w]; unfold wrap64; omega
      have hM : Aside0 ((mapL lay D.L s.data.toList).isSome = true) := ⟨by rw [mapL_some hf]; rfl⟩
      rw [E.out]
      clear h hs hat hv hq he hf hz E
      go_enter Tryd.func36, Tryd.ntmps36
      go_upto_region 5 with (first
        | (go_at_call 30; refine cF.mono ?_; rintro e w1 ⟨rfl, hb1⟩; have H1 := Aside0.mk (H.out.below hb1); have B1 := Aside0.mk hb1; clear hb1; have cS := step_calls H1.out; rw [ES, ED] at cS; simp only [ptrVal])
        | (go_at_call 31; refine cS.mono ?_; rintro e w2 ⟨rfl, h2, hf2⟩; have hat2 := h2.at HF.out; have c0 := (file_cells hat2).1; rw [HV.out] at c0; have d1 := (head_cells h2.head).2.1; have d2 : w2.cell? ⟨a, 2, none⟩ = some (.int .i64 D.used) := (head_cells h2.head).2.2.1; have f2 := blk_frozen h2.head 2; have H2 := Aside0.mk h2; have F2 := Aside0.mk hf2; clear h2 hf2 hat2))
      go_region
      have hfr3 : Aside0 (Fr [a] w2 (w2.setCell ⟨a, 2, none⟩ (.int .i64 (D.used - f.data.size))).drew) := ⟨((Fr.refl [a] w2).setCell (p := ⟨a, 2, none⟩) (.inl (by simp)) _).drew⟩
      have hb3 : Aside0 ((w2.setCell ⟨a, 2, none⟩ (.int .i64 (D.used - f.data.size))).drew.heap[a]? = some (.cells ((headD m D.tick).setIfInBounds 2 (.int .i64 (D.used - f.data.size))) 64 (0, 0))) := ⟨blk_set H2.out.head 2 _⟩
      have hm3 : Aside0 (MapP Tryd.prog 9 (w2.setCell ⟨a, 2, none⟩ (.int .i64 (D.used - f.data.size))).drew m D.L.length (mapL lay D.L)) := ⟨H2.out.map.fr hfr3.out (by simp; exact fun e => H2.out.sep.am e.symm)⟩
      have d1' : (w2.setCell ⟨a, 2, none⟩ (.int .i64 (D.used - f.data.size))).drew.cell? ⟨a, 1, none⟩ = some (.map (some m)) := by rw [blk_cell hb3.out]; rfl
      generalize (w2.setCell ⟨a, 2, none⟩ (.int .i64 (D.used - f.data.size))).drew = w3 at hfr3 hb3 hm3 d1' ⊢
      clear d1 d2 c0 f2
      go_wp2_with (refine wp_del rfl hm3.out _ _ rfl Tryd.underlying9 Tryd.underlying62 rfl s rfl HS.out ?_; intro w4 mp4 hg4; rw [hM.out] at mp4; have MP4 := Aside0.mk mp4; have G4 := Aside0.mk hg4; clear mp4 hg4)
      go_ret
      exact ⟨rfl, Did.before ((Fr.of_below B1.out _).trans F2.out (fun x hx => .inl hx)) rfl (remove_done H2.out HF.out OA.out hfr3.out hb3.out MP4.out G4.out)⟩
  · have E : Aside0 (D.remove s.data.toList = (D, D.findE s.data.toList)) := ⟨if_pos he⟩
    have hq : D.findQ lay s.data.toList = none := if_neg he
    rw [E.out]
    rw [hq] at cF
    generalize D.findE s.data.toList = e0 at cF he ⊢
    have e1 : (e0 == 0) = false := by simpa using he
    clear h hs hq he
    go_enter Tryd.func36, Tryd.ntmps36
    go_wp2_with (go_at_call 30; refine cF.mono ?_; rintro e w1 ⟨rfl, hb1⟩; have H1 := Aside0.mk (H.out.below hb1); have B1 := Aside0.mk hb1; clear hb1; simp only [ptrVal])
    go_ret
    exact ⟨rfl, Did.same H1.out rfl (Fr.of_below B1.out _)⟩
end Go.Proofs.YtakhnkkcllfbjaaDoorX
