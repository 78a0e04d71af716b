/- Sync, Read of a disk: what each call answers and does. -/
import Derived.Test.YtakhnkkcllfbjaaDoorE6
namespace Go.Proofs.YtakhnkkcllfbjaaDoorX
open Go.RowKit Go.Proofs.YtakhnkkcllfbjaaDoorW.PrintWords Go.Proofs.YtakhnkkcllfbjaaDoorW.PrintLast Go.Proofs.YtakhnkkcllfbjaaDoorW.PrintMore
set_option linter.unusedVariables false
set_option linter.unusedSimpArgs false
/-- A file's cells, behind a name. -/
theorem DK.at {w : World} {a m : Nat} {lay : Lay} {D : AD} (h : DK w a m lay D) {x : Nm} {f : AF} (hf : findL x D.L = some f) : FileAt w (lay x) f := by
  obtain ⟨h1, h2⟩ := findL_name hf
  have := h.file f h2
  rwa [h1] at this
theorem DK.below {w w' : World} {a m : Nat} {lay : Lay} {D : AD} (h : DK w a m lay D) (hb : Below w.heap.size w w') : DK w' a m lay D := h.fr (Fr.of_below hb []) (by simp)
theorem mapL_congr {lay lay' : Lay} {L L' : List AF} (h1 : ∀ y, hasL y L' = hasL y L) (h2 : ∀ y, hasL y L = true → (lay' y).1 = (lay y).1) : mapL lay' L' = mapL lay L := by
  funext y
  unfold mapL
  rw [h1 y]
  split
  · rename_i h; rw [h2 y h]
  · rfl
theorem setLay_self (lay : Lay) (x : Nm) : setLay lay x (lay x) = lay := by
  funext y
  unfold setLay
  split
  · rename_i h; rw [h]
  · rfl
theorem hasL_upd {x y : Nm} {g : AF → AF} (hg : ∀ f, (g f).name = f.name) {L : List AF} : hasL y (updL x g L) = hasL y L := by
  unfold hasL
  rw [findL_updL hg]
  split
  · cases findL y L <;> rfl
  · rfl
theorem mem_upd {x : Nm} {g : AF → AF} (hg : ∀ f, (g f).name = f.name) {L : List AF} (hr : Rising L) {f : AF} (hf : findL x L = some f) : ∀ q ∈ updL x g L, q = g f ∨ (q ∈ L ∧ q.name ≠ (g f).name ∧ q.name ≠ x) := fun q hq => by
  obtain ⟨h1, h2⟩ := findL_name hf
  rcases mem_updL hq with ⟨f', h3, h4, rfl⟩ | ⟨h3, h4⟩
  · have h5 := findL_mem hr h3
    rw [h4, hf] at h5
    cases h5
    exact .inl rfl
  · exact .inr ⟨h3, by rw [hg, h1]; exact h4, h4⟩
theorem owns_at {lay : Lay} {L : List AF} {x : Nm} {f : AF} (hf : findL x L = some f) : ∀ k ∈ ownF (lay x), k ∈ ownL lay L := fun k hk => by
  obtain ⟨h1, h2⟩ := findL_name hf
  rw [← h1] at hk
  exact mem_ownL.2 ⟨f, h2, hk⟩
theorem sync_done {w1 w2 : World} {a m : Nat} {lay : Lay} {D : AD} {x : Nm} (h2 : DK w1 a m lay D.tick) (hok : ({ D.tick with L := updL x safeF D.L } : AD).Ok) {f : AF} (hf : findL x D.L = some f)
    (hw : w2 = w1.setCell ⟨(lay x).1, 1, none⟩ (.int .i64 f.data.size)) : DK w2 a m lay { D.tick with L := updL x safeF D.L } ∧ Fr [(lay x).1] w1 w2 := by
  have hat := h2.at (x := x) hf
  have hfr : Fr [(lay x).1] w1 w2 := by subst hw; exact (Fr.refl _ _).setCell (.inl (by simp)) _
  obtain ⟨hn, hm⟩ := findL_name hf
  have hfa : (lay x).1 ∈ ownF (lay f.name) := by rw [hn]; simp [ownF]
  have hna : a ∉ [(lay x).1] := by simp only [List.mem_singleton]; intro e; exact h2.sep.afar f hm (e ▸ hfa)
  have hnm : m ∉ [(lay x).1] := by simp only [List.mem_singleton]; intro e; exact h2.sep.mfar f hm (e ▸ hfa)
  have hself := h2.sep.self f hm
  rw [hn] at hself
  have key := h2.one (w' := w2) (D' := { D.tick with L := updL x safeF D.L }) (safeF f) x (lay x) ?_ ?_ hok (fun q hq => by
      rcases mem_upd (g := safeF) (fun _ => rfl) h2.ok.rising hf q hq with h3 | ⟨h3, h4, h5⟩
      · exact .inl h3
      · exact .inr ⟨h3, h4, h5⟩) ?_ ?_ (fun k hk => .inr ⟨⟨f, hm, hn⟩, hk⟩) hself
  · have e3 : setLay lay (safeF f).name (lay x) = lay := by rw [show (safeF f).name = x from hn]; exact setLay_self _ _
    rw [e3] at key
    exact ⟨key.1, hfr⟩
  · have h3 := hfr.blk h2.head hna
    rw [h3]
    simp only [headD, AD.used, updL_tot (g := safeF) h2.ok.rising hf]
    have ht := updL_tot (g := safeF) h2.ok.rising hf
    have ht2 : totL (updL x safeF D.L) = totL D.L := by simp only [safeF] at ht; exact Nat.add_right_cancel ht
    rw [ht2]
    rfl
  · have e3 : setLay lay (safeF f).name (lay x) = lay := by rw [show (safeF f).name = x from hn]; exact setLay_self _ _
    have h3 := h2.map.fr hfr hnm
    rw [e3]
    show MapP _ _ _ _ (updL x safeF D.L).length (mapL lay (updL x safeF D.L))
    rw [updL_length, mapL_congr (lay := lay) (lay' := lay) (fun y => hasL_upd (g := safeF) (fun _ => rfl)) (fun _ _ => rfl)]
    exact h3
  · refine ⟨?_, hat.2.step (fun k hk => hfr.block k (hat.2.lt k hk) (by simp only [List.mem_singleton]; rintro rfl; exact hself hk))⟩
    subst hw
    exact blk_put hat.1 1 _ rfl
  · intro q hq h3 h4 k hk
    refine hfr.block k ((h2.file q hq).lt k hk) ?_
    simp only [List.mem_singleton]
    rintro rfl
    exact h2.sep.two q hq f hm (by rw [hn]; exact h4) _ hk hfa
theorem Sync_calls {w : World} {a m : Nat} {lay : Lay} {D : AD} (h : DK w a m lay D) (s : ByteArray) (hs : s.size ≤ maxLen) :
    Calls Tryd.prog 11 #[.pointer (some ⟨a, 0, none⟩), .string s] w fun e w' => e = .returned (.int .i64 (D.sync s.data.toList).2) ∧ DK w' a m lay (D.sync s.data.toList).1 ∧ Fr (a :: m :: ownL lay D.L) w w' := by
  have cF := find_calls h s hs
  have H := Aside0.mk h
  have OK := Aside0.mk (h.ok.sync s.data.toList)
  by_cases he : D.findE s.data.toList = 0
  · obtain ⟨_, _, f, hf⟩ := findE_ok he
    have hat := h.at hf
    obtain ⟨p, c, hv⟩ := hat.2.shape
    rw [he] at cF
    have hq : D.findQ lay s.data.toList = some (lay s.data.toList).1 := if_pos he
    rw [hq] at cF
    by_cases hz : D.armed = 0
    · have E : Aside0 (D.sync s.data.toList = (D.fall, 3)) := ⟨by unfold AD.sync; rw [if_neg (by rw [he]; decide), if_pos hz]⟩
      have ES : D.stepE = 3 := if_pos hz
      have ED : D.stepD = D.fall := if_pos hz
      rw [E.out]
      clear h hs hat hv hq he hf hz
      go_enter Tryd.func11, Tryd.ntmps11
      go_wp2_with (first
        | (go_at_call 30; refine cF.mono ?_; rintro e w1 ⟨rfl, hb1⟩; have H1 := Aside0.mk (H.out.below hb1); have B1 := Aside0.mk hb1; clear hb1; have cS := step_calls H1.out; rw [ES, ED] at cS; simp only [ptrVal])
        | (go_at_call 31; refine cS.mono ?_; rintro e w2 ⟨rfl, h2, hf2⟩))
      go_ret
      exact ⟨rfl, h2, (Fr.of_below B1.out _).trans hf2 (fun x hx => .inl (by simp at hx; simp [hx]))⟩
    · have E : Aside0 (D.sync s.data.toList = ({ D.tick with L := updL s.data.toList safeF D.L }, 0)) := ⟨by unfold AD.sync; rw [if_neg (by rw [he]; decide), if_neg hz]⟩
      have ES : D.stepE = 0 := if_neg hz
      have ED : D.stepD = D.tick := if_neg hz
      have hok := OK.out
      rw [E.out] at hok ⊢
      have HF := Aside0.mk hf
      have HV := Aside0.mk hv
      have HO := Aside0.mk hok
      clear h hs hat hv hq he hf hz hok
      go_enter Tryd.func11, Tryd.ntmps11
      go_wp2_with (first
        | (go_at_call 30; refine cF.mono ?_; rintro e w1 ⟨rfl, hb1⟩; have H1 := Aside0.mk (H.out.below hb1); have B1 := Aside0.mk hb1; clear hb1; have cS := step_calls H1.out; rw [ES, ED] at cS; simp only [ptrVal])
        | (go_at_call 31; refine cS.mono ?_; rintro e w2 ⟨rfl, h2, hf2⟩; have hat2 := h2.at HF.out; have c0 := (file_cells hat2).1; have c1 := (file_cells hat2).2; rw [HV.out] at c0; have f1 := blk_frozen hat2.1 1; have H2 := Aside0.mk h2; have F2 := Aside0.mk hf2; clear h2 hf2 hat2))
      go_ret
      obtain ⟨k1, k2⟩ := sync_done H2.out HO.out HF.out rfl
      exact ⟨rfl, k1, ((Fr.of_below B1.out _).trans F2.out (fun x hx => .inl (by simp at hx; simp [hx]))).trans k2 (fun x hx => .inl (by rw [List.mem_singleton] at hx; subst hx; simp only [List.mem_cons]; exact .inr (.inr (owns_at HF.out _ (by simp [ownF])))))⟩
  · have E : Aside0 (D.sync s.data.toList = (D, D.findE s.data.toList)) := ⟨if_pos he⟩
    have hq : D.findQ lay s.data.toList = none := if_neg he
    rw [E.out]
    rw [hq] at cF
    generalize D.findE s.data.toList = e0 at cF he ⊢
    have e1 : (e0 == 0) = false := by simpa using he
    clear h hs hq he
    go_enter Tryd.func11, Tryd.ntmps11
    go_wp2_with (go_at_call 30; refine cF.mono ?_; rintro e w1 ⟨rfl, hb1⟩; have H1 := Aside0.mk (H.out.below hb1); have B1 := Aside0.mk hb1; clear hb1; simp only [ptrVal])
    go_ret
    exact ⟨rfl, H1.out, Fr.of_below B1.out _⟩
end Go.Proofs.YtakhnkkcllfbjaaDoorX
