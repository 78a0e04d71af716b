/- Crash of a disk: what the call does. -/
import Derived.Test.YtakhnkkcllfbjaaDoorE13
namespace Go.Proofs.YtakhnkkcllfbjaaDoorX
open Go.RowKit Go.Proofs.YtakhnkkcllfbjaaDoorW.PrintWords Go.Proofs.YtakhnkkcllfbjaaDoorW.PrintLast Go.Proofs.YtakhnkkcllfbjaaDoorW.PrintMore
attribute [local go_sem] max2_int min2_int max_two min_two max_three min_three max_four min_four   -- for this text's walks alone
set_option linter.unusedVariables false
set_option linter.unusedSimpArgs false
theorem rising_mid {L1 L2 : List AF} {f : AF} (h : Rising (L1 ++ f :: L2)) : (∀ q ∈ L1, q.name ≠ f.name) ∧ ∀ q ∈ L2, q.name ≠ f.name := by
  unfold Rising namesL at h
  rw [List.map_append, List.map_cons, List.pairwise_append] at h
  obtain ⟨_, h2, h3⟩ := h
  refine ⟨fun q hq => nm_ne (h3 q.name (List.mem_map_of_mem hq) f.name (by simp)), fun q hq e => ?_⟩
  exact nm_ne ((List.pairwise_cons.1 h2).1 q.name (List.mem_map_of_mem hq)) e.symm
theorem findL_mid {L1 L2 : List AF} {f : AF} (h : Rising (L1 ++ f :: L2)) : findL f.name (L1 ++ f :: L2) = some f := findL_mem h (by simp)
theorem hasL_mid {L1 L2 : List AF} {f f' : AF} (hn : f'.name = f.name) (y : Nm) : hasL y (L1 ++ f' :: L2) = hasL y (L1 ++ f :: L2) := by
  unfold hasL
  induction L1 with
  | nil =>
    show (findL y (f' :: L2)).isSome = (findL y (f :: L2)).isSome
    unfold findL
    rw [hn]
    split <;> rfl
  | cons q r ih =>
    show (findL y (q :: (r ++ f' :: L2))).isSome = (findL y (q :: (r ++ f :: L2))).isSome
    unfold findL
    split
    · rfl
    · exact ih
theorem totL_app (L1 L2 : List AF) : totL (L1 ++ L2) = totL L1 + totL L2 := by
  induction L1 with
  | nil => simp [totL]
  | cons f r ih => simp only [List.cons_append, totL, ih]; omega
/-- One file has turned, its name and its block stay. -/
theorem DK.file_turn {w w' : World} {a m : Nat} {lay : Lay} {D D' : AD} (h : DK w a m lay D) {L1 L2 : List AF} {f f' : AF} {v' : Value} (hL : D.L = L1 ++ f :: L2) (hn : f'.name = f.name) (hL' : D'.L = L1 ++ f' :: L2) (hok : D'.Ok)
    (hh : w'.heap[a]? = some (.cells (headD m D') 64 (0, 0))) (hat : FileAt w' ((lay f.name).1, v') f') (hv : ∀ k ∈ v'.ownBlock.toList, k ∈ (lay f.name).2.ownBlock.toList ∨ w.heap.size ≤ k) (hfr : Fr (a :: ownF (lay f.name)) w w') :
    DK w' a m (setLay lay f.name ((lay f.name).1, v')) D' ∧ ∀ k ∈ ownL (setLay lay f.name ((lay f.name).1, v')) D'.L, k ∈ ownL lay D.L ∨ w.heap.size ≤ k := by
  have hr := h.ok.rising
  rw [hL] at hr
  obtain ⟨hr1, hr2⟩ := rising_mid hr
  have hm : f ∈ D.L := by rw [hL]; simp
  have hself := h.sep.self f hm
  have hfb : (lay f.name).1 ∈ ownF (lay f.name) := by simp [ownF]
  have hfa := h.file f hm
  have hr1 : ∀ q ∈ L1, q.name ≠ f'.name := fun q hq => by rw [hn]; exact hr1 q hq
  have hr2 : ∀ q ∈ L2, q.name ≠ f'.name := fun q hq => by rw [hn]; exact hr2 q hq
  rw [← hn] at hself hfb hfa hat hv hfr ⊢
  refine h.one f' f'.name ((lay f'.name).1, v') hh ?_ hok (fun q hq => ?_) hat (fun q hq h3 _ k hk => ?_) (fun k hk => ?_) (fun hk => ?_)
  · have e3 : mapL (setLay lay f'.name ((lay f'.name).1, v')) D'.L = mapL lay D.L := by
      refine mapL_congr (fun z => by rw [hL', hL]; exact hasL_mid hn z) (fun z _ => ?_)
      unfold setLay
      split
      · rename_i h; rw [h]
      · rfl
    have e4 : D'.L.length = D.L.length := by rw [hL', hL]; simp
    rw [e3, e4]
    refine h.map.fr hfr ?_
    simp only [List.mem_cons, not_or]
    refine ⟨fun e => h.sep.am e.symm, fun hk => ?_⟩
    have := h.sep.mfar f hm
    rw [← hn] at this
    exact this hk
  · rw [hL'] at hq
    rcases List.mem_append.1 hq with hq | hq
    · exact .inr ⟨by rw [hL]; simp [hq], hr1 q hq, hr1 q hq⟩
    · rcases List.mem_cons.1 hq with rfl | hq
      · exact .inl rfl
      · exact .inr ⟨by rw [hL]; simp [hq], hr2 q hq, hr2 q hq⟩
  · refine hfr.block k ((h.file q hq).lt k hk) ?_
    simp only [List.mem_cons, not_or]
    refine ⟨fun e => h.sep.afar q hq (e ▸ hk), fun h5 => ?_⟩
    exact h.sep.two q hq f hm (by rw [← hn]; exact h3) k hk (by rw [← hn]; exact h5)
  · simp only [ownF, List.mem_cons] at hk
    rcases hk with rfl | hk
    · exact .inr ⟨⟨f, hm, hn.symm⟩, hfb⟩
    · rcases hv k hk with h1 | h1
      · exact .inr ⟨⟨f, hm, hn.symm⟩, by simp only [ownF, List.mem_cons]; exact .inr h1⟩
      · exact .inl h1
  · rcases hv _ hk with h1 | h1
    · exact hself h1
    · have := blk_lt hfa.1
      simp only at h1
      omega
theorem ownL_turn {lay : Lay} {L1 L2 : List AF} {f f' : AF} {v' : Value} (hn : f'.name = f.name) (hv : v'.ownBlock = (lay f.name).2.ownBlock) : ∀ k ∈ ownL (setLay lay f.name ((lay f.name).1, v')) (L1 ++ f' :: L2), k ∈ ownL lay (L1 ++ f :: L2) := fun k hk => by
  obtain ⟨q, hq, hk⟩ := mem_ownL.1 hk
  by_cases h : q.name = f.name
  · rw [h] at hk
    unfold setLay at hk
    rw [if_pos rfl] at hk
    refine mem_ownL.2 ⟨f, by simp, ?_⟩
    simp only [ownF, hv] at hk ⊢
    exact hk
  · unfold setLay at hk
    rw [if_neg h] at hk
    refine mem_ownL.2 ⟨q, ?_, hk⟩
    rcases List.mem_append.1 hq with hq | hq
    · simp [hq]
    · rcases List.mem_cons.1 hq with rfl | hq
      · exact absurd hn h
      · simp [hq]
theorem okTurn {D : AD} (h : D.Ok) {L1 L2 : List AF} {f f' : AF} (hL : D.L = L1 ++ f :: L2) (hn : f'.name = f.name) (hs : f'.data.size ≤ f.data.size) (h0 : 0 ≤ f'.safe) (h1 : f'.safe ≤ f'.data.size) : ({ D with L := L1 ++ f' :: L2 } : AD).Ok := by
  have hu := h.used
  unfold AD.used at hu
  rw [hL, totL_app, totL] at hu
  refine ⟨h.size0, h.size1, ?_, ?_, ?_, fun q hq => ?_, fun q hq => ?_, h.armed0, h.armed1, h.steps0, h.steps1⟩
  · show ((totL (L1 ++ f' :: L2) : Nat) : Int) ≤ D.size
    rw [totL_app, totL]
    omega
  · have := h.many
    rw [hL] at this
    simpa using this
  · have := h.rising
    rw [hL] at this
    show Rising (L1 ++ f' :: L2)
    unfold Rising namesL at this ⊢
    simpa [hn] using this
  · rcases List.mem_append.1 hq with hq | hq
    · exact h.safe q (by rw [hL]; simp [hq])
    · rcases List.mem_cons.1 hq with rfl | hq
      · exact ⟨h0, h1⟩
      · exact h.safe q (by rw [hL]; simp [hq])
  · rcases List.mem_append.1 hq with hq | hq
    · exact h.named q (by rw [hL]; simp [hq])
    · rcases List.mem_cons.1 hq with rfl | hq
      · rw [hn]; exact h.named f (by rw [hL]; simp)
      · exact h.named q (by rw [hL]; simp [hq])
/-- Where the crash stands. -/
structure CrAt (w wr : World) (a m : Nat) (lay : Lay) (D : AD) (ks0 : List Int) (i : Nat) (ks : List Int) (P : List AF) (lay' : Lay) : Prop where
  dk : DK wr a m lay' { D with L := P ++ D.L.drop i }
  len : P.length = i
  rest : P ++ crashL (D.L.drop i) ks = crashL D.L ks0
  fr : Fr (a :: m :: ownL lay D.L) w wr
  sub : ∀ k ∈ ownL lay' (P ++ D.L.drop i), k ∈ ownL lay D.L
theorem drop_at {L : List AF} {i : Nat} (h : i < L.length) : L.drop i = L[i] :: L.drop (i + 1) := List.drop_eq_getElem_cons h
/-- All that a file holds is safe. -/
theorem cr_safe {w wr w2 : World} {a m : Nat} {lay lay' : Lay} {D : AD} {ks0 ks : List Int} {i : Nat} {P : List AF} (h : CrAt w wr a m lay D ks0 i ks P lay') (hi : i < D.L.length) (hs : ¬ (D.L[i]).safe < ((D.L[i]).data.size : Int))
    (hw : w2 = wr.setCell ⟨(lay' (D.L[i]).name).1, 1, none⟩ (.int .i64 (D.L[i]).data.size)) : CrAt w w2 a m lay D ks0 (i + 1) ks (P ++ [safeF D.L[i]]) lay' := by
  have hd := drop_at hi
  have hL : ({ D with L := P ++ D.L.drop i } : AD).L = P ++ D.L[i] :: D.L.drop (i + 1) := by show P ++ D.L.drop i = _; rw [hd]
  generalize D.L[i] = f at *
  have hm : f ∈ ({ D with L := P ++ D.L.drop i } : AD).L := by rw [hL]; simp
  have hat := h.dk.file f hm
  have hfb : (lay' f.name).1 ∈ ownF (lay' f.name) := by simp [ownF]
  have haf := h.dk.sep.afar f hm
  have hmf := h.dk.sep.mfar f hm
  have hself := h.dk.sep.self f hm
  have hfr : Fr [(lay' f.name).1] wr w2 := by subst hw; exact (Fr.refl _ _).setCell (.inl (by simp)) _
  have hsub := h.sub (lay' f.name).1 (mem_ownL.2 ⟨f, hm, hfb⟩)
  have hok := okTurn (f' := safeF f) h.dk.ok hL rfl (Nat.le_refl _) (by show (0 : Int) ≤ (f.data.size : Int); omega) (Int.le_refl _)
  have key := h.dk.file_turn (w' := w2) (D' := { D with L := P ++ safeF f :: D.L.drop (i + 1) }) (v' := (lay' f.name).2) (f' := safeF f) hL rfl rfl hok ?_ ?_ (fun k hk => .inl hk) (hfr.mono (fun x hx => by simp at hx; simp [hx, hfb]))
  · have e1 : setLay lay' f.name ((lay' f.name).1, (lay' f.name).2) = lay' := setLay_self _ _
    rw [e1] at key
    have e2 : P ++ safeF f :: D.L.drop (i + 1) = (P ++ [safeF f]) ++ D.L.drop (i + 1) := by simp
    refine ⟨by rw [← e2]; exact key.1, by simp [h.len], ?_, h.fr.trans hfr (fun x hx => by simp at hx; subst hx; exact .inl (by simp [hsub])), fun k hk => ?_⟩
    · rw [← h.rest, hd]
      show _ = P ++ crashL (f :: D.L.drop (i + 1)) ks
      rw [crashL, if_neg hs]
      simp
    · rw [← e2] at hk
      have h5 := ownL_turn (lay := lay') (f := f) (f' := safeF f) (v' := (lay' f.name).2) rfl rfl k (by rw [e1]; exact hk)
      rw [← hd] at h5
      exact h.sub k h5
  · rw [hfr.blk h.dk.head (by simp; intro e; exact haf (e ▸ hfb))]
    have e3 : ({ D with L := P ++ safeF f :: D.L.drop (i + 1) } : AD).used = ({ D with L := P ++ D.L.drop i } : AD).used := by
      unfold AD.used
      show ((totL (P ++ safeF f :: D.L.drop (i + 1)) : Nat) : Int) = (totL (P ++ D.L.drop i) : Nat)
      rw [hd, totL_app, totL_app]
      rfl
    unfold headD
    rw [e3]
  · refine ⟨?_, hat.2.step (fun k hk => hfr.block k (hat.2.lt k hk) (by simp; rintro rfl; exact hself hk))⟩
    subst hw
    exact blk_put hat.1 1 _ rfl
/-- A tail is cut. -/
theorem cr_cut {w wr w2 : World} {a m : Nat} {lay lay' : Lay} {D : AD} {ks0 ks : List Int} {i : Nat} {P : List AF} (h : CrAt w wr a m lay D ks0 i ks P lay') (hi : i < D.L.length) (hs : (D.L[i]).safe < ((D.L[i]).data.size : Int))
    {p : Option Addr} {n c : Nat} (hv : (lay' (D.L[i]).name).2 = .slice p n c) (t : Int) (ht : t = keepN ks ((D.L[i]).data.size - (D.L[i]).safe))
    (hfr : Fr [a, (lay' (D.L[i]).name).1] wr w2) (hha : w2.heap[a]? = some (.cells ((headD m { D with L := P ++ D.L.drop i }).setIfInBounds 2 (.int .i64 (({ D with L := P ++ D.L.drop i } : AD).used - ((D.L[i]).data.size - (D.L[i]).safe - t)))) 64 (0, 0)))
    (hhf : w2.heap[(lay' (D.L[i]).name).1]? = some (.cells #[.slice p ((D.L[i]).safe + t).toNat c, .int .i64 ((D.L[i]).safe + t)] 70 (0, 0))) :
    CrAt w w2 a m lay D ks0 (i + 1) ks.tail (P ++ [cutF D.L[i] t]) (setLay lay' (D.L[i]).name ((lay' (D.L[i]).name).1, .slice p ((D.L[i]).safe + t).toNat c)) := by
  have hd := drop_at hi
  have hL : ({ D with L := P ++ D.L.drop i } : AD).L = P ++ D.L[i] :: D.L.drop (i + 1) := by show P ++ D.L.drop i = _; rw [hd]
  generalize D.L[i] = f at *
  have hm : f ∈ ({ D with L := P ++ D.L.drop i } : AD).L := by rw [hL]; simp
  have hat := h.dk.file f hm
  have hsafe := h.dk.ok.safe f hm
  have hkn := keepN_b ks (t := (f.data.size : Int) - f.safe) (by omega)
  rw [← ht] at hkn
  have hfb : (lay' f.name).1 ∈ ownF (lay' f.name) := by simp [ownF]
  have haf := h.dk.sep.afar f hm
  have hself := h.dk.sep.self f hm
  have hsub := h.sub (lay' f.name).1 (mem_ownL.2 ⟨f, hm, hfb⟩)
  have hsz : (f.data.extract 0 (f.safe + t).toNat).size = (f.safe + t).toNat := by rw [ByteArray.size_extract]; omega
  have hok := okTurn (f' := cutF f t) h.dk.ok hL rfl (by show (f.data.extract 0 (f.safe + t).toNat).size ≤ _; omega) (by show 0 ≤ f.safe + t; omega) (by show f.safe + t ≤ ((f.data.extract 0 (f.safe + t).toNat).size : Int); omega)
  obtain ⟨hrow, hblk⟩ := hat.2.cut hv (f.safe + t).toNat (by omega)
  have key := h.dk.file_turn (w' := w2) (D' := { D with L := P ++ cutF f t :: D.L.drop (i + 1) }) (v' := .slice p (f.safe + t).toNat c) (f' := cutF f t) hL rfl rfl hok ?_ ?_ (fun k hk => .inl (by rw [← hblk]; exact hk)) (hfr.mono (fun x hx => by simp at hx; rcases hx with rfl | rfl; simp; exact List.mem_cons_of_mem _ hfb))
  · have e2 : P ++ cutF f t :: D.L.drop (i + 1) = (P ++ [cutF f t]) ++ D.L.drop (i + 1) := by simp
    refine ⟨by rw [← e2]; exact key.1, by simp [h.len], ?_, h.fr.trans hfr (fun x hx => by simp at hx; rcases hx with rfl | rfl; exact .inl (by simp); exact .inl (by simp [hsub])), fun k hk => ?_⟩
    · rw [← h.rest, hd]
      show _ = P ++ crashL (f :: D.L.drop (i + 1)) ks
      rw [crashL, if_pos hs, ht]
      simp
    · rw [← e2] at hk
      have h5 := ownL_turn (lay := lay') (f := f) (f' := cutF f t) (v' := .slice p (f.safe + t).toNat c) rfl hblk k hk
      rw [← hd] at h5
      exact h.sub k h5
  · rw [hha]
    have e3 : ({ D with L := P ++ cutF f t :: D.L.drop (i + 1) } : AD).used = ({ D with L := P ++ D.L.drop i } : AD).used - (f.data.size - f.safe - t) := by
      unfold AD.used
      show ((totL (P ++ cutF f t :: D.L.drop (i + 1)) : Nat) : Int) = (totL (P ++ D.L.drop i) : Nat) - ((f.data.size : Int) - f.safe - t)
      rw [hd, totL_app, totL_app, totL, totL]
      show ((totL P + ((f.data.extract 0 (f.safe + t).toNat).size + totL (D.L.drop (i + 1))) : Nat) : Int) = _
      rw [hsz]
      omega
    unfold headD
    rw [e3]
    rfl
  · refine ⟨hhf, hrow.step (fun k hk => ?_)⟩
    have hk2 : k ∈ (lay' f.name).2.ownBlock.toList := by rw [← hblk]; exact hk
    refine hfr.block k (hat.2.lt k hk2) ?_
    simp only [List.mem_cons, List.not_mem_nil, or_false, not_or]
    refine ⟨?_, ?_⟩
    · rintro rfl
      exact haf (by simp only [ownF, List.mem_cons]; exact .inr hk2)
    · rintro rfl
      exact hself hk2
end Go.Proofs.YtakhnkkcllfbjaaDoorX
