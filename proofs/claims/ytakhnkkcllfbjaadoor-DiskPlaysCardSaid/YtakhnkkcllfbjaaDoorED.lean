/- Several texts in one (merge.py): E14, E15, E16, E17, E18; no conditions beyond those in each theorem's head. -/
import Derived.Test.YtakhnkkcllfbjaaDoorEC
import Derived.Test.YtakhnkkcllfbjaaDoorPAx1
section
namespace Go.Proofs.YtakhnkkcllfbjaaDoorX
open Go.RowKit Go.Proofs.YtakhnkkcllfbjaaDoorW.PrintWords Go.Proofs.YtakhnkkcllfbjaaDoorW.PrintLast Go.Proofs.YtakhnkkcllfbjaaDoorW.PrintMore
attribute [local go_sem] max2_int min2_int max_two min_two max_three min_three max_four min_four   -- for this text's walks alone
set_option linter.unusedVariables false
set_option linter.unusedSimpArgs false
theorem rising_mid {L1 L2 : List AF} {f : AF} (h : Rising (L1 ++ f :: L2)) : (∀ q ∈ L1, q.name ≠ f.name) ∧ ∀ q ∈ L2, q.name ≠ f.name := by
  unfold Rising namesL at h
  rw [List.map_append, List.map_cons, List.pairwise_append] at h
  obtain ⟨_, h2, h3⟩ := h
  refine ⟨fun q hq => nm_ne (h3 q.name (List.mem_map_of_mem hq) f.name (by simp)), fun q hq e => ?_⟩
  exact nm_ne ((List.pairwise_cons.1 h2).1 q.name (List.mem_map_of_mem hq)) e.symm
theorem findL_mid {L1 L2 : List AF} {f : AF} (h : Rising (L1 ++ f :: L2)) : findL f.name (L1 ++ f :: L2) = some f := findL_mem h (by simp)
theorem hasL_mid {L1 L2 : List AF} {f f' : AF} (hn : f'.name = f.name) (y : Nm) : hasL y (L1 ++ f' :: L2) = hasL y (L1 ++ f :: L2) := by
  unfold hasL
  induction L1 with
  | nil =>
    show (findL y (f' :: L2)).isSome = (findL y (f :: L2)).isSome
    unfold findL
    rw [hn]
    split <;> rfl
  | cons q r ih =>
    show (findL y (q :: (r ++ f' :: L2))).isSome = (findL y (q :: (r ++ f :: L2))).isSome
    unfold findL
    split
    · rfl
    · exact ih
theorem totL_app (L1 L2 : List AF) : totL (L1 ++ L2) = totL L1 + totL L2 := by
  induction L1 with
  | nil => simp [totL]
  | cons f r ih => simp only [List.cons_append, totL, ih]; omega
/-- One file has turned, its name and its block stay. -/
theorem DK.file_turn {w w' : World} {a m : Nat} {lay : Lay} {D D' : AD} (h : DK w a m lay D) {L1 L2 : List AF} {f f' : AF} {v' : Value} (hL : D.L = L1 ++ f :: L2) (hn : f'.name = f.name) (hL' : D'.L = L1 ++ f' :: L2) (hok : D'.Ok)
    (hh : w'.heap[a]? = some (.cells (headD m D') 64 (0, 0))) (hat : FileAt w' ((lay f.name).1, v') f') (hv : ∀ k ∈ v'.ownBlock.toList, k ∈ (lay f.name).2.ownBlock.toList ∨ w.heap.size ≤ k) (hfr : Fr (a :: ownF (lay f.name)) w w') :
    DK w' a m (setLay lay f.name ((lay f.name).1, v')) D' ∧ ∀ k ∈ ownL (setLay lay f.name ((lay f.name).1, v')) D'.L, k ∈ ownL lay D.L ∨ w.heap.size ≤ k := by
  have hr := h.ok.rising
  rw [hL] at hr
  obtain ⟨hr1, hr2⟩ := rising_mid hr
  have hm : f ∈ D.L := by rw [hL]; simp
  have hself := h.sep.self f hm
  have hfb : (lay f.name).1 ∈ ownF (lay f.name) := by simp [ownF]
  have hfa := h.file f hm
  have hr1 : ∀ q ∈ L1, q.name ≠ f'.name := fun q hq => by rw [hn]; exact hr1 q hq
  have hr2 : ∀ q ∈ L2, q.name ≠ f'.name := fun q hq => by rw [hn]; exact hr2 q hq
  rw [← hn] at hself hfb hfa hat hv hfr ⊢
  refine h.one f' f'.name ((lay f'.name).1, v') hh ?_ hok (fun q hq => ?_) hat (fun q hq h3 _ k hk => ?_) (fun k hk => ?_) (fun hk => ?_)
  · have e3 : mapL (setLay lay f'.name ((lay f'.name).1, v')) D'.L = mapL lay D.L := by
      refine mapL_congr (fun z => by rw [hL', hL]; exact hasL_mid hn z) (fun z _ => ?_)
      unfold setLay
      split
      · rename_i h; rw [h]
      · rfl
    have e4 : D'.L.length = D.L.length := by rw [hL', hL]; simp
    rw [e3, e4]
    refine h.map.fr hfr ?_
    simp only [List.mem_cons, not_or]
    refine ⟨fun e => h.sep.am e.symm, fun hk => ?_⟩
    have := h.sep.mfar f hm
    rw [← hn] at this
    exact this hk
  · rw [hL'] at hq
    rcases List.mem_append.1 hq with hq | hq
    · exact .inr ⟨by rw [hL]; simp [hq], hr1 q hq, hr1 q hq⟩
    · rcases List.mem_cons.1 hq with rfl | hq
      · exact .inl rfl
      · exact .inr ⟨by rw [hL]; simp [hq], hr2 q hq, hr2 q hq⟩
  · refine hfr.block k ((h.file q hq).lt k hk) ?_
    simp only [List.mem_cons, not_or]
    refine ⟨fun e => h.sep.afar q hq (e ▸ hk), fun h5 => ?_⟩
    exact h.sep.two q hq f hm (by rw [← hn]; exact h3) k hk (by rw [← hn]; exact h5)
  · simp only [ownF, List.mem_cons] at hk
    rcases hk with rfl | hk
    · exact .inr ⟨⟨f, hm, hn.symm⟩, hfb⟩
    · rcases hv k hk with h1 | h1
      · exact .inr ⟨⟨f, hm, hn.symm⟩, by simp only [ownF, List.mem_cons]; exact .inr h1⟩
      · exact .inl h1
  · rcases hv _ hk with h1 | h1
    · exact hself h1
    · have := blk_lt hfa.1
      simp only at h1
      omega
theorem ownL_turn {lay : Lay} {L1 L2 : List AF} {f f' : AF} {v' : Value} (hn : f'.name = f.name) (hv : v'.ownBlock = (lay f.name).2.ownBlock) : ∀ k ∈ ownL (setLay lay f.name ((lay f.name).1, v')) (L1 ++ f' :: L2), k ∈ ownL lay (L1 ++ f :: L2) := fun k hk => by
  obtain ⟨q, hq, hk⟩ := mem_ownL.1 hk
  by_cases h : q.name = f.name
  · rw [h] at hk
    unfold setLay at hk
    rw [if_pos rfl] at hk
    refine mem_ownL.2 ⟨f, by simp, ?_⟩
    simp only [ownF, hv] at hk ⊢
    exact hk
  · unfold setLay at hk
    rw [if_neg h] at hk
    refine mem_ownL.2 ⟨q, ?_, hk⟩
    rcases List.mem_append.1 hq with hq | hq
    · simp [hq]
    · rcases List.mem_cons.1 hq with rfl | hq
      · exact absurd hn h
      · simp [hq]
theorem okTurn {D : AD} (h : D.Ok) {L1 L2 : List AF} {f f' : AF} (hL : D.L = L1 ++ f :: L2) (hn : f'.name = f.name) (hs : f'.data.size ≤ f.data.size) (h0 : 0 ≤ f'.safe) (h1 : f'.safe ≤ f'.data.size) : ({ D with L := L1 ++ f' :: L2 } : AD).Ok := by
  have hu := h.used
  unfold AD.used at hu
  rw [hL, totL_app, totL] at hu
  refine ⟨h.size0, h.size1, ?_, ?_, ?_, fun q hq => ?_, fun q hq => ?_, h.armed0, h.armed1, h.steps0, h.steps1⟩
  · show ((totL (L1 ++ f' :: L2) : Nat) : Int) ≤ D.size
    rw [totL_app, totL]
    omega
  · have := h.many
    rw [hL] at this
    simpa using this
  · have := h.rising
    rw [hL] at this
    show Rising (L1 ++ f' :: L2)
    unfold Rising namesL at this ⊢
    simpa [hn] using this
  · rcases List.mem_append.1 hq with hq | hq
    · exact h.safe q (by rw [hL]; simp [hq])
    · rcases List.mem_cons.1 hq with rfl | hq
      · exact ⟨h0, h1⟩
      · exact h.safe q (by rw [hL]; simp [hq])
  · rcases List.mem_append.1 hq with hq | hq
    · exact h.named q (by rw [hL]; simp [hq])
    · rcases List.mem_cons.1 hq with rfl | hq
      · rw [hn]; exact h.named f (by rw [hL]; simp)
      · exact h.named q (by rw [hL]; simp [hq])
/-- Where the crash stands. -/
structure CrAt (w wr : World) (a m : Nat) (lay : Lay) (D : AD) (ks0 : List Int) (i : Nat) (ks : List Int) (P : List AF) (lay' : Lay) : Prop where
  dk : DK wr a m lay' { D with L := P ++ D.L.drop i }
  len : P.length = i
  rest : P ++ crashL (D.L.drop i) ks = crashL D.L ks0
  fr : Fr (a :: m :: ownL lay D.L) w wr
  sub : ∀ k ∈ ownL lay' (P ++ D.L.drop i), k ∈ ownL lay D.L
theorem drop_at {L : List AF} {i : Nat} (h : i < L.length) : L.drop i = L[i] :: L.drop (i + 1) := List.drop_eq_getElem_cons h
/-- All that a file holds is safe. -/
theorem cr_safe {w wr w2 : World} {a m : Nat} {lay lay' : Lay} {D : AD} {ks0 ks : List Int} {i : Nat} {P : List AF} (h : CrAt w wr a m lay D ks0 i ks P lay') (hi : i < D.L.length) (hs : ¬ (D.L[i]).safe < ((D.L[i]).data.size : Int))
    (hw : w2 = wr.setCell ⟨(lay' (D.L[i]).name).1, 1, none⟩ (.int .i64 (D.L[i]).data.size)) : CrAt w w2 a m lay D ks0 (i + 1) ks (P ++ [safeF D.L[i]]) lay' := by
  have hd := drop_at hi
  have hL : ({ D with L := P ++ D.L.drop i } : AD).L = P ++ D.L[i] :: D.L.drop (i + 1) := by show P ++ D.L.drop i = _; rw [hd]
  generalize D.L[i] = f at *
  have hm : f ∈ ({ D with L := P ++ D.L.drop i } : AD).L := by rw [hL]; simp
  have hat := h.dk.file f hm
  have hfb : (lay' f.name).1 ∈ ownF (lay' f.name) := by simp [ownF]
  have haf := h.dk.sep.afar f hm
  have hmf := h.dk.sep.mfar f hm
  have hself := h.dk.sep.self f hm
  have hfr : Fr [(lay' f.name).1] wr w2 := by subst hw; exact (Fr.refl _ _).setCell (.inl (by simp)) _
  have hsub := h.sub (lay' f.name).1 (mem_ownL.2 ⟨f, hm, hfb⟩)
  have hok := okTurn (f' := safeF f) h.dk.ok hL rfl (Nat.le_refl _) (by show (0 : Int) ≤ (f.data.size : Int); omega) (Int.le_refl _)
  have key := h.dk.file_turn (w' := w2) (D' := { D with L := P ++ safeF f :: D.L.drop (i + 1) }) (v' := (lay' f.name).2) (f' := safeF f) hL rfl rfl hok ?_ ?_ (fun k hk => .inl hk) (hfr.mono (fun x hx => by simp at hx; simp [hx, hfb]))
  · have e1 : setLay lay' f.name ((lay' f.name).1, (lay' f.name).2) = lay' := setLay_self _ _
    rw [e1] at key
    have e2 : P ++ safeF f :: D.L.drop (i + 1) = (P ++ [safeF f]) ++ D.L.drop (i + 1) := by simp
    refine ⟨by rw [← e2]; exact key.1, by simp [h.len], ?_, h.fr.trans hfr (fun x hx => by simp at hx; subst hx; exact .inl (by simp [hsub])), fun k hk => ?_⟩
    · rw [← h.rest, hd]
      show _ = P ++ crashL (f :: D.L.drop (i + 1)) ks
      rw [crashL, if_neg hs]
      simp
    · rw [← e2] at hk
      have h5 := ownL_turn (lay := lay') (f := f) (f' := safeF f) (v' := (lay' f.name).2) rfl rfl k (by rw [e1]; exact hk)
      rw [← hd] at h5
      exact h.sub k h5
  · rw [hfr.blk h.dk.head (by simp; intro e; exact haf (e ▸ hfb))]
    have e3 : ({ D with L := P ++ safeF f :: D.L.drop (i + 1) } : AD).used = ({ D with L := P ++ D.L.drop i } : AD).used := by
      unfold AD.used
      show ((totL (P ++ safeF f :: D.L.drop (i + 1)) : Nat) : Int) = (totL (P ++ D.L.drop i) : Nat)
      rw [hd, totL_app, totL_app]
      rfl
    unfold headD
    rw [e3]
  · refine ⟨?_, hat.2.step (fun k hk => hfr.block k (hat.2.lt k hk) (by simp; rintro rfl; exact hself hk))⟩
    subst hw
    exact blk_put hat.1 1 _ rfl
/-- A tail is cut. -/
theorem cr_cut {w wr w2 : World} {a m : Nat} {lay lay' : Lay} {D : AD} {ks0 ks : List Int} {i : Nat} {P : List AF} (h : CrAt w wr a m lay D ks0 i ks P lay') (hi : i < D.L.length) (hs : (D.L[i]).safe < ((D.L[i]).data.size : Int))
    {p : Option Addr} {n c : Nat} (hv : (lay' (D.L[i]).name).2 = .slice p n c) (t : Int) (ht : t = keepN ks ((D.L[i]).data.size - (D.L[i]).safe))
    (hfr : Fr [a, (lay' (D.L[i]).name).1] wr w2) (hha : w2.heap[a]? = some (.cells ((headD m { D with L := P ++ D.L.drop i }).setIfInBounds 2 (.int .i64 (({ D with L := P ++ D.L.drop i } : AD).used - ((D.L[i]).data.size - (D.L[i]).safe - t)))) 64 (0, 0)))
    (hhf : w2.heap[(lay' (D.L[i]).name).1]? = some (.cells #[.slice p ((D.L[i]).safe + t).toNat c, .int .i64 ((D.L[i]).safe + t)] 70 (0, 0))) :
    CrAt w w2 a m lay D ks0 (i + 1) ks.tail (P ++ [cutF D.L[i] t]) (setLay lay' (D.L[i]).name ((lay' (D.L[i]).name).1, .slice p ((D.L[i]).safe + t).toNat c)) := by
  have hd := drop_at hi
  have hL : ({ D with L := P ++ D.L.drop i } : AD).L = P ++ D.L[i] :: D.L.drop (i + 1) := by show P ++ D.L.drop i = _; rw [hd]
  generalize D.L[i] = f at *
  have hm : f ∈ ({ D with L := P ++ D.L.drop i } : AD).L := by rw [hL]; simp
  have hat := h.dk.file f hm
  have hsafe := h.dk.ok.safe f hm
  have hkn := keepN_b ks (t := (f.data.size : Int) - f.safe) (by omega)
  rw [← ht] at hkn
  have hfb : (lay' f.name).1 ∈ ownF (lay' f.name) := by simp [ownF]
  have haf := h.dk.sep.afar f hm
  have hself := h.dk.sep.self f hm
  have hsub := h.sub (lay' f.name).1 (mem_ownL.2 ⟨f, hm, hfb⟩)
  have hsz : (f.data.extract 0 (f.safe + t).toNat).size = (f.safe + t).toNat := by rw [ByteArray.size_extract]; omega
  have hok := okTurn (f' := cutF f t) h.dk.ok hL rfl (by show (f.data.extract 0 (f.safe + t).toNat).size ≤ _; omega) (by show 0 ≤ f.safe + t; omega) (by show f.safe + t ≤ ((f.data.extract 0 (f.safe + t).toNat).size : Int); omega)
  obtain ⟨hrow, hblk⟩ := hat.2.cut hv (f.safe + t).toNat (by omega)
  have key := h.dk.file_turn (w' := w2) (D' := { D with L := P ++ cutF f t :: D.L.drop (i + 1) }) (v' := .slice p (f.safe + t).toNat c) (f' := cutF f t) hL rfl rfl hok ?_ ?_ (fun k hk => .inl (by rw [← hblk]; exact hk)) (hfr.mono (fun x hx => by simp at hx; rcases hx with rfl | rfl; simp; exact List.mem_cons_of_mem _ hfb))
  · have e2 : P ++ cutF f t :: D.L.drop (i + 1) = (P ++ [cutF f t]) ++ D.L.drop (i + 1) := by simp
    refine ⟨by rw [← e2]; exact key.1, by simp [h.len], ?_, h.fr.trans hfr (fun x hx => by simp at hx; rcases hx with rfl | rfl; exact .inl (by simp); exact .inl (by simp [hsub])), fun k hk => ?_⟩
    · rw [← h.rest, hd]
      show _ = P ++ crashL (f :: D.L.drop (i + 1)) ks
      rw [crashL, if_pos hs, ht]
      simp
    · rw [← e2] at hk
      have h5 := ownL_turn (lay := lay') (f := f) (f' := cutF f t) (v' := .slice p (f.safe + t).toNat c) rfl hblk k hk
      rw [← hd] at h5
      exact h.sub k h5
  · rw [hha]
    have e3 : ({ D with L := P ++ cutF f t :: D.L.drop (i + 1) } : AD).used = ({ D with L := P ++ D.L.drop i } : AD).used - (f.data.size - f.safe - t) := by
      unfold AD.used
      show ((totL (P ++ cutF f t :: D.L.drop (i + 1)) : Nat) : Int) = (totL (P ++ D.L.drop i) : Nat) - ((f.data.size : Int) - f.safe - t)
      rw [hd, totL_app, totL_app, totL, totL]
      show ((totL P + ((f.data.extract 0 (f.safe + t).toNat).size + totL (D.L.drop (i + 1))) : Nat) : Int) = _
      rw [hsz]
      omega
    unfold headD
    rw [e3]
    rfl
  · refine ⟨hhf, hrow.step (fun k hk => ?_)⟩
    have hk2 : k ∈ (lay' f.name).2.ownBlock.toList := by rw [← hblk]; exact hk
    refine hfr.block k (hat.2.lt k hk2) ?_
    simp only [List.mem_cons, List.not_mem_nil, or_false, not_or]
    refine ⟨?_, ?_⟩
    · rintro rfl
      exact haf (by simp only [ownF, List.mem_cons]; exact .inr hk2)
    · rintro rfl
      exact hself hk2
end Go.Proofs.YtakhnkkcllfbjaaDoorX
end
section
namespace Go.Proofs.YtakhnkkcllfbjaaDoorX
open Go.RowKit Go.Proofs.YtakhnkkcllfbjaaDoorW.PrintWords Go.Proofs.YtakhnkkcllfbjaaDoorW.PrintLast Go.Proofs.YtakhnkkcllfbjaaDoorW.PrintMore
attribute [local go_sem] max2_int min2_int max_two min_two max_three min_three max_four min_four   -- for this text's walks alone
set_option linter.unusedVariables false
set_option linter.unusedSimpArgs false
/-- A list of numbers that stays while the disk's blocks S turn. -/
def Keeps (S : List Nat) (w : World) (A : Option Addr) (ks : List Int) : Prop := ∀ w', Fr S w w' → Kd.C (Kd.int .i64) w' A ks.length ks
theorem Keeps.step {S : List Nat} {w w2 : World} {A : Option Addr} {ks : List Int} (h : Keeps S w A ks) (hf : Fr S w w2) : Keeps S w2 A ks := fun w' hw' => h w' (hf.trans hw' (fun x hx => .inl hx))
theorem row_fr {S : List Nat} {w w2 : World} {base : Nat} {e : TypeId} {size : Nat} {v : Value} {n : Nat} {xs : List Value} (h : w.ownsRow base e size v n xs) (hf : Fr S w w2) (hS : ∀ x ∈ S, x < base) : w2.ownsRow base e size v n xs := by
  rcases h.2 with h2 | ⟨g, cap, cur, rfl, hb, hg, r⟩
  · exact ⟨h.1, .inl h2⟩
  · exact ⟨h.1, .inr ⟨g, cap, cur, rfl, hb, hf.blk hg (fun hx => by have := hS g hx; omega), r⟩⟩
theorem CrAt.drew {w wr : World} {a m : Nat} {lay lay' : Lay} {D : AD} {ks0 ks : List Int} {i : Nat} {P : List AF} (h : CrAt w wr a m lay D ks0 i ks P lay') : CrAt w wr.drew a m lay D ks0 i ks P lay' := ⟨h.dk.step (fun _ _ => rfl), h.len, h.rest, h.fr.drew, h.sub⟩
/-- The disk's blocks are where they were. -/
theorem CrAt.low {w wr : World} {a m : Nat} {lay lay' : Lay} {D : AD} {ks0 ks : List Int} {i : Nat} {P : List AF} (h : CrAt w wr a m lay D ks0 i ks P lay') {f : AF} (hf : f ∈ P ++ D.L.drop i) : (lay' f.name).1 ∈ a :: m :: ownL lay D.L := by
  simp only [List.mem_cons]
  exact .inr (.inr (h.sub _ (mem_ownL.2 ⟨f, hf, by simp [ownF]⟩)))
theorem cr_world {w wr : World} {a m : Nat} {lay lay' : Lay} {D : AD} {ks0 ks : List Int} {i : Nat} {P : List AF} (h : CrAt w wr a m lay D ks0 i ks P lay') {f : AF} (hf : f ∈ P ++ D.L.drop i) (p : Option Addr) (kk c : Nat) (U : Int) :
    Fr [a, (lay' f.name).1] wr (((wr.setCell ⟨(lay' f.name).1, 0, none⟩ (.slice p kk c)).setCell ⟨a, 2, none⟩ (.int .i64 U)).setCell ⟨(lay' f.name).1, 1, none⟩ (.int .i64 kk)) ∧
    (((wr.setCell ⟨(lay' f.name).1, 0, none⟩ (.slice p kk c)).setCell ⟨a, 2, none⟩ (.int .i64 U)).setCell ⟨(lay' f.name).1, 1, none⟩ (.int .i64 kk)).heap[a]? = some (.cells ((headD m { D with L := P ++ D.L.drop i }).setIfInBounds 2 (.int .i64 U)) 64 (0, 0)) ∧
    (((wr.setCell ⟨(lay' f.name).1, 0, none⟩ (.slice p kk c)).setCell ⟨a, 2, none⟩ (.int .i64 U)).setCell ⟨(lay' f.name).1, 1, none⟩ (.int .i64 kk)).heap[(lay' f.name).1]? = some (.cells #[.slice p kk c, .int .i64 kk] 70 (0, 0)) := by
  have hat := h.dk.file f hf
  have hne : a ≠ (lay' f.name).1 := fun e => h.dk.sep.afar f hf (by simp only [ownF, List.mem_cons]; exact .inl e)
  refine ⟨Fr.setCell (p := ⟨(lay' f.name).1, 1, none⟩) (Fr.setCell (p := ⟨a, 2, none⟩) (Fr.setCell (p := ⟨(lay' f.name).1, 0, none⟩) (Fr.refl _ _) (.inl (by simp)) _) (.inl (by simp)) _) (.inl (by simp)) _, ?_, ?_⟩
  · exact blk_far (blk_put (blk_far h.dk.head hne _) 2 _ rfl) hne _
  · exact blk_put (blk_far (blk_put hat.1 0 _ rfl) (fun e => hne e.symm) _) 1 _ rfl
theorem keep_head {S : List Nat} {w : World} {A : Option Addr} {k0 : Int} {kr : List Int} (h : Keeps S w A (k0 :: kr)) : ∃ ad, A = some ad ∧ w.cell? ad = some (.int .i64 k0) := by
  obtain ⟨ad, c, h1, h2, h3, h4⟩ := Kd.C_get (h w (Fr.refl _ _)) 0 0 (Int.le_refl _) (by simp)
  refine ⟨ad, h1, ?_⟩
  have h5 : c = [.int .i64 k0] := h3
  have h6 := h4 0 (.int .i64 k0) (by rw [h5]; rfl)
  have h7 : ad.add ((0 : Int).toNat * (Kd.int .i64).sz + 0) = ad := by simp [Addr.add]
  rw [h7] at h6
  exact h6
theorem keep_tail {S : List Nat} {w : World} {ad : Addr} {k0 : Int} {kr : List Int} {c : Nat} (h : Keeps S w (some ad) (k0 :: kr)) (hc : (k0 :: kr).length ≤ c) : Keeps S w (if c = 1 then some ad else some ⟨ad.block, ad.off + 1, none⟩) kr := fun w' hw' => by
  have h1 := Kd.C_drop (h w' hw') (m := 1) (by simp) hc
  have h2 : (if c = 1 then some ad else (some ad).map (·.add (1 * (Kd.int .i64).sz))) = (if c = 1 then some ad else some ⟨ad.block, ad.off + 1, none⟩) := by
    split
    · rfl
    · show some (ad.add 1) = _
      simp [Addr.add]
  rw [h2] at h1
  exact h1
theorem Crash_calls {w : World} {a m : Nat} {lay : Lay} {D : AD} (h : DK w a m lay D) (A : Option Addr) (c : Nat) (ks : List Int) (hk : Keeps (a :: m :: ownL lay D.L) w A ks) (hc : ks.length ≤ c) (hkl : ks.length ≤ 4611686018427387904) :
    Calls Tryd.prog 17 #[.pointer (some ⟨a, 0, none⟩), .slice A ks.length c] w fun e w' => e = .returned (.tuple #[]) ∧ Did w w' a m lay D (D.crash ks) := by
  obtain ⟨c0, c1, c2, c3, c4, c5⟩ := head_cells h.head
  have H := Aside0.mk h
  have HK := Aside0.mk hk
  have HC : Aside0 (ks.length ≤ c ∧ ks.length ≤ 4611686018427387904) := ⟨hc, hkl⟩
  have cK := keys_calls (some m) w
  have cS := sorted_calls h
  have hmany := Aside0.mk h.ok.many
  clear h c0 c2 c3 c4 c5 hk hc hkl
  go_enter Tryd.func17, Tryd.ntmps17
  go_wp2_with (first
    | (go_at_call 33; refine cK.mono ?_; rintro e w1 ⟨rfl, rfl⟩)
    | (go_at_call 32; refine cS.mono ?_; rintro e w2 ⟨v, rfl, hrow, hb⟩; obtain ⟨A0, cv, rfl⟩ := row_shape hrow; have HR := Aside0.mk hrow; have HB : Aside0 (Below w.heap.size w w2) := ⟨((Below.refl _ w).alloc (Nat.le_refl _) _).trans (hb.mono (Nat.le_succ _))⟩; clear hrow hb))
  go_loopg [1, 16] D.L.length (fun kq v1 v16 wr => ∃ (i : Nat) (P : List AF) (kr : List Int) (Ar : Option Addr) (cr : Nat) (lay' : Lay), v1 = .slice Ar kr.length cr ∧ v16 = .int .i64 i ∧ Aside0 (i + kq = D.L.length) ∧ Aside0 (CrAt w wr a m lay D ks i kr P lay') ∧ Aside0 (Keeps (a :: m :: ownL lay D.L) wr Ar kr) ∧ Aside0 (kr.length ≤ cr ∧ kr.length ≤ 4611686018427387904) ∧ Aside0 (wr.ownsRow w.heap.size 9 1 (.slice A0 D.L.length cv) D.L.length ((namesL D.L).map encStr)))
  case atStart =>
    have hfr := Fr.of_below HB.out (a :: m :: ownL lay D.L)
    exact ⟨0, [], ks, A, c, lay, rfl, rfl, ⟨by omega⟩, ⟨H.out.below HB.out, rfl, rfl, hfr, fun k hk => hk⟩, ⟨fun w' hw' => HK.out w' (hfr.trans hw' (fun x hx => .inl hx))⟩, HC, HR⟩
  case round =>
    obtain ⟨i, P, kr, Ar, cr, lay', rfl, rfl, h1, h2, h3, h4, h5⟩ := hrel
    by_cases hi : i < D.L.length
    · have e1 : decide ((i : Int) < (D.L.length : Int)) = true := decide_eq_true (by omega)
      have e2 : decide (i < D.L.length) = true := decide_eq_true hi
      have e5 : IntKind.i64.wrap ((i : Int) + 1) = ((i + 1 : Nat) : Int) := by have := hmany.out; rw [i64_w]; unfold wrap64; omega
      obtain ⟨g, rfl, hcn⟩ := row_cell h5.out (by simpa [namesL] using hi) (names_at hi)
      have hL : (P ++ D.L.drop i) = P ++ D.L[i] :: D.L.drop (i + 1) := by rw [drop_at hi]
      have cut := @cr_cut w wr
      have safe := @cr_safe w wr
      have H1 := h2.out.dk
      have hmem : D.L[i] ∈ P ++ D.L.drop i := by rw [hL]; exact List.mem_append_right _ (List.mem_cons_self ..)
      have hfe : ∃ f, D.L[i] = f := ⟨_, rfl⟩
      obtain ⟨f, hfe⟩ := hfe
      rw [hfe] at hcn hmem
      have c1r := (head_cells H1.head).2.1
      have c2r : wr.cell? ⟨a, 2, none⟩ = some (.int .i64 ({ D with L := P ++ D.L.drop i } : AD).used) := (head_cells H1.head).2.2.1
      have hf : findL f.name (P ++ D.L.drop i) = some f := findL_mem H1.ok.rising hmem
      have hat := H1.file f hmem
      obtain ⟨fp, fc, hv⟩ := hat.2.shape
      obtain ⟨d0, d1⟩ := file_cells hat
      rw [hv] at d0
      have hM : Aside0 (mapL lay' (P ++ D.L.drop i) f.name = some (some (lay' f.name).1)) := ⟨mapL_some hf⟩
      have MP := Aside0.mk H1.map
      have HN : Aside0 ((⟨f.name.toArray⟩ : ByteArray).size ≤ maxLen) := ⟨by have := H.out.ok.named _ (hfe ▸ List.getElem_mem hi); simp only [named, Bool.and_eq_true, decide_eq_true_eq] at this; show f.name.toArray.size ≤ _; simp only [List.size_toArray, maxLen]; omega⟩
      have hsafe := H1.ok.safe f hmem
      have husz : f.data.size ≤ 1048576 := by
        have h9 := mem_tot hmem; have h10 := H1.ok.used; have h11 := H1.ok.size1
        unfold AD.used at h10
        simp only at h10 h11
        omega
      have HI := Aside0.mk hi
      have HFE := Aside0.mk hfe
      have hub : 0 ≤ ({ D with L := P ++ D.L.drop i } : AD).used ∧ ({ D with L := P ++ D.L.drop i } : AD).used ≤ 1048576 := ⟨used_pos _, Int.le_trans H1.ok.used H1.ok.size1⟩
      have hne : a ≠ (lay' f.name).1 := fun e => H1.sep.afar f hmem (by simp only [ownF, List.mem_cons]; exact .inl e)
      have hne' : (lay' f.name).1 ≠ a := fun e => hne e.symm
      have hlow : Aside0 ((lay' f.name).1 ∈ a :: m :: ownL lay D.L) := ⟨h2.out.low hmem⟩
      have hcap : Aside0 (f.data.size ≤ fc ∧ fc ≤ maxLen) := ⟨(hat.2.cap hv).2⟩
      have HV := Aside0.mk hv
      have f1 := blk_frozen hat.1 1
      have f0 := blk_frozen hat.1 0
      have f2 := blk_frozen H1.head 2
      have ew : IntKind.i64.wrap ((f.data.size : Int) - f.safe) = (f.data.size : Int) - f.safe := by rw [i64_w]; unfold wrap64; omega
      obtain ⟨tl, htl⟩ : ∃ tl, (f.data.size : Int) - f.safe = tl := ⟨_, rfl⟩
      rw [show (IntKind.i64.wrap ((f.data.size : Int) - f.safe) = (f.data.size : Int) - f.safe) = (IntKind.i64.wrap ((f.data.size : Int) - f.safe) = tl) by rw [← htl]] at ew
      have HTL := Aside0.mk htl
      clear cut safe hL H1 hat hv hmem hf
      by_cases hs : f.safe < (f.data.size : Int)
      · have e6 : decide ((0 : Int) < tl) = true := decide_eq_true (by omega)
        have HS := Aside0.mk hs
        cases kr with
        | nil =>
          obtain ⟨kk, hkk⟩ : ∃ kk : Nat, f.safe = (kk : Int) := ⟨f.safe.toNat, by omega⟩
          have e8 : IntKind.i64.wrap f.safe = (kk : Int) := by rw [i64_w]; unfold wrap64; omega
          have e9 : kk ≤ fc := by have h9 := hcap.out; omega
          have e10 : IntKind.i64.wrap tl = tl := by rw [i64_w]; unfold wrap64; omega
          have e11 : IntKind.i64.wrap (({ D with L := P ++ D.L.drop i } : AD).used - tl) = ({ D with L := P ++ D.L.drop i } : AD).used - tl := by rw [i64_w]; unfold wrap64; omega
          have HKK := Aside0.mk hkk
          clear hs hsafe husz htl hkk hub
          go_upto_region 4 with (at_lookup; refine wp_look rfl MP.out _ _ rfl Tryd.underlying9 Tryd.underlying62 (Tryd.zeroValue65 wr) rfl ⟨f.name.toArray⟩ rfl HN.out ?_; simp only [List.toList_toArray]; rw [show mapL lay' ({ D with L := P ++ D.L.drop i } : AD).L f.name = _ from hM.out]; simp only [Option.getD, ptrVal])
          go_region
          go_upto_region 10 with fail
          go_region
          go_wp2
          go_roundg (D.L.length - (i + 1))
          case measure => have h9 := h1.out; have h10 := HI.out; omega
          case rel =>
            have hmem : f ∈ P ++ D.L.drop i := by rw [drop_at HI.out, HFE.out]; exact List.mem_append_right _ (List.mem_cons_self ..)
            obtain ⟨k1, k2, k3⟩ := cr_world h2.out hmem fp kk fc (({ D with L := P ++ D.L.drop i } : AD).used - tl)
            have hfr := (k1.mono (T := a :: m :: ownL lay D.L) (fun x hx => by simp at hx; rcases hx with rfl | rfl; simp; exact hlow.out)).drew.drew
            have htl := HTL.out
            have h11 := cr_cut h2.out HI.out (by rw [HFE.out]; have h9 := HS.out; omega) (by rw [HFE.out]; exact HV.out) 0 rfl (by rw [HFE.out]; exact k1.drew.drew) (by rw [HFE.out, htl, Int.sub_zero]; exact k2) (by rw [HFE.out, Int.add_zero, HKK.out]; exact k3)
            rw [HFE.out] at h11
            exact ⟨i + 1, P ++ [cutF f 0], [], Ar, cr, _, rfl, by simp, ⟨by have h9 := h1.out; have h10 := HI.out; omega⟩, ⟨h11⟩, ⟨h3.out.step hfr⟩, h4, ⟨row_fr h5.out hfr H.out.lt⟩⟩
        | cons k0 kr =>
          obtain ⟨ad, rfl, hc0⟩ := keep_head h3.out
          have hkt := keepN_b (k0 :: kr) (t := tl) (by omega)
          obtain ⟨t, ht⟩ : ∃ t, keepN (k0 :: kr) tl = t := ⟨_, rfl⟩
          have hmm : min (max k0 0) tl = t := ht
          obtain ⟨mx0, hmx⟩ : ∃ x, (if k0 < 0 then 0 else k0) = x := ⟨_, rfl⟩
          have hmm2 : (if tl < mx0 then tl else mx0) = t := by
            rw [← hmm, ← hmx]
            by_cases h7 : k0 < 0
            · simp only [if_pos h7]
              rw [Int.max_eq_right (by omega)]
              split <;> omega
            · simp only [if_neg h7]
              rw [Int.max_eq_left (by omega)]
              split <;> omega
          have hkt2 := keep_tail h3.out h4.out.1
          obtain ⟨A2, hA2⟩ : ∃ x, (if cr = 1 then some ad else some ⟨ad.block, ad.off + 1, none⟩) = x := ⟨_, rfl⟩
          rw [hA2] at hkt2
          have KT2 := Aside0.mk hkt2
          clear hkt2
          rw [ht] at hkt
          obtain ⟨kk, hkk⟩ : ∃ kk : Nat, f.safe + t = (kk : Int) := ⟨(f.safe + t).toNat, by omega⟩
          have e8 : IntKind.i64.wrap (f.safe + t) = (kk : Int) := by rw [i64_w]; unfold wrap64; omega
          have e9 : kk ≤ fc := by have h9 := hcap.out; omega
          have e10 : IntKind.i64.wrap (tl - t) = tl - t := by rw [i64_w]; unfold wrap64; omega
          have e11 : IntKind.i64.wrap (({ D with L := P ++ D.L.drop i } : AD).used - (tl - t)) = ({ D with L := P ++ D.L.drop i } : AD).used - (tl - t) := by rw [i64_w]; unfold wrap64; omega
          have HKK := Aside0.mk hkk
          have HKT := Aside0.mk ht
          clear hs hsafe husz htl hkk hub hkt hmm
          go_upto_region 4 with (at_lookup; refine wp_look rfl MP.out _ _ rfl Tryd.underlying9 Tryd.underlying62 (Tryd.zeroValue65 wr) rfl ⟨f.name.toArray⟩ rfl HN.out ?_; simp only [List.toList_toArray]; rw [show mapL lay' ({ D with L := P ++ D.L.drop i } : AD).L f.name = _ from hM.out]; simp only [Option.getD, ptrVal])
          go_region
          go_upto_region 10 with fail
          go_region
          go_wp2
          go_roundg (D.L.length - (i + 1))
          case measure => have h9 := h1.out; have h10 := HI.out; omega
          case rel =>
            have hmem : f ∈ P ++ D.L.drop i := by rw [drop_at HI.out, HFE.out]; exact List.mem_append_right _ (List.mem_cons_self ..)
            obtain ⟨k1, k2, k3⟩ := cr_world h2.out hmem fp kk fc (({ D with L := P ++ D.L.drop i } : AD).used - (tl - t))
            have hfr := (k1.mono (T := a :: m :: ownL lay D.L) (fun x hx => by simp at hx; rcases hx with rfl | rfl; simp; exact hlow.out)).drew.drew
            have htl := HTL.out
            have h11 := cr_cut h2.out HI.out (by rw [HFE.out]; have h9 := HS.out; omega) (by rw [HFE.out]; exact HV.out) t (by rw [HFE.out, htl]; exact HKT.out.symm) (by rw [HFE.out]; exact k1.drew.drew) (by rw [HFE.out, htl]; exact k2) (by rw [HFE.out, HKK.out]; exact k3)
            rw [HFE.out] at h11
            have h12 := h4.out
            simp only [List.length_cons] at h12
            exact ⟨i + 1, P ++ [cutF f t], kr, _, cr - 1, _, rfl, by simp, ⟨by have h9 := h1.out; have h10 := HI.out; omega⟩, ⟨h11⟩, ⟨KT2.out.step hfr⟩, ⟨by omega⟩, ⟨row_fr h5.out hfr H.out.lt⟩⟩
      · have e6 : decide ((0 : Int) < tl) = false := decide_eq_false (by omega)
        have HS := Aside0.mk hs
        clear hs hsafe husz htl hub
        go_upto_region 4 with (at_lookup; refine wp_look rfl MP.out _ _ rfl Tryd.underlying9 Tryd.underlying62 (Tryd.zeroValue65 wr) rfl ⟨f.name.toArray⟩ rfl HN.out ?_; simp only [List.toList_toArray]; rw [show mapL lay' ({ D with L := P ++ D.L.drop i } : AD).L f.name = _ from hM.out]; simp only [Option.getD, ptrVal])
        go_region
        go_wp2
        go_roundg (D.L.length - (i + 1))
        case measure => have h9 := h1.out; have h10 := HI.out; omega
        case rel =>
          have hfr : Fr (a :: m :: ownL lay D.L) wr (wr.drew.setCell ⟨(lay' f.name).1, 1, none⟩ (.int .i64 f.data.size)) := ((Fr.refl _ wr).drew).setCell (p := ⟨(lay' f.name).1, 1, none⟩) (.inl hlow.out) _
          refine ⟨i + 1, P ++ [safeF f], kr, Ar, cr, lay', rfl, by simp, ⟨by have h9 := h1.out; have h10 := HI.out; omega⟩, ⟨?_⟩, ⟨h3.out.step hfr⟩, h4, ⟨row_fr h5.out hfr H.out.lt⟩⟩
          have h11 := cr_safe (w2 := wr.drew.setCell ⟨(lay' f.name).1, 1, none⟩ (.int .i64 f.data.size)) h2.out.drew HI.out (by rw [HFE.out]; have h9 := HS.out; omega) (by rw [HFE.out])
          rw [HFE.out] at h11
          exact h11
    · have e1 : decide ((i : Int) < (D.L.length : Int)) = false := decide_eq_false (by omega)
      have e2 : decide (i < D.L.length) = false := decide_eq_false hi
      have hd : D.L.drop i = [] := List.drop_of_length_le (by omega)
      have H1 := h2.out.dk
      have f4 := blk_frozen H1.head 4
      have f3 := blk_frozen H1.head 3
      obtain ⟨d0, d1, d2, d3, d4, d5⟩ := head_cells H1.head
      have HD := Aside0.mk hd
      clear hi hd H1 d0 d1 d2 d5
      go_wp2
      go_end0
      refine ⟨rfl, lay', ?_, ?_, ?_⟩
      · have hrest := h2.out.rest
        have hdk := h2.out.dk
        rw [HD.out] at hrest hdk
        rw [List.append_nil] at hdk
        rw [crashL, List.append_nil] at hrest
        subst hrest
        refine hdk.turn (Fr.setCell (p := ⟨a, 3, none⟩) (Fr.setCell (p := ⟨a, 4, none⟩) (Fr.refl [a] wr) (.inl (by simp)) _) (.inl (by simp)) _) (blk_put (blk_put hdk.head 4 _ rfl) 3 _ rfl) rfl (H.out.ok.crash ks)
      · exact Fr.setCell (p := ⟨a, 3, none⟩) (Fr.setCell (p := ⟨a, 4, none⟩) h2.out.fr (.inl (by simp)) _) (.inl (by simp)) _
      · intro k hk
        have hrest := h2.out.rest
        have hsub := h2.out.sub
        rw [HD.out] at hrest hsub
        rw [crashL, List.append_nil] at hrest
        rw [List.append_nil] at hsub
        exact .inl (hsub k (by rw [hrest]; exact hk))
end Go.Proofs.YtakhnkkcllfbjaaDoorX
end
section
namespace Go.Proofs.YtakhnkkcllfbjaaDoorX
open Go.RowKit Go.Proofs.YtakhnkkcllfbjaaDoorW.PrintWords Go.Proofs.YtakhnkkcllfbjaaDoorW.PrintLast Go.Proofs.YtakhnkkcllfbjaaDoorW.PrintMore
set_option linter.unusedVariables false
set_option linter.unusedSimpArgs false
theorem none46_calls (w : World) : Calls Tryd.prog 46 #[.slice none 0 0, .func (.func 28) #[] #[]] w fun e w' => e = .returned (.int .i64 (-1)) ∧ w' = w := by
  go_enter Tryd.func46, Tryd.ntmps46
  go_wp2
  go_loopg [8] 1 (fun kq v8 wr => v8 = .int .i64 0 ∧ wr = w)
  case atStart => exact ⟨rfl, rfl⟩
  case round =>
    obtain ⟨rfl, rfl⟩ := hrel
    go_wp2
    go_ret
    exact ⟨rfl, rfl⟩
theorem none27_calls (w : World) : Calls Tryd.prog 27 #[.slice none 0 0, .func (.func 28) #[] #[]] w fun e w' => e = .returned (.bool false) ∧ w' = w := by
  have c := none46_calls w
  go_enter Tryd.func27, Tryd.ntmps27
  go_wp2_with (go_at_call 46; refine c.mono ?_; rintro e w1 ⟨rfl, rfl⟩)
  go_ret
  exact ⟨rfl, rfl⟩
/-- A disk that has just been made. -/
def Made (w w' : World) (a m : Nat) (lay : Lay) (D : AD) : Prop := DK w' a m lay D ∧ Below w.heap.size w w' ∧ ∀ k ∈ a :: m :: ownL lay D.L, w.heap.size ≤ k
theorem fresh_ok {size : Int} (h0 : 0 ≤ size) (h1 : size ≤ 1048576) : (AD.fresh size []).Ok :=
  ⟨h0, h1, h0, by show 0 ≤ 64; omega, List.Pairwise.nil, fun _ h => (by cases h), fun _ h => (by cases h), by show (-1 : Int) ≤ -1; omega, by show (-1 : Int) ≤ _; omega, by show _ ≤ (0 : Int); omega, by show (0 : Int) ≤ _; omega⟩
theorem New_nil (size : Int) (h0 : 0 ≤ size) (h1 : size ≤ 1048576) (w : World) : Calls Tryd.prog 9 #[.int .i64 size, .slice none 0 0] w fun e w' => ∃ a m lay, e = .returned (.tuple #[.pointer (some ⟨a, 0, none⟩), .int .i64 0]) ∧ Made w w' a m lay (AD.fresh size []) := by
  have c27 := none27_calls w
  have e1 : decide (size < 0) = false := decide_eq_false (by omega)
  have e2 : decide (1048576 < size) = false := decide_eq_false (by omega)
  have OK := Aside0.mk (fresh_ok h0 h1)
  clear h0 h1
  have hmm := @run_makeMap Tryd.prog
  go_enter Tryd.func9, Tryd.ntmps9
  go_wp2_with (go_at_call 27; refine c27.mono ?_; rintro e w1 ⟨rfl, rfl⟩)
  generalize hW : ((w1.alloc (.map #[] 0)).alloc (.cells #[.int .i64 size, .map (some w1.heap.size), .int .i64 0, .int .i64 (-1), .bool false, .int .i64 0] 64)) = W
  have HW := Aside0.mk hW
  clear hW
  go_loopg [29] 1 (fun kq v29 wr => v29 = .int .i64 0 ∧ wr = W)
  case atStart => exact ⟨rfl, rfl⟩
  case round =>
    obtain ⟨rfl, rfl⟩ := hrel
    go_wp2
    go_loopg [59] 1 (fun kq v59 wr2 => v59 = .int .i64 0 ∧ wr2 = wr)
    case atStart => exact ⟨rfl, rfl⟩
    case round =>
      obtain ⟨rfl, rfl⟩ := hrel
      go_wp2
      go_ret2
      refine ⟨w1.heap.size + 1, w1.heap.size, fun _ => (0, .slice none 0 0), rfl, ⟨?_, ?_, ?_, ⟨by omega, fun f hf => (by cases hf), fun f hf => (by cases hf), fun f hf => (by cases hf), fun f hf => (by cases hf)⟩, OK.out⟩, ?_, ?_⟩
      · rw [← HW.out]
        have h9 := blk_new (w1.alloc (.map #[] 0)) (.cells #[.int .i64 size, .map (some w1.heap.size), .int .i64 0, .int .i64 (-1), .bool false, .int .i64 0] 64)
        rw [show (w1.alloc (.map #[] 0)).heap.size = w1.heap.size + 1 by simp] at h9
        exact h9
      · rw [← HW.out]
        exact (MapP.made Tryd.prog 9 w1).step (Below.heap_alloc _ _ _ (by simp))
      · exact fun f hf => by cases hf
      · rw [← HW.out]
        exact below_alloc (below_alloc (Below.refl _ _) _) _
      · intro k hk
        simp only [List.mem_cons] at hk
        rcases hk with rfl | rfl | hk
        · omega
        · exact Nat.le_refl _
        · cases hk
end Go.Proofs.YtakhnkkcllfbjaaDoorX
end
section
namespace Go.Proofs.YtakhnkkcllfbjaaDoorX
open Go.RowKit Go.Proofs.YtakhnkkcllfbjaaDoorW.PrintWords Go.Proofs.YtakhnkkcllfbjaaDoorW.PrintLast Go.Proofs.YtakhnkkcllfbjaaDoorW.PrintMore
open Go.Proofs.YtakhnkkcllfbjaaDoor.PA (S37 k37 z37 k37_mkM)
set_option linter.unusedVariables false
set_option linter.unusedSimpArgs false
/-- A disk at a that was made since w0 (from block B on). -/
def Mine (B : Nat) (w0 w : World) (a : Nat) (S : List Nat) (D : AD) : Prop := ∃ m lay, DK w a m lay D ∧ S = a :: m :: ownL lay D.L ∧ Below B w0 w ∧ B ≤ w.heap.size ∧ ∀ k ∈ S, B ≤ k
section
variable {B : Nat} {w0 w : World} {a : Nat} {S : List Nat} {D : AD}
theorem Mine.below (h : Mine B w0 w a S D) : Below B w0 w := by obtain ⟨m, lay, h1, h2, h3, h4, h5⟩ := h; exact h3
theorem Mine.lt (h : Mine B w0 w a S D) : ∀ k ∈ S, k < w.heap.size := by
  obtain ⟨m, lay, h1, rfl, h3, h4, h5⟩ := h
  exact h1.lt
theorem Mine.ok (h : Mine B w0 w a S D) : D.Ok := by obtain ⟨m, lay, h1, h2, h3, h4, h5⟩ := h; exact h1.ok
theorem Mine.on {w' : World} (h : Mine B w0 w a S D) (hb : Below w.heap.size w w') : Mine B w0 w' a S D := by
  obtain ⟨m, lay, h1, rfl, h3, h4, h5⟩ := h
  exact ⟨m, lay, h1.below hb, rfl, h3.trans (hb.mono h4), Nat.le_trans h4 hb.size, h5⟩
theorem Mine.drewN (h : Mine B w0 w a S D) (n : Nat) : Mine B w0 (w.drewN n) a S D := by
  obtain ⟨m, lay, h1, rfl, h3, h4, h5⟩ := h
  exact ⟨m, lay, h1.step (fun _ _ => rfl), rfl, pw_below_drewN h3 n, h4, h5⟩
theorem Mine.did {w' : World} {D' : AD} {m : Nat} {lay : Lay} (h3 : Below B w0 w) (h4 : B ≤ w.heap.size) (h5 : ∀ k ∈ a :: m :: ownL lay D.L, B ≤ k) (hd : Did w w' a m lay D D') : ∃ S', Mine B w0 w' a S' D' ∧ Fr (a :: m :: ownL lay D.L) w w' := by
  obtain ⟨lay', k1, k2, k3⟩ := hd
  refine ⟨_, ⟨m, lay', k1, rfl, h3.trans (k2.below_base h5 h4), Nat.le_trans h4 k2.size, fun k hk => ?_⟩, k2⟩
  simp only [List.mem_cons] at hk
  rcases hk with rfl | rfl | hk
  · exact h5 _ (by simp)
  · exact h5 _ (by simp)
  · rcases k3 k hk with h | h
    · exact h5 k (by simp [h])
    · exact Nat.le_trans h4 h
theorem M_append (h : Mine B w0 w a S D) (s y : ByteArray) (hs : s.size ≤ maxLen) : Calls Tryd.prog 10 #[.pointer (some ⟨a, 0, none⟩), .string s, .string y] w fun e w' => e = .returned (.int .i64 (D.append s.data.toList y).2) ∧ ∃ S', Mine B w0 w' a S' (D.append s.data.toList y).1 ∧ Fr S w w' := by
  obtain ⟨m, lay, h1, rfl, h3, h4, h5⟩ := h
  exact (Append_calls h1 s y hs).mono (fun e w' hh => ⟨hh.1, Mine.did h3 h4 h5 hh.2⟩)
theorem M_sync (h : Mine B w0 w a S D) (s : ByteArray) (hs : s.size ≤ maxLen) : Calls Tryd.prog 11 #[.pointer (some ⟨a, 0, none⟩), .string s] w fun e w' => e = .returned (.int .i64 (D.sync s.data.toList).2) ∧ ∃ S', Mine B w0 w' a S' (D.sync s.data.toList).1 ∧ Fr S w w' := by
  obtain ⟨m, lay, h1, rfl, h3, h4, h5⟩ := h
  refine (Sync_calls h1 s hs).mono (fun e w' hh => ⟨hh.1, Mine.did h3 h4 h5 ⟨lay, hh.2.1, hh.2.2, fun k hk => .inl ?_⟩⟩)
  obtain ⟨f, hf, hk⟩ := mem_ownL.1 hk
  have h9 : hasL f.name D.L = true := by
    have h10 : hasL f.name (D.sync s.data.toList).1.L = true := mem_names.1 (List.mem_map_of_mem hf)
    unfold AD.sync at h10
    split at h10
    · exact h10
    · split at h10
      · exact h10
      · rw [hasL_upd (g := safeF) (fun _ => rfl)] at h10
        exact h10
  obtain ⟨g, hg, e⟩ := List.mem_map.1 (mem_names.2 h9)
  exact mem_ownL.2 ⟨g, hg, by rw [e]; exact hk⟩
theorem M_rename (h : Mine B w0 w a S D) (s t : ByteArray) (hs : s.size ≤ maxLen) (ht : t.size ≤ maxLen) : Calls Tryd.prog 16 #[.pointer (some ⟨a, 0, none⟩), .string s, .string t] w fun e w' => e = .returned (.int .i64 (D.rename s.data.toList t.data.toList).2) ∧ ∃ S', Mine B w0 w' a S' (D.rename s.data.toList t.data.toList).1 ∧ Fr S w w' := by
  obtain ⟨m, lay, h1, rfl, h3, h4, h5⟩ := h
  exact (Rename_calls h1 s t hs ht).mono (fun e w' hh => ⟨hh.1, Mine.did h3 h4 h5 hh.2⟩)
theorem M_remove (h : Mine B w0 w a S D) (s : ByteArray) (hs : s.size ≤ maxLen) : Calls Tryd.prog 36 #[.pointer (some ⟨a, 0, none⟩), .string s] w fun e w' => e = .returned (.int .i64 (D.remove s.data.toList).2) ∧ ∃ S', Mine B w0 w' a S' (D.remove s.data.toList).1 ∧ Fr S w w' := by
  obtain ⟨m, lay, h1, rfl, h3, h4, h5⟩ := h
  exact (Remove_calls h1 s hs).mono (fun e w' hh => ⟨hh.1, Mine.did h3 h4 h5 hh.2⟩)
theorem arm_L (D : AD) (n : Int) : (D.arm n).1.L = D.L := by
  unfold AD.arm
  split
  · rfl
  · split <;> rfl
theorem M_arm (h : Mine B w0 w a S D) (n : Int) (hn : n ≤ 9223372036854775807) : Calls Tryd.prog 15 #[.pointer (some ⟨a, 0, none⟩), .int .i64 n] w fun e w' => e = .returned (.int .i64 (D.arm n).2) ∧ ∃ S', Mine B w0 w' a S' (D.arm n).1 ∧ Fr S w w' := by
  obtain ⟨m, lay, h1, rfl, h3, h4, h5⟩ := h
  exact (Arm_calls h1 n hn).mono (fun e w' hh => ⟨hh.1, Mine.did h3 h4 h5 (Did.same hh.2.1 (arm_L D n) (hh.2.2.mono (fun x hx => by simp at hx; simp [hx])))⟩)
theorem M_crash (h : Mine B w0 w a S D) (A : Option Addr) (c : Nat) (ks : List Int) (hk : Keeps S w A ks) (hc : ks.length ≤ c) (hkl : ks.length ≤ 4611686018427387904) : Calls Tryd.prog 17 #[.pointer (some ⟨a, 0, none⟩), .slice A ks.length c] w fun e w' => e = .returned (.tuple #[]) ∧ ∃ S', Mine B w0 w' a S' (D.crash ks) ∧ Fr S w w' := by
  obtain ⟨m, lay, h1, rfl, h3, h4, h5⟩ := h
  exact (Crash_calls h1 A c ks hk hc hkl).mono (fun e w' hh => ⟨hh.1, Mine.did h3 h4 h5 hh.2⟩)
theorem M_free (h : Mine B w0 w a S D) : Calls Tryd.prog 12 #[.pointer (some ⟨a, 0, none⟩)] w fun e w' => e = .returned (.int .i64 D.free) ∧ Mine B w0 w' a S D ∧ Below w.heap.size w w' := by
  obtain ⟨m, lay, h1, h2⟩ := h
  exact (Free_calls h1).mono (fun e w' hh => by obtain ⟨rfl, n, rfl⟩ := hh; exact ⟨rfl, Mine.drewN ⟨m, lay, h1, h2⟩ n, pw_below_drewN (Below.refl _ _) n⟩)
theorem M_steps (h : Mine B w0 w a S D) : Calls Tryd.prog 24 #[.pointer (some ⟨a, 0, none⟩)] w fun e w' => e = .returned (.int .i64 D.steps) ∧ Mine B w0 w' a S D ∧ Below w.heap.size w w' := by
  obtain ⟨m, lay, h1, h2⟩ := h
  exact (Steps_calls h1).mono (fun e w' hh => by obtain ⟨rfl, n, rfl⟩ := hh; exact ⟨rfl, Mine.drewN ⟨m, lay, h1, h2⟩ n, pw_below_drewN (Below.refl _ _) n⟩)
theorem M_down (h : Mine B w0 w a S D) : Calls Tryd.prog 21 #[.pointer (some ⟨a, 0, none⟩)] w fun e w' => e = .returned (.bool D.down) ∧ Mine B w0 w' a S D ∧ Below w.heap.size w w' := by
  obtain ⟨m, lay, h1, h2⟩ := h
  exact (Down_calls h1).mono (fun e w' hh => by obtain ⟨rfl, n, rfl⟩ := hh; exact ⟨rfl, Mine.drewN ⟨m, lay, h1, h2⟩ n, pw_below_drewN (Below.refl _ _) n⟩)
theorem M_files (h : Mine B w0 w a S D) : Calls Tryd.prog 13 #[.pointer (some ⟨a, 0, none⟩)] w fun e w' => ∃ v, e = .returned v ∧ Kd.R k37 37 w' w.heap.size (fun _ => True) v (filesT D.L) ∧ Mine B w0 w' a S D ∧ Below w.heap.size w w' := by
  have hh := h
  obtain ⟨m, lay, h1, h2⟩ := h
  exact (Files_calls h1).mono (fun e w' ⟨v, k1, k2, k3⟩ => ⟨v, k1, k2, hh.on k3, k3⟩)
theorem M_read (h : Mine B w0 w a S D) (s : ByteArray) (hs : s.size ≤ maxLen) : Calls Tryd.prog 14 #[.pointer (some ⟨a, 0, none⟩), .string s] w fun e w' => e = .returned (.tuple #[.string (D.read s.data.toList).1, .int .i64 (D.read s.data.toList).2]) ∧ Mine B w0 w' a S D ∧ Below w.heap.size w w' := by
  have hh := h
  obtain ⟨m, lay, h1, h2⟩ := h
  exact (Read_calls h1 s hs).mono (fun e w' k => ⟨k.1, hh.on k.2, k.2⟩)
theorem M_new (size : Int) (h0 : 0 ≤ size) (h1 : size ≤ 1048576) (h : Below B w0 w) (hB : B ≤ w.heap.size) : Calls Tryd.prog 9 #[.int .i64 size, .slice none 0 0] w fun e w' => ∃ a S, e = .returned (.tuple #[.pointer (some ⟨a, 0, none⟩), .int .i64 0]) ∧ Mine B w0 w' a S (AD.fresh size []) ∧ Below w.heap.size w w' :=
  (New_nil size h0 h1 w).mono (fun e w' ⟨a, m, lay, k1, k2, k3, k4⟩ => ⟨a, _, k1, ⟨m, lay, k2, rfl, h.trans (k3.mono hB), Nat.le_trans hB k3.size, fun k hk => Nat.le_trans hB (k4 k hk)⟩, k3⟩)
end
end Go.Proofs.YtakhnkkcllfbjaaDoorX
end
section
namespace Go.Proofs.YtakhnkkcllfbjaaDoorX
open Go.RowKit Go.Proofs.YtakhnkkcllfbjaaDoorW.PrintWords Go.Proofs.YtakhnkkcllfbjaaDoorW.PrintLast Go.Proofs.YtakhnkkcllfbjaaDoorW.PrintMore
open Go.Proofs.YtakhnkkcllfbjaaDoor.PA (S37 k37 z37 k37_mkM eqA37 k37_open)
attribute [local go_sem high] eqA37
set_option linter.unusedVariables false
set_option linter.unusedSimpArgs false
def aw (data : ByteArray) (safe steps armed : Int) : AD := ⟨10, armed, false, steps, [⟨[97], data, safe⟩]⟩
theorem aw1 : (AD.fresh 10 []).append [97] ⟨#[120, 121, 122]⟩ = (aw ⟨#[120, 121, 122]⟩ 0 1 (-1), 0) := by kernel_rfl
theorem aw2 : (aw ⟨#[120, 121, 122]⟩ 0 1 (-1)).sync [97] = (aw ⟨#[120, 121, 122]⟩ 3 2 (-1), 0) := by kernel_rfl
theorem aw3 : (aw ⟨#[120, 121, 122]⟩ 3 2 (-1)).append [97] ⟨#[49, 50, 51]⟩ = (aw ⟨#[120, 121, 122, 49, 50, 51]⟩ 3 3 (-1), 0) := by kernel_rfl
theorem aw4 : (aw ⟨#[120, 121, 122, 49, 50, 51]⟩ 3 3 (-1)).crash [2] = aw ⟨#[120, 121, 122, 49, 50]⟩ 5 3 (-1) := by kernel_rfl
theorem aw5 : (aw ⟨#[120, 121, 122, 49, 50]⟩ 5 3 (-1)).sync [98] = (aw ⟨#[120, 121, 122, 49, 50]⟩ 5 3 (-1), 41) := by kernel_rfl
theorem one_keeps {S : List Nat} {w : World} (hS : ∀ k ∈ S, k < w.heap.size) (k0 : Int) : Keeps S (w.alloc (.cells #[.int .i64 k0] 3)) (some ⟨w.heap.size, 0, none⟩) [k0] := fun w' hw' => by
  have hb := hw'.blk (blk_new w (.cells #[.int .i64 k0] 3)) (fun hk => by have := hS _ hk; omega)
  refine ⟨rfl, (by show 1 ≤ _; omega), fun _ => ⟨_, rfl, fun j p hj => ?_⟩⟩
  have hj0 : j = 0 := by
    have := (List.getElem?_eq_some_iff.1 hj).1
    simp at this
    exact this
  subst hj0
  simp at hj
  subst hj
  refine ⟨[.int .i64 k0], rfl, rfl, fun i u hi => ?_⟩
  have hi0 : i = 0 := by
    have := (List.getElem?_eq_some_iff.1 hi).1
    simp at this
    exact this
  subst hi0
  simp at hi
  subst hi
  show w'.cell? ((⟨w.heap.size, 0, none⟩ : Addr).add 0) = _
  rw [show (⟨w.heap.size, 0, none⟩ : Addr).add 0 = ⟨w.heap.size, 0, none⟩ by simp [Addr.add], blk_cell hb]
  rfl
theorem one_file {w : World} {base : Nat} {ok : Nat → Prop} {v : Value} {x : S37} (h : Kd.R k37 37 w base ok v [x]) : ∃ g c cur, v = .slice (some ⟨g, 0, none⟩) 1 c ∧ base ≤ g ∧ w.heap[g]? = some (.cells cur 37 (0, 0)) ∧ cur[0]? = some (.string x.f0) ∧ cur[1]? = some (.string x.f1) ∧ cur[2]? = some (.int .i64 x.f2) := by
  obtain ⟨h0, inner, hown, hr⟩ := h
  have h1 := hr.2 0 x rfl
  have h2 := Go.Proofs.YtakhnkkcllfbjaaDoor.PA.k37_openM h1
  rcases hown.2 with ⟨_, h3⟩ | ⟨g, cap, cur, rfl, hb, hg, k1, k2, k3, k4⟩
  · cases h3
  · refine ⟨g, cap, cur, rfl, hb, hg, ?_⟩
    have e1 : cur.toList.take 3 = inner := k4
    have e2 : inner.take 3 = [.string x.f0, .string x.f1, .int .i64 x.f2] := by
      have h9 := h2
      rw [Nat.zero_mul, List.drop_zero] at h9
      exact h9
    rw [← e1, List.take_take] at e2
    have get : ∀ j u, j < 3 → [Value.string x.f0, .string x.f1, .int .i64 x.f2][j]? = some u → cur[j]? = some u := fun j u hj hu => by
      rw [← e2, List.getElem?_take, if_pos (by omega), Array.getElem?_toList] at hu
      exact hu
    exact ⟨get 0 _ (by omega) rfl, get 1 _ (by omega) rfl, get 2 _ (by omega) rfl⟩
theorem awake_cells {w5 w6 w7 w8 : World} {S : List Nat} {g : Nat} {cur : Array Value} {x : S37} (h : w5.heap.size ≤ g ∧ w6.heap[g]? = some (.cells cur 37 (0, 0)) ∧ cur[0]? = some (.string x.f0) ∧ cur[1]? = some (.string x.f1) ∧ cur[2]? = some (.int .i64 x.f2)) (hb : Below w6.heap.size w6 w7) (hf : Fr S w7 w8) (hS : ∀ k ∈ S, k < w5.heap.size) :
    w8.cell? ⟨g, 0, none⟩ = some (.string x.f0) ∧ w8.cell? ⟨g, 1, none⟩ = some (.string x.f1) ∧ w8.cell? ⟨g, 2, none⟩ = some (.int .i64 x.f2) := by
  obtain ⟨h1, h2, h3, h4, h5⟩ := h
  have h6 := hf.blk (blk_below h2 hb) (fun hk => by have := hS g hk; omega)
  exact ⟨by rw [blk_cell h6, h3], by rw [blk_cell h6, h4], by rw [blk_cell h6, h5]⟩
theorem awake_calls (w : World) : Calls Tryd.prog 8 #[] w fun e w' => e = .returned (.bool true) ∧ Below w.heap.size w w' := by
  have c0 := M_new (B := w.heap.size) (w0 := w) (w := w) 10 (by decide) (by decide) (Below.refl _ _) (Nat.le_refl _)
  have c1 : ∀ {w1 a S}, Mine w.heap.size w w1 a S (AD.fresh 10 []) → Calls Tryd.prog 10 #[.pointer (some ⟨a, 0, none⟩), .string ⟨#[97]⟩, .string ⟨#[120, 121, 122]⟩] w1 fun e w' => e = .returned (.int .i64 0) ∧ ∃ S', Mine w.heap.size w w' a S' (aw ⟨#[120, 121, 122]⟩ 0 1 (-1)) ∧ Fr S w1 w' := fun h => by
    have := M_append h ⟨#[97]⟩ ⟨#[120, 121, 122]⟩ (by decide)
    rw [show (AD.fresh 10 []).append (⟨#[97]⟩ : ByteArray).data.toList ⟨#[120, 121, 122]⟩ = _ from aw1] at this
    exact this
  have c2 : ∀ {w1 a S}, Mine w.heap.size w w1 a S (aw ⟨#[120, 121, 122]⟩ 0 1 (-1)) → Calls Tryd.prog 11 #[.pointer (some ⟨a, 0, none⟩), .string ⟨#[97]⟩] w1 fun e w' => e = .returned (.int .i64 0) ∧ ∃ S', Mine w.heap.size w w' a S' (aw ⟨#[120, 121, 122]⟩ 3 2 (-1)) ∧ Fr S w1 w' := fun h => by
    have := M_sync h ⟨#[97]⟩ (by decide)
    rw [show (aw ⟨#[120, 121, 122]⟩ 0 1 (-1)).sync (⟨#[97]⟩ : ByteArray).data.toList = _ from aw2] at this
    exact this
  have c3 : ∀ {w1 a S}, Mine w.heap.size w w1 a S (aw ⟨#[120, 121, 122]⟩ 3 2 (-1)) → Calls Tryd.prog 10 #[.pointer (some ⟨a, 0, none⟩), .string ⟨#[97]⟩, .string ⟨#[49, 50, 51]⟩] w1 fun e w' => e = .returned (.int .i64 0) ∧ ∃ S', Mine w.heap.size w w' a S' (aw ⟨#[120, 121, 122, 49, 50, 51]⟩ 3 3 (-1)) ∧ Fr S w1 w' := fun h => by
    have := M_append h ⟨#[97]⟩ ⟨#[49, 50, 51]⟩ (by decide)
    rw [show (aw ⟨#[120, 121, 122]⟩ 3 2 (-1)).append (⟨#[97]⟩ : ByteArray).data.toList ⟨#[49, 50, 51]⟩ = _ from aw3] at this
    exact this
  have c4 : ∀ {w1 a S}, Mine w.heap.size w w1 a S (aw ⟨#[120, 121, 122, 49, 50, 51]⟩ 3 3 (-1)) → Calls Tryd.prog 17 #[.pointer (some ⟨a, 0, none⟩), .slice (some ⟨w1.heap.size, 0, none⟩) 1 1] (w1.alloc (.cells #[.int .i64 2] 3)) fun e w' => e = .returned (.tuple #[]) ∧ ∃ S', Mine w.heap.size w w' a S' (aw ⟨#[120, 121, 122, 49, 50]⟩ 5 3 (-1)) ∧ Fr S (w1.alloc (.cells #[.int .i64 2] 3)) w' := fun h => by
    have := M_crash (h.on (below_alloc (Below.refl _ _) _)) _ 1 [2] (one_keeps h.lt 2) (by decide) (by decide)
    rw [aw4] at this
    exact this
  have c5 : ∀ {w1 a S}, Mine w.heap.size w w1 a S (aw ⟨#[120, 121, 122, 49, 50]⟩ 5 3 (-1)) → Calls Tryd.prog 11 #[.pointer (some ⟨a, 0, none⟩), .string ⟨#[98]⟩] w1 fun e w' => e = .returned (.int .i64 41) ∧ ∃ S', Mine w.heap.size w w' a S' (aw ⟨#[120, 121, 122, 49, 50]⟩ 5 3 (-1)) ∧ Fr S w1 w' := fun h => by
    have := M_sync h ⟨#[98]⟩ (by decide)
    rw [show (aw ⟨#[120, 121, 122, 49, 50]⟩ 5 3 (-1)).sync (⟨#[98]⟩ : ByteArray).data.toList = _ from aw5] at this
    exact this
  have C1 := Aside0.mk @c1
  have C2 := Aside0.mk @c2
  have C3 := Aside0.mk @c3
  have C4 := Aside0.mk @c4
  have C5 := Aside0.mk @c5
  clear c1 c2 c3 c4 c5
  go_enter Tryd.func8, Tryd.ntmps8
  go_upto_region 10 with (first
    | (go_at_call 9; refine c0.mono ?_; rintro e w1 ⟨a, S1, rfl, hm, -⟩; have M1 := Aside0.mk hm; clear hm)
    | (go_at_call 10; refine (C1.out M1.out).mono ?_; rintro e w2 ⟨rfl, S2, hm, -⟩; have M2 := Aside0.mk hm; clear hm M1)
    | (go_at_call 11; refine (C2.out M2.out).mono ?_; rintro e w3 ⟨rfl, S3, hm, -⟩; have M3 := Aside0.mk hm; clear hm M2)
    | (go_at_call 10; refine (C3.out M3.out).mono ?_; rintro e w4 ⟨rfl, S4, hm, -⟩; have M4 := Aside0.mk hm; clear hm M3)
    | (go_at_call 17; refine (C4.out M4.out).mono ?_; rintro e w5 ⟨rfl, S5, hm, -⟩; have M5 := Aside0.mk hm; clear hm M4; have L5 := Aside0.mk M5.out.lt; have c13 := M_files M5.out)
    | (go_at_call 13; refine c13.mono ?_; rintro e w6 ⟨v, rfl, hr, hm, -⟩; have M6 := Aside0.mk hm; have R6 := Aside0.mk hr; clear hm hr M5; have c24 := M_steps M6.out)
    | (go_at_call 24; refine c24.mono ?_; rintro e w7 ⟨rfl, hm, hb⟩; have M7 := Aside0.mk hm; have B7 := Aside0.mk hb; clear hm hb))
  obtain ⟨g, c, cur, rfl, hg, hb6, k0, k1, k2⟩ := one_file R6.out
  have K := Aside0.mk (And.intro hg (And.intro hb6 (And.intro k0 (And.intro k1 k2))))
  clear hg hb6 k0 k1 k2
  have st : (aw ⟨#[120, 121, 122, 49, 50]⟩ 5 3 (-1)).steps = 3 := rfl
  go_wp2_with (go_at_call 11; refine (C5.out M7.out).mono ?_; rintro e w8 ⟨rfl, S8, hm, hf8⟩; obtain ⟨q0, q1, q2⟩ := awake_cells K.out B7.out hf8 L5.out; replace q0 : w8.cell? ⟨g, 0, none⟩ = some (.string ⟨#[97]⟩) := q0; replace q1 : w8.cell? ⟨g, 1, none⟩ = some (.string ⟨#[120, 121, 122, 49, 50]⟩) := q1; replace q2 : w8.cell? ⟨g, 2, none⟩ = some (.int .i64 5) := q2; have M8 := Aside0.mk hm; clear hm hf8)
  go_ret
  exact ⟨rfl, M8.out.below⟩
end Go.Proofs.YtakhnkkcllfbjaaDoorX
end
