/- Read, Append of a disk: what each call answers and does. -/
import Derived.Test.YtakhnkkcllfbjaaDoorE7
namespace Go.Proofs.YtakhnkkcllfbjaaDoorX
open Go.RowKit Go.Proofs.YtakhnkkcllfbjaaDoorW.PrintWords Go.Proofs.YtakhnkkcllfbjaaDoorW.PrintLast Go.Proofs.YtakhnkkcllfbjaaDoorW.PrintMore
set_option linter.unusedVariables false
set_option linter.unusedSimpArgs false
theorem Read_calls {w : World} {a m : Nat} {lay : Lay} {D : AD} (h : DK w a m lay D) (s : ByteArray) (hs : s.size ≤ maxLen) :
    Calls Tryd.prog 14 #[.pointer (some ⟨a, 0, none⟩), .string s] w fun e w' => e = .returned (.tuple #[.string (D.read s.data.toList).1, .int .i64 (D.read s.data.toList).2]) ∧ Below w.heap.size w w' := by
  have cF := find_calls h s hs
  have H := Aside0.mk h
  by_cases he : D.findE s.data.toList = 0
  · obtain ⟨_, _, f, hf⟩ := findE_ok he
    have hat := h.at hf
    obtain ⟨p, c, hv⟩ := hat.2.shape
    have E : Aside0 (D.read s.data.toList = (f.data, 0)) := ⟨by unfold AD.read; rw [if_neg (by rw [he]; decide), hf]⟩
    rw [he] at cF
    have hq : D.findQ lay s.data.toList = some (lay s.data.toList).1 := if_pos he
    rw [hq] at cF
    rw [E.out]
    have HF := Aside0.mk hf
    have HV := Aside0.mk hv
    clear h hs hat hv hq he hf E
    go_enter Tryd.func14, Tryd.ntmps14
    go_wp2_with (go_at_call 30; refine cF.mono ?_; rintro e w1 ⟨rfl, hb1⟩; have h1 := H.out.below hb1; have hat1 := h1.at HF.out; have c0 := (file_cells hat1).1; have cv := hat1.2.back (P := Tryd.prog) 68 9 Tryd.underlying68 Tryd.underlying5 Tryd.underlying9; rw [HV.out] at c0 cv; have B1 := Aside0.mk hb1; clear hb1 h1 hat1; simp only [ptrVal])
    go_ret2
    exact ⟨rfl, B1.out⟩
  · have E : Aside0 (D.read s.data.toList = (⟨#[]⟩, D.findE s.data.toList)) := ⟨if_pos he⟩
    have hq : D.findQ lay s.data.toList = none := if_neg he
    rw [E.out]
    rw [hq] at cF
    generalize D.findE s.data.toList = e0 at cF he ⊢
    have e1 : (e0 == 0) = false := by simpa using he
    have e2 : (e0 != 0) = true := by simpa using he
    clear h hs hq he
    go_enter Tryd.func14, Tryd.ntmps14
    go_wp2_with (go_at_call 30; refine cF.mono ?_; rintro e w1 ⟨rfl, hb1⟩; have B1 := Aside0.mk hb1; clear hb1; simp only [ptrVal])
    go_ret2
    exact ⟨rfl, B1.out⟩
/-- What a call has done. -/
def Did (w w' : World) (a m : Nat) (lay : Lay) (D D' : AD) : Prop := ∃ lay', DK w' a m lay' D' ∧ Fr (a :: m :: ownL lay D.L) w w' ∧ ∀ k ∈ ownL lay' D'.L, k ∈ ownL lay D.L ∨ w.heap.size ≤ k
theorem Did.same {w w' : World} {a m : Nat} {lay : Lay} {D D' : AD} (h : DK w' a m lay D') (hL : D'.L = D.L) (hf : Fr (a :: m :: ownL lay D.L) w w') : Did w w' a m lay D D' := ⟨lay, h, hf, fun k hk => .inl (hL ▸ hk)⟩
/-- f's bytes have grown. -/
theorem append_done {w2 w3 : World} {a m : Nat} {lay : Lay} {D : AD} {x : Nm} {f : AF} {y : ByteArray} {v' : Value} (h2 : DK w2 a m lay D.tick) (hf : findL x D.L = some f)
    (hok : ({ D.tick with L := updL x (fun f => { f with data := f.data ++ y }) D.L } : AD).Ok) (hrow : RowB 5 w3 v' (f.data ++ y)) (hg : w2.grownBy w3 (lay x).2.ownBlock) (hat : v'.ownBlock = (lay x).2.ownBlock ∨ ∃ b, v'.ownBlock = some b ∧ w2.heap.size ≤ b) :
    Did w2 ((w3.setCell ⟨(lay x).1, 0, none⟩ v').setCell ⟨a, 2, none⟩ (.int .i64 (D.used + y.size))) a m lay D { D.tick with L := updL x (fun f => { f with data := f.data ++ y }) D.L } := by
  obtain ⟨hn, hm⟩ := findL_name hf
  have hfa := h2.at (x := x) hf
  have sep := h2.sep
  have hmem : ∀ k ∈ ownF (lay x), k ∈ ownF (lay f.name) := fun k hk => by rw [hn]; exact hk
  have haf : a ∉ ownF (lay x) := fun hk => sep.afar f hm (hmem _ hk)
  have hmf : m ∉ ownF (lay x) := fun hk => sep.mfar f hm (hmem _ hk)
  have hself := sep.self f hm
  rw [hn] at hself
  have hro : ∀ k, (lay x).2.ownBlock = some k → k ∈ ownF (lay x) := fun k hk => by simp [ownF, hk]
  have hfb : (lay x).1 ∈ ownF (lay x) := by simp [ownF]
  have hfrx : Fr (a :: ownF (lay x)) w2 ((w3.setCell ⟨(lay x).1, 0, none⟩ v').setCell ⟨a, 2, none⟩ (.int .i64 (D.used + y.size))) :=
    Fr.setCell (p := ⟨a, 2, none⟩) (Fr.setCell (p := ⟨(lay x).1, 0, none⟩) ((Fr.refl (a :: ownF (lay x)) _).grown hg (fun k hk => .inl (List.mem_cons_of_mem _ (hro k hk)))) (.inl (List.mem_cons_of_mem _ hfb)) _) (.inl (List.mem_cons_self ..)) _
  have hgn : ∀ k, k < w2.heap.size → k ∉ ownF (lay x) → w3.heap[k]? = w2.heap[k]? := fun k hk hn => hg.block k hk (fun e => hn (hro k e.symm))
  have hfb3 : w3.heap[(lay x).1]? = some (.cells (fileD (lay x) f.safe) 70 (0, 0)) := by
    rw [hg.block _ (blk_lt hfa.1) (fun e => hself (by rw [← e]; simp))]
    exact hfa.1
  have ha3 : w3.heap[a]? = some (.cells (headD m D.tick) 64 (0, 0)) := (hgn a (blk_lt h2.head) haf).trans h2.head
  have hne : a ≠ (lay x).1 := fun e => haf (e ▸ hfb)
  have hvnew : ∀ k ∈ v'.ownBlock.toList, k ∈ (lay x).2.ownBlock.toList ∨ w2.heap.size ≤ k := fun k hk => by
    rcases hat with h | ⟨b, h, hb⟩
    · rw [h] at hk; exact .inl hk
    · rw [h] at hk; simp at hk; subst hk; exact .inr hb
  have hva : ∀ k ∈ v'.ownBlock.toList, k ≠ a ∧ k ≠ (lay x).1 := fun k hk => by
    rcases hvnew k hk with h | h
    · exact ⟨fun e => haf (by rw [← e]; simp [ownF]; right; simpa using h), fun e => hself (e ▸ h)⟩
    · exact ⟨fun e => by have := blk_lt h2.head; omega, fun e => by have := blk_lt hfa.1; omega⟩
  have ht := updL_tot (g := fun f => { f with data := f.data ++ y }) h2.ok.rising hf
  have key := h2.one (w' := (w3.setCell ⟨(lay x).1, 0, none⟩ v').setCell ⟨a, 2, none⟩ (.int .i64 (D.used + y.size))) (D' := { D.tick with L := updL x (fun f => { f with data := f.data ++ y }) D.L })
    { f with data := f.data ++ y } x ((lay x).1, v') ?_ ?_ hok (fun q hq => mem_upd (g := fun f => { f with data := f.data ++ y }) (fun _ => rfl) h2.ok.rising hf q hq) ?_ ?_ ?_ ?_
  · refine ⟨_, key.1, hfrx.mono ?_, key.2⟩
    intro k hk
    simp only [List.mem_cons] at hk ⊢
    rcases hk with hk | hk
    · exact .inl hk
    · exact .inr (.inr (owns_at hf k hk))
  · refine blk_put (blk_far ha3 hne _) 2 _ ?_
    have e2 : ({ D.tick with L := updL x (fun f => { f with data := f.data ++ y }) D.L } : AD).used = D.used + y.size := by
      have hsz : (f.data ++ y).size = f.data.size + y.size := ByteArray.size_append
      unfold AD.used
      show ((totL (updL x (fun f => { f with data := f.data ++ y }) D.L) : Nat) : Int) = (totL D.L : Int) + y.size
      simp only [hsz] at ht
      have ht' : totL (updL x (fun f => { f with data := f.data ++ y }) D.L) = totL D.L + y.size := by
        have : totL (updL x (fun f => { f with data := f.data ++ y }) D.L) + f.data.size = totL D.L + (f.data.size + y.size) := ht
        omega
      rw [ht']; omega
    unfold headD
    rw [e2]
    rfl
  · have e3 : mapL (setLay lay f.name ((lay x).1, v')) (updL x (fun f => { f with data := f.data ++ y }) D.L) = mapL lay D.L := by
      refine mapL_congr (fun z => hasL_upd (g := fun f => { f with data := f.data ++ y }) (fun _ => rfl)) (fun z _ => ?_)
      unfold setLay
      split
      · rename_i h; rw [h, hn]
      · rfl
    show MapP _ _ _ _ (updL x (fun f => { f with data := f.data ++ y }) D.L).length (mapL (setLay lay f.name ((lay x).1, v')) (updL x (fun f => { f with data := f.data ++ y }) D.L))
    rw [e3, updL_length]
    refine h2.map.fr hfrx ?_
    simp only [List.mem_cons, not_or]
    exact ⟨fun e => sep.am e.symm, hmf⟩
  · refine ⟨blk_far (blk_put hfb3 0 _ rfl) (fun e => hne e.symm) _, hrow.step (fun k hk => ?_)⟩
    rw [Below.heap_setCell _ _ _ _ (hva k hk).1, Below.heap_setCell _ _ _ _ (hva k hk).2]
  · intro q hq h3 h4 k hk
    refine hfrx.block k ((h2.file q hq).lt k hk) ?_
    simp only [List.mem_cons, not_or]
    refine ⟨fun e => sep.afar q hq (e ▸ hk), fun h5 => ?_⟩
    exact sep.two q hq f hm (by rw [hn]; exact h4) k hk (hmem k h5)
  · intro k hk
    simp only [ownF, List.mem_cons] at hk
    rcases hk with rfl | hk
    · exact .inr ⟨⟨f, hm, hn⟩, hfb⟩
    · rcases hvnew k hk with h | h
      · exact .inr ⟨⟨f, hm, hn⟩, by simp only [ownF, List.mem_cons]; exact .inr h⟩
      · exact .inl h
  · exact fun hk => (hva _ hk).2 rfl
end Go.Proofs.YtakhnkkcllfbjaaDoorX
