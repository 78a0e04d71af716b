/- Append of a disk: what the call answers and does. -/
import Derived.Test.YtakhnkkcllfbjaaDoorE8
namespace Go.Proofs.YtakhnkkcllfbjaaDoorX
open Go.RowKit Go.Proofs.YtakhnkkcllfbjaaDoorW.PrintWords Go.Proofs.YtakhnkkcllfbjaaDoorW.PrintLast Go.Proofs.YtakhnkkcllfbjaaDoorW.PrintMore
set_option linter.unusedVariables false
set_option linter.unusedSimpArgs false
theorem mapL_ins {lay : Lay} {L : List AF} {x : Nm} {p : Nat × Value} {f : AF} (hf : f.name = x) (hn : ∀ g ∈ L, g.name ≠ f.name) : mapL (setLay lay f.name p) (insL f L) = fun z => if z = x then some (some p.1) else mapL lay L z := by
  funext z
  unfold mapL hasL
  rw [findL_insL hn]
  by_cases h : z = x
  · subst h
    rw [hf]
    simp [setLay]
  · have h2 : ¬ f.name = z := fun e => h (e.symm.trans hf)
    have h3 : ¬ z = f.name := fun e => h2 e.symm
    simp only [if_neg h2, if_neg h, setLay, if_neg h3]
/-- A file is new. -/
theorem fresh_done {w2 w3 w4 : World} {a m : Nat} {lay : Lay} {D : AD} {x : Nm} {y : ByteArray} {v' : Value} (h2 : DK w2 a m lay D.tick) (hf : findL x D.L = none)
    (hok : ({ D.tick with L := insL ⟨x, y, 0⟩ D.L } : AD).Ok)
    (hmp : MapP Tryd.prog 9 w3 m (D.L.length + 1) (fun z => if z = x then some (some w2.heap.size) else mapL lay D.L z))
    (hg3 : (w2.alloc (.cells #[.slice none 0 0, .int .i64 0] 70)).grownBy w3 (some m)) (hg4 : w3.grownBy w4 none)
    (hrow : RowB 5 w4 v' y) (hat : v'.ownBlock = none ∨ ∃ b, v'.ownBlock = some b ∧ w3.heap.size ≤ b) :
    Did w2 ((w4.setCell ⟨w2.heap.size, 0, none⟩ v').setCell ⟨a, 2, none⟩ (.int .i64 (D.used + y.size))) a m lay D { D.tick with L := insL ⟨x, y, 0⟩ D.L } := by
  have hn := findL_none.1 hf
  have ha := blk_lt h2.head
  have hml := h2.map.lt
  have hs3 : w2.heap.size + 1 ≤ w3.heap.size := by have := hg3.size; simpa using this
  have hs4 := hg4.size
  have hfr : Fr [a, m] w2 ((w4.setCell ⟨w2.heap.size, 0, none⟩ v').setCell ⟨a, 2, none⟩ (.int .i64 (D.used + y.size))) :=
    Fr.setCell (p := ⟨a, 2, none⟩) (Fr.setCell (p := ⟨w2.heap.size, 0, none⟩) ((((Fr.refl [a, m] w2).alloc _).grown hg3 (fun k hk => by cases hk; exact .inl (by simp))).grown hg4 (fun k hk => by cases hk)) (.inr (Nat.le_refl _)) _) (.inl (by simp)) _
  have hfb4 : w4.heap[w2.heap.size]? = some (.cells #[.slice none 0 0, .int .i64 0] 70 (0, 0)) := by
    rw [hg4.block _ (by omega) (by simp), hg3.block _ (by simp) (by simp; omega)]
    exact blk_new _ _
  have ha4 : w4.heap[a]? = some (.cells (headD m D.tick) 64 (0, 0)) := by
    rw [hg4.block _ (by omega) (by simp), hg3.block _ (by simp; omega) (by simp; exact h2.sep.am)]
    exact blk_alloc h2.head _
  have hne : a ≠ w2.heap.size := by omega
  have hv : ∀ k ∈ v'.ownBlock.toList, w3.heap.size ≤ k := fun k hk => by
    rcases hat with h | ⟨b, h, hb⟩
    · rw [h] at hk; cases hk
    · rw [h] at hk; simp at hk; subst hk; exact hb
  have hu : ({ D.tick with L := insL ⟨x, y, 0⟩ D.L } : AD).used = D.used + y.size := by
    unfold AD.used
    show ((totL (insL ⟨x, y, 0⟩ D.L) : Nat) : Int) = (totL D.L : Int) + y.size
    rw [insL_tot]
    show ((totL D.L + y.size : Nat) : Int) = _
    omega
  have key := h2.one (w' := (w4.setCell ⟨w2.heap.size, 0, none⟩ v').setCell ⟨a, 2, none⟩ (.int .i64 (D.used + y.size))) (D' := { D.tick with L := insL ⟨x, y, 0⟩ D.L })
    ⟨x, y, 0⟩ x (w2.heap.size, v') ?_ ?_ hok ?_ ?_ ?_ ?_ ?_
  · refine ⟨_, key.1, hfr.mono ?_, key.2⟩
    intro k hk
    simp only [List.mem_cons, List.not_mem_nil, or_false] at hk ⊢
    rcases hk with hk | hk
    · exact .inl hk
    · exact .inr (.inl hk)
  · refine blk_put (blk_far ha4 hne _) 2 _ ?_
    unfold headD
    rw [hu]
    rfl
  · show MapP _ _ _ _ (insL ⟨x, y, 0⟩ D.L).length (mapL (setLay lay x (w2.heap.size, v')) (insL ⟨x, y, 0⟩ D.L))
    rw [mapL_ins (f := ⟨x, y, 0⟩) rfl hn, insL_length]
    refine hmp.step ?_
    rw [Below.heap_setCell _ _ _ _ (fun e => h2.sep.am e.symm), Below.heap_setCell _ _ _ _ (by show m ≠ w2.heap.size; omega), hg4.block _ (by omega) (by simp)]
  · intro q hq
    rcases mem_insL.1 hq with h | h
    · exact .inl h
    · exact .inr ⟨h, hn q h, hn q h⟩
  · refine ⟨blk_far (blk_put hfb4 0 _ rfl) (fun e => hne e.symm) _, hrow.step (fun k hk => ?_)⟩
    have := hv k hk
    rw [Below.heap_setCell _ _ _ _ (by show k ≠ a; omega), Below.heap_setCell _ _ _ _ (by show k ≠ w2.heap.size; omega)]
  · intro q hq h3 h4 k hk
    refine hfr.block k ((h2.file q hq).lt k hk) ?_
    simp only [List.mem_cons, List.not_mem_nil, or_false, not_or]
    exact ⟨fun e => h2.sep.afar q hq (e ▸ hk), fun e => h2.sep.mfar q hq (e ▸ hk)⟩
  · intro k hk
    simp only [ownF, List.mem_cons] at hk
    rcases hk with rfl | hk
    · exact .inl (Nat.le_refl _)
    · exact .inl (by have := hv k hk; omega)
  · intro hk
    have := hv _ hk
    simp only at this
    omega
theorem Did.before {w w1 w2 : World} {a m : Nat} {lay : Lay} {D D1 D2 : AD} (hf : Fr [a] w w1) (hL : D1.L = D.L) (h : Did w1 w2 a m lay D1 D2) : Did w w2 a m lay D D2 := by
  obtain ⟨lay', h1, h2, h3⟩ := h
  rw [hL] at h2 h3
  refine ⟨lay', h1, (hf.mono (T := a :: m :: ownL lay D.L) (fun x hx => by simp at hx; simp [hx])).trans h2 (fun x hx => .inl hx), fun k hk => ?_⟩
  rcases h3 k hk with h4 | h4
  · exact .inl h4
  · exact .inr (Nat.le_trans hf.size h4)
theorem info5 : (Tryd.prog.info? 5).map (fun i => (i.zero, i.size, i.bytes)) = some (some (.int .u8 0), 1, 1) := by kernel_rfl
/-- What the walk reads behind the append. -/
theorem append_cells {w2 w3 : World} {a m : Nat} {lay : Lay} {D : AD} {x : Nm} {f : AF} (h2 : DK w2 a m lay D.tick) (hf : findL x D.L = some f) (hg : w2.grownBy w3 (lay x).2.ownBlock) :
    w3.cell? ⟨(lay x).1, 0, none⟩ = some (lay x).2 ∧ w3.frozen? ⟨(lay x).1, 0, none⟩ = false ∧ (∀ u, (w3.setCell ⟨(lay x).1, 0, none⟩ u).cell? ⟨a, 2, none⟩ = some (.int .i64 D.used)) ∧ w3.frozen? ⟨a, 2, none⟩ = false := by
  obtain ⟨hn, hm⟩ := findL_name hf
  have hfa := h2.at (x := x) hf
  have sep := h2.sep
  have hmem : ∀ k ∈ ownF (lay x), k ∈ ownF (lay f.name) := fun k hk => by rw [hn]; exact hk
  have haf : a ∉ ownF (lay x) := fun hk => sep.afar f hm (hmem _ hk)
  have hself := sep.self f hm
  rw [hn] at hself
  have hfb : (lay x).1 ∈ ownF (lay x) := by simp [ownF]
  have hne : a ≠ (lay x).1 := fun e => haf (e ▸ hfb)
  have hfb3 : w3.heap[(lay x).1]? = some (.cells (fileD (lay x) f.safe) 70 (0, 0)) := by
    rw [hg.block _ (blk_lt hfa.1) (fun e => hself (by rw [← e]; simp))]
    exact hfa.1
  have ha3 : w3.heap[a]? = some (.cells (headD m D.tick) 64 (0, 0)) := by
    rw [hg.block _ (blk_lt h2.head) (fun e => haf (by simp only [ownF, List.mem_cons]; right; rw [← e]; simp))]
    exact h2.head
  refine ⟨by rw [blk_cell hfb3]; rfl, blk_frozen hfb3 _, fun u => ?_, blk_frozen ha3 _⟩
  rw [blk_cell (blk_far ha3 hne u)]
  rfl
theorem fresh_cells {w3 w4 : World} {a m : Nat} {lay : Lay} {D : AD} (h3 : DK w3 a m lay D) (hg : (w3.alloc (.cells #[.slice none 0 0, .int .i64 0] 70)).grownBy w4 (some m)) :
    w4.cell? ⟨w3.heap.size, 0, none⟩ = some (.slice none 0 0) ∧ w4.heap[w3.heap.size]? = some (.cells #[.slice none 0 0, .int .i64 0] 70 (0, 0)) := by
  have hml := h3.map.lt
  have hb : w4.heap[w3.heap.size]? = some (.cells #[.slice none 0 0, .int .i64 0] 70 (0, 0)) := by
    rw [hg.block _ (by simp) (by simp; omega)]
    exact blk_new _ _
  exact ⟨by rw [blk_cell hb]; rfl, hb⟩
theorem fresh_cells2 {w3 w4 w5 : World} {a m : Nat} {lay : Lay} {D : AD} (h3 : DK w3 a m lay D.tick) (hg : (w3.alloc (.cells #[.slice none 0 0, .int .i64 0] 70)).grownBy w4 (some m)) (hg5 : w4.grownBy w5 (Value.slice none 0 0).ownBlock) :
    w5.cell? ⟨w3.heap.size, 0, none⟩ = some (.slice none 0 0) ∧ w5.frozen? ⟨w3.heap.size, 0, none⟩ = false ∧ (∀ u, (w5.setCell ⟨w3.heap.size, 0, none⟩ u).cell? ⟨a, 2, none⟩ = some (.int .i64 D.used)) ∧ w5.frozen? ⟨a, 2, none⟩ = false := by
  have hb := (fresh_cells h3 hg).2
  have hs := hg.size
  have hs2 : (w3.alloc (.cells #[.slice none 0 0, .int .i64 0] 70)).heap.size = w3.heap.size + 1 := by simp
  rw [hs2] at hs
  have ha := blk_lt h3.head
  have hb5 : w5.heap[w3.heap.size]? = some (.cells #[.slice none 0 0, .int .i64 0] 70 (0, 0)) := by rw [hg5.block _ (blk_lt hb) (by simp [Value.ownBlock])]; exact hb
  have ha5 : w5.heap[a]? = some (.cells (headD m D.tick) 64 (0, 0)) := by
    rw [hg5.block _ (by omega) (by simp [Value.ownBlock]), hg.block _ (by simp; omega) (by simp; exact h3.sep.am)]
    exact blk_alloc h3.head _
  refine ⟨by rw [blk_cell hb5]; rfl, blk_frozen hb5 _, fun u => ?_, blk_frozen ha5 _⟩
  rw [blk_cell (blk_far ha5 (by show a ≠ w3.heap.size; omega) u)]
  rfl
theorem fresh_row {w : World} {v' : Value} {y : ByteArray} (h : RowB 5 w v' (⟨#[]⟩ ++ y)) : RowB 5 w v' y := by
  rwa [show (⟨#[]⟩ : ByteArray) ++ y = y from ByteArray.empty_append] at h
theorem Append_calls {w : World} {a m : Nat} {lay : Lay} {D : AD} (h : DK w a m lay D) (s y : ByteArray) (hs : s.size ≤ maxLen) :
    Calls Tryd.prog 10 #[.pointer (some ⟨a, 0, none⟩), .string s, .string y] w fun e w' => e = .returned (.int .i64 (D.append s.data.toList y).2) ∧ Did w w' a m lay D (D.append s.data.toList y).1 := by
  have cF := find_calls h s hs
  have H := Aside0.mk h
  have HS := Aside0.mk hs
  by_cases h3 : D.findE s.data.toList = 3
  · have E : Aside0 (D.append s.data.toList y = (D, 3)) := ⟨by unfold AD.append; rw [if_pos (.inl h3), h3]⟩
    have hq : D.findQ lay s.data.toList = none := if_neg (by rw [h3]; decide)
    rw [h3, hq] at cF
    rw [E.out]
    clear h hs hq h3 E
    go_enter Tryd.func10, Tryd.ntmps10
    go_wp2_with (go_at_call 30; refine cF.mono ?_; rintro e w1 ⟨rfl, hb1⟩; have B1 := Aside0.mk hb1; clear hb1; simp only [ptrVal])
    go_ret
    exact ⟨rfl, Did.same (H.out.below B1.out) rfl (Fr.of_below B1.out _)⟩
  · by_cases h40 : D.findE s.data.toList = 40
    · have E : Aside0 (D.append s.data.toList y = (D, 40)) := ⟨by unfold AD.append; rw [if_pos (.inr h40), h40]⟩
      have hq : D.findQ lay s.data.toList = none := if_neg (by rw [h40]; decide)
      rw [h40, hq] at cF
      rw [E.out]
      clear h hs hq h3 h40 E
      go_enter Tryd.func10, Tryd.ntmps10
      go_wp2_with (go_at_call 30; refine cF.mono ?_; rintro e w1 ⟨rfl, hb1⟩; have B1 := Aside0.mk hb1; clear hb1; simp only [ptrVal])
      go_ret
      exact ⟨rfl, Did.same (H.out.below B1.out) rfl (Fr.of_below B1.out _)⟩
    · have hnot : ¬ (D.findE s.data.toList = 3 ∨ D.findE s.data.toList = 40) := fun h => h.elim h3 h40
      obtain ⟨hd, hnm⟩ := findE_cases h3 h40
      cases hf : findL s.data.toList D.L with
      | some f =>
        have he : D.findE s.data.toList = 0 := by unfold AD.findE; rw [if_neg (by rw [hd]; decide), if_neg (by rw [hnm]; decide), if_neg (by rw [hf]; simp)]
        have hq : D.findQ lay s.data.toList = some (lay s.data.toList).1 := if_pos he
        rw [he, hq] at cF
        by_cases hfull : D.free < (y.size : Int)
        · have E : Aside0 (D.append s.data.toList y = (D, 42)) := ⟨by unfold AD.append; rw [if_neg hnot, if_pos (.inl hfull)]⟩
          have e1 : decide (D.free < (y.size : Int)) = true := decide_eq_true hfull
          rw [E.out]
          clear h hs hq h3 h40 E hnot hd hnm hf he hfull
          go_enter Tryd.func10, Tryd.ntmps10
          go_wp2_with (first
            | (go_at_call 30; refine cF.mono ?_; rintro e w1 ⟨rfl, hb1⟩; have B1 := Aside0.mk hb1; have cFr := Free_calls (H.out.below hb1); clear hb1; simp only [ptrVal])
            | (go_at_call 12; refine cFr.mono ?_; rintro e w2 ⟨rfl, n2, rfl⟩))
          go_ret
          exact ⟨rfl, Did.same ((H.out.below B1.out).step (fun _ _ => rfl)) rfl ((Fr.of_below B1.out _).drewN n2)⟩
        · have e1 : decide (D.free < (y.size : Int)) = false := decide_eq_false hfull
          have hnf : ¬ (D.free < (y.size : Int) ∨ (findL s.data.toList D.L = none ∧ D.L.length = 64)) := fun h => h.elim hfull (fun h => by rw [hf] at h; cases h.1)
          have OKA := appendOk H.out.ok hnm hnf
          by_cases hz : D.armed = 0
          · have E : Aside0 (D.append s.data.toList y = (D.fall, 3)) := ⟨by unfold AD.append; rw [if_neg hnot, if_neg hnf, if_pos hz]⟩
            have ES : D.stepE = 3 := if_pos hz
            have ED : D.stepD = D.fall := if_pos hz
            rw [E.out]
            clear h hs hq h3 h40 E hnot hd hnm hf he hfull hz hnf OKA
            go_enter Tryd.func10, Tryd.ntmps10
            go_wp2_with (first
              | (go_at_call 30; refine cF.mono ?_; rintro e w1 ⟨rfl, hb1⟩; have B1 := Aside0.mk hb1; have cFr := Free_calls (H.out.below hb1); clear hb1; simp only [ptrVal])
              | (go_at_call 12; refine cFr.mono ?_; rintro e w2 ⟨rfl, n2, rfl⟩; have H2 : Aside0 (DK (w1.drewN n2) a m lay D) := ⟨(H.out.below B1.out).step (fun _ _ => rfl)⟩; have cS := step_calls H2.out; rw [ES, ED] at cS)
              | (go_at_call 31; refine cS.mono ?_; rintro e w3 ⟨rfl, h3, hf3⟩))
            go_ret
            exact ⟨rfl, Did.same h3 rfl (((Fr.of_below B1.out _).drewN n2).trans hf3 (fun x hx => .inl (by simp at hx; simp [hx])))⟩
          · have E : Aside0 (D.append s.data.toList y = ({ D.tick with L := updL s.data.toList (fun f => { f with data := f.data ++ y }) D.L }, 0)) := ⟨by unfold AD.append; rw [if_neg hnot, if_neg hnf, if_neg hz]; unfold AD.putL; rw [hf]⟩
            have ES : D.stepE = 0 := if_neg hz
            have ED : D.stepD = D.tick := if_neg hz
            rw [E.out]
            have hpl : D.putL s.data.toList y = updL s.data.toList (fun f => { f with data := f.data ++ y }) D.L := by unfold AD.putL; rw [hf]
            rw [hpl] at OKA
            have OA := Aside0.mk OKA
            obtain ⟨p, c, hv⟩ := (h.at hf).2.shape
            have HV := Aside0.mk hv
            have HF := Aside0.mk hf
            have hsz : f.data.size + y.size ≤ 140737488355328 := by
              have := mem_tot (findL_name hf).2; have := h.ok.used; have := h.ok.size1
              unfold AD.used at this
              have h9 := h.ok.used
              unfold AD.free at hfull
              unfold AD.used at h9 hfull
              omega
            have hwr : IntKind.i64.wrap (D.used + y.size) = D.used + y.size := by
              have := h.ok.used; have := h.ok.size1; have := used_pos D
              unfold AD.free at hfull
              rw [i64_w]; unfold wrap64; omega
            have HL := Aside0.mk hsz
            clear h hs hq h3 h40 E hnot hd hnm hf he hfull hz hnf OKA hv hpl hsz
            go_enter Tryd.func10, Tryd.ntmps10
            go_wp2_with (first
              | (go_at_call 30; refine cF.mono ?_; rintro e w1 ⟨rfl, hb1⟩; have B1 := Aside0.mk hb1; have cFr := Free_calls (H.out.below hb1); clear hb1; simp only [ptrVal])
              | (go_at_call 12; refine cFr.mono ?_; rintro e w2 ⟨rfl, n2, rfl⟩; have H2 : Aside0 (DK (w1.drewN n2) a m lay D) := ⟨(H.out.below B1.out).step (fun _ _ => rfl)⟩; have cS := step_calls H2.out; rw [ES, ED] at cS)
              | (go_at_call 31; refine cS.mono ?_; rintro e w3 ⟨rfl, h3, hf3⟩; have hat3 := h3.at HF.out; have c0 := (file_cells hat3).1; rw [HV.out] at c0; have H3 := Aside0.mk h3; have F3 := Aside0.mk hf3; clear h3 hf3 hat3)
              | (refine wp_rowb_append (v := .slice p f.data.size c) rfl _ _ 68 9 rfl (by have h9 := (H3.out.at HF.out).2; rw [HV.out] at h9; exact h9) Tryd.underlying68 Tryd.underlying9 info5 rfl rfl HL.out ?_; intro v4 w4 hr4 hg4 hat4; obtain ⟨p4, c4, rfl⟩ := hr4.shape; rw [ByteArray.size_append] at hr4 hat4; obtain ⟨k1, k2, k3, k4⟩ := append_cells H3.out HF.out (by rw [HV.out]; exact hg4); have R4 := Aside0.mk hr4; have G4 := Aside0.mk hg4; have A4 := Aside0.mk hat4; clear hr4 hg4 hat4))
            go_ret
            refine ⟨rfl, Did.before (((Fr.of_below B1.out _).drewN n2).trans F3.out (fun x hx => .inl hx)) rfl ?_⟩
            exact append_done H3.out HF.out OA.out R4.out (by rw [HV.out]; exact G4.out) (by rw [HV.out]; exact A4.out)
      | none =>
        have he : D.findE s.data.toList = 41 := by unfold AD.findE; rw [if_neg (by rw [hd]; decide), if_neg (by rw [hnm]; decide), if_pos (by rw [hf]; rfl)]
        have hq : D.findQ lay s.data.toList = none := if_neg (by rw [he]; decide)
        rw [he, hq] at cF
        by_cases hfull : D.free < (y.size : Int)
        · have E : Aside0 (D.append s.data.toList y = (D, 42)) := ⟨by unfold AD.append; rw [if_neg hnot, if_pos (.inl hfull)]⟩
          have e1 : decide (D.free < (y.size : Int)) = true := decide_eq_true hfull
          rw [E.out]
          clear h hs hq h3 h40 E hnot hd hnm hf he hfull
          go_enter Tryd.func10, Tryd.ntmps10
          go_wp2_with (first
            | (go_at_call 30; refine cF.mono ?_; rintro e w1 ⟨rfl, hb1⟩; have B1 := Aside0.mk hb1; have cFr := Free_calls (H.out.below hb1); clear hb1; simp only [ptrVal])
            | (go_at_call 12; refine cFr.mono ?_; rintro e w2 ⟨rfl, n2, rfl⟩))
          go_ret
          exact ⟨rfl, Did.same ((H.out.below B1.out).step (fun _ _ => rfl)) rfl ((Fr.of_below B1.out _).drewN n2)⟩
        · have e1 : decide (D.free < (y.size : Int)) = false := decide_eq_false hfull
          by_cases h64 : D.L.length = 64
          · have E : Aside0 (D.append s.data.toList y = (D, 42)) := ⟨by unfold AD.append; rw [if_neg hnot, if_pos (.inr ⟨hf, h64⟩)]⟩
            have e6 : ((D.L.length : Int) == 64) = true := by rw [h64]; rfl
            rw [E.out]
            clear h hs hq h3 h40 E hnot hd hnm hf he hfull h64
            go_enter Tryd.func10, Tryd.ntmps10
            go_wp2_with (first
              | (go_at_call 30; refine cF.mono ?_; rintro e w1 ⟨rfl, hb1⟩; have B1 := Aside0.mk hb1; have cFr := Free_calls (H.out.below hb1); have c1 := (head_cells (H.out.below hb1).head).2.1; have MP := Aside0.mk (H.out.below hb1).map; clear hb1; simp only [ptrVal])
              | (go_at_call 12; refine cFr.mono ?_; rintro e w2 ⟨rfl, n2, rfl⟩)
              | ((with_reducible refine gate_dst (N := 36) rfl ?_); refine wp_mlen_g rfl (MP.out.step (w' := w1.drewN n2) rfl) _ rfl Tryd.underlying62 rfl ?_))
            go_ret
            exact ⟨rfl, Did.same ((H.out.below B1.out).step (fun _ _ => rfl)) rfl ((Fr.of_below B1.out _).drewN n2)⟩
          · have e6 : ((D.L.length : Int) == 64) = false := by rw [beq_eq_false_iff_ne]; omega
            have hnf : ¬ (D.free < (y.size : Int) ∨ (findL s.data.toList D.L = none ∧ D.L.length = 64)) := fun h => h.elim hfull (fun h => h64 h.2)
            have OKA := appendOk H.out.ok hnm hnf
            by_cases hz : D.armed = 0
            · have E : Aside0 (D.append s.data.toList y = (D.fall, 3)) := ⟨by unfold AD.append; rw [if_neg hnot, if_neg hnf, if_pos hz]⟩
              have ES : D.stepE = 3 := if_pos hz
              have ED : D.stepD = D.fall := if_pos hz
              rw [E.out]
              clear h hs hq h3 h40 E hnot hd hnm hf he hfull hz hnf OKA h64
              go_enter Tryd.func10, Tryd.ntmps10
              go_wp2_with (first
                | (go_at_call 30; refine cF.mono ?_; rintro e w1 ⟨rfl, hb1⟩; have B1 := Aside0.mk hb1; have cFr := Free_calls (H.out.below hb1); have c1 := (head_cells (H.out.below hb1).head).2.1; have MP := Aside0.mk (H.out.below hb1).map; clear hb1; simp only [ptrVal])
                | (go_at_call 12; refine cFr.mono ?_; rintro e w2 ⟨rfl, n2, rfl⟩; have H2 : Aside0 (DK (w1.drewN n2) a m lay D) := ⟨(H.out.below B1.out).step (fun _ _ => rfl)⟩; have cS := step_calls H2.out; rw [ES, ED] at cS)
                | ((with_reducible refine gate_dst (N := 36) rfl ?_); refine wp_mlen_g rfl (MP.out.step (w' := w1.drewN n2) rfl) _ rfl Tryd.underlying62 rfl ?_)
                | (go_at_call 31; refine cS.mono ?_; rintro e w3 ⟨rfl, h3, hf3⟩))
              go_ret
              exact ⟨rfl, Did.same h3 rfl (((Fr.of_below B1.out _).drewN n2).trans hf3 (fun x hx => .inl (by simp at hx; simp [hx])))⟩
            · have hpl : D.putL s.data.toList y = insL ⟨s.data.toList, y, 0⟩ D.L := by unfold AD.putL; rw [hf]
              have E : Aside0 (D.append s.data.toList y = ({ D.tick with L := insL ⟨s.data.toList, y, 0⟩ D.L }, 0)) := ⟨by unfold AD.append; rw [if_neg hnot, if_neg hnf, if_neg hz, hpl]⟩
              have ES : D.stepE = 0 := if_neg hz
              have ED : D.stepD = D.tick := if_neg hz
              rw [E.out]
              rw [hpl] at OKA
              have OA := Aside0.mk OKA
              have HF := Aside0.mk hf
              have hsz : (⟨#[]⟩ : ByteArray).size + y.size ≤ 140737488355328 := by
                have := h.ok.size1; have h9 := used_pos D
                unfold AD.free at hfull
                show 0 + y.size ≤ _
                omega
              have hwr : IntKind.i64.wrap (D.used + y.size) = D.used + y.size := by
                have := h.ok.used; have := h.ok.size1; have := used_pos D
                unfold AD.free at hfull
                rw [i64_w]; unfold wrap64; omega
              have HL := Aside0.mk hsz
              have hM : Aside0 ((mapL lay D.L s.data.toList).isSome = false) := ⟨by rw [mapL_none hf]; rfl⟩
              have h64' : Aside0 (D.L.length < maxLen) := ⟨by have := h.ok.many; simp only [maxLen]; omega⟩
              clear h hs hq h3 h40 E hnot hd hnm hf he hfull hz hnf OKA hpl hsz h64
              go_enter Tryd.func10, Tryd.ntmps10
              go_wp2_with (first
                | (go_at_call 30; refine cF.mono ?_; rintro e w1 ⟨rfl, hb1⟩; have B1 := Aside0.mk hb1; have cFr := Free_calls (H.out.below hb1); have c1 := (head_cells (H.out.below hb1).head).2.1; have MP := Aside0.mk (H.out.below hb1).map; clear hb1; simp only [ptrVal])
                | (go_at_call 12; refine cFr.mono ?_; rintro e w2 ⟨rfl, n2, rfl⟩; have H2 : Aside0 (DK (w1.drewN n2) a m lay D) := ⟨(H.out.below B1.out).step (fun _ _ => rfl)⟩; have cS := step_calls H2.out; rw [ES, ED] at cS)
                | ((with_reducible refine gate_dst (N := 36) rfl ?_); refine wp_mlen_g rfl (MP.out.step (w' := w1.drewN n2) rfl) _ rfl Tryd.underlying62 rfl ?_)
                | (go_at_call 31; refine cS.mono ?_; rintro e w3 ⟨rfl, h3, hf3⟩; have d1 : ∀ ob, (w3.alloc ob).cell? ⟨a, 1, none⟩ = some (.map (some m)) := fun ob => (head_cells (blk_alloc h3.head ob)).2.1; have H3 := Aside0.mk h3; have F3 := Aside0.mk hf3; clear h3 hf3)
                | (at_mapUpdate; refine wp_put rfl (H3.out.map.fr ((Fr.refl [] w3).alloc (.cells #[.slice none 0 0, .int .i64 0] 70)) (by simp)) _ _ _ rfl Tryd.underlying9 Tryd.underlying62 h64'.out rfl s rfl HS.out (some w3.heap.size) rfl ?_; intro w4 mp4 hg4; rw [show (mapL lay D.tick.L s.data.toList).isSome = false from hM.out] at mp4; obtain ⟨b0, b1⟩ := fresh_cells H3.out hg4; have MP4 := Aside0.mk mp4; have G4 := Aside0.mk hg4; clear mp4 hg4)
                | (refine wp_rowb_append (v := .slice none 0 0) rfl _ _ 68 9 rfl (RowB.nil 5 w4) Tryd.underlying68 Tryd.underlying9 info5 rfl rfl HL.out ?_; intro v5 w5 hr5 hg5 hat5; obtain ⟨p5, c5, rfl⟩ := hr5.shape; obtain ⟨k1, k2, k3, k4⟩ := fresh_cells2 H3.out G4.out hg5; have R5 := Aside0.mk (fresh_row hr5); have G5 := Aside0.mk hg5; have A5 := Aside0.mk hat5; clear hr5 hg5 hat5))
              go_ret
              refine ⟨rfl, Did.before (((Fr.of_below B1.out _).drewN n2).trans F3.out (fun x hx => .inl hx)) rfl ?_⟩
              have MP4 := MP4.out
              exact fresh_done H3.out HF.out OA.out MP4 G4.out G5.out R5.out A5.out
end Go.Proofs.YtakhnkkcllfbjaaDoorX
