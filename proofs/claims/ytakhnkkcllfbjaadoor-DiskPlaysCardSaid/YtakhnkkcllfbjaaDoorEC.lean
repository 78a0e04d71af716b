/- Several texts in one (merge.py): E9, E10, E11, E12, E13; no conditions beyond those in each theorem's head. -/
import Derived.Test.YtakhnkkcllfbjaaDoorEB
import Derived.Test.YtakhnkkcllfbjaaDoorPAx0
section
namespace Go.Proofs.YtakhnkkcllfbjaaDoorX
open Go.RowKit Go.Proofs.YtakhnkkcllfbjaaDoorW.PrintWords Go.Proofs.YtakhnkkcllfbjaaDoorW.PrintLast Go.Proofs.YtakhnkkcllfbjaaDoorW.PrintMore
set_option linter.unusedVariables false
set_option linter.unusedSimpArgs false
theorem mapL_ins {lay : Lay} {L : List AF} {x : Nm} {p : Nat × Value} {f : AF} (hf : f.name = x) (hn : ∀ g ∈ L, g.name ≠ f.name) : mapL (setLay lay f.name p) (insL f L) = fun z => if z = x then some (some p.1) else mapL lay L z := by
  funext z
  unfold mapL hasL
  rw [findL_insL hn]
  by_cases h : z = x
  · subst h
    rw [hf]
    simp [setLay]
  · have h2 : ¬ f.name = z := fun e => h (e.symm.trans hf)
    have h3 : ¬ z = f.name := fun e => h2 e.symm
    simp only [if_neg h2, if_neg h, setLay, if_neg h3]
/-- A file is new. -/
theorem fresh_done {w2 w3 w4 : World} {a m : Nat} {lay : Lay} {D : AD} {x : Nm} {y : ByteArray} {v' : Value} (h2 : DK w2 a m lay D.tick) (hf : findL x D.L = none)
    (hok : ({ D.tick with L := insL ⟨x, y, 0⟩ D.L } : AD).Ok)
    (hmp : MapP Tryd.prog 9 w3 m (D.L.length + 1) (fun z => if z = x then some (some w2.heap.size) else mapL lay D.L z))
    (hg3 : (w2.alloc (.cells #[.slice none 0 0, .int .i64 0] 70)).grownBy w3 (some m)) (hg4 : w3.grownBy w4 none)
    (hrow : RowB 5 w4 v' y) (hat : v'.ownBlock = none ∨ ∃ b, v'.ownBlock = some b ∧ w3.heap.size ≤ b) :
    Did w2 ((w4.setCell ⟨w2.heap.size, 0, none⟩ v').setCell ⟨a, 2, none⟩ (.int .i64 (D.used + y.size))) a m lay D { D.tick with L := insL ⟨x, y, 0⟩ D.L } := by
  have hn := findL_none.1 hf
  have ha := blk_lt h2.head
  have hml := h2.map.lt
  have hs3 : w2.heap.size + 1 ≤ w3.heap.size := by have := hg3.size; simpa using this
  have hs4 := hg4.size
  have hfr : Fr [a, m] w2 ((w4.setCell ⟨w2.heap.size, 0, none⟩ v').setCell ⟨a, 2, none⟩ (.int .i64 (D.used + y.size))) :=
    Fr.setCell (p := ⟨a, 2, none⟩) (Fr.setCell (p := ⟨w2.heap.size, 0, none⟩) ((((Fr.refl [a, m] w2).alloc _).grown hg3 (fun k hk => by cases hk; exact .inl (by simp))).grown hg4 (fun k hk => by cases hk)) (.inr (Nat.le_refl _)) _) (.inl (by simp)) _
  have hfb4 : w4.heap[w2.heap.size]? = some (.cells #[.slice none 0 0, .int .i64 0] 70 (0, 0)) := by
    rw [hg4.block _ (by omega) (by simp), hg3.block _ (by simp) (by simp; omega)]
    exact blk_new _ _
  have ha4 : w4.heap[a]? = some (.cells (headD m D.tick) 64 (0, 0)) := by
    rw [hg4.block _ (by omega) (by simp), hg3.block _ (by simp; omega) (by simp; exact h2.sep.am)]
    exact blk_alloc h2.head _
  have hne : a ≠ w2.heap.size := by omega
  have hv : ∀ k ∈ v'.ownBlock.toList, w3.heap.size ≤ k := fun k hk => by
    rcases hat with h | ⟨b, h, hb⟩
    · rw [h] at hk; cases hk
    · rw [h] at hk; simp at hk; subst hk; exact hb
  have hu : ({ D.tick with L := insL ⟨x, y, 0⟩ D.L } : AD).used = D.used + y.size := by
    unfold AD.used
    show ((totL (insL ⟨x, y, 0⟩ D.L) : Nat) : Int) = (totL D.L : Int) + y.size
    rw [insL_tot]
    show ((totL D.L + y.size : Nat) : Int) = _
    omega
  have key := h2.one (w' := (w4.setCell ⟨w2.heap.size, 0, none⟩ v').setCell ⟨a, 2, none⟩ (.int .i64 (D.used + y.size))) (D' := { D.tick with L := insL ⟨x, y, 0⟩ D.L })
    ⟨x, y, 0⟩ x (w2.heap.size, v') ?_ ?_ hok ?_ ?_ ?_ ?_ ?_
  · refine ⟨_, key.1, hfr.mono ?_, key.2⟩
    intro k hk
    simp only [List.mem_cons, List.not_mem_nil, or_false] at hk ⊢
    rcases hk with hk | hk
    · exact .inl hk
    · exact .inr (.inl hk)
  · refine blk_put (blk_far ha4 hne _) 2 _ ?_
    unfold headD
    rw [hu]
    rfl
  · show MapP _ _ _ _ (insL ⟨x, y, 0⟩ D.L).length (mapL (setLay lay x (w2.heap.size, v')) (insL ⟨x, y, 0⟩ D.L))
    rw [mapL_ins (f := ⟨x, y, 0⟩) rfl hn, insL_length]
    refine hmp.step ?_
    rw [Below.heap_setCell _ _ _ _ (fun e => h2.sep.am e.symm), Below.heap_setCell _ _ _ _ (by show m ≠ w2.heap.size; omega), hg4.block _ (by omega) (by simp)]
  · intro q hq
    rcases mem_insL.1 hq with h | h
    · exact .inl h
    · exact .inr ⟨h, hn q h, hn q h⟩
  · refine ⟨blk_far (blk_put hfb4 0 _ rfl) (fun e => hne e.symm) _, hrow.step (fun k hk => ?_)⟩
    have := hv k hk
    rw [Below.heap_setCell _ _ _ _ (by show k ≠ a; omega), Below.heap_setCell _ _ _ _ (by show k ≠ w2.heap.size; omega)]
  · intro q hq h3 h4 k hk
    refine hfr.block k ((h2.file q hq).lt k hk) ?_
    simp only [List.mem_cons, List.not_mem_nil, or_false, not_or]
    exact ⟨fun e => h2.sep.afar q hq (e ▸ hk), fun e => h2.sep.mfar q hq (e ▸ hk)⟩
  · intro k hk
    simp only [ownF, List.mem_cons] at hk
    rcases hk with rfl | hk
    · exact .inl (Nat.le_refl _)
    · exact .inl (by have := hv k hk; omega)
  · intro hk
    have := hv _ hk
    simp only at this
    omega
theorem Did.before {w w1 w2 : World} {a m : Nat} {lay : Lay} {D D1 D2 : AD} (hf : Fr [a] w w1) (hL : D1.L = D.L) (h : Did w1 w2 a m lay D1 D2) : Did w w2 a m lay D D2 := by
  obtain ⟨lay', h1, h2, h3⟩ := h
  rw [hL] at h2 h3
  refine ⟨lay', h1, (hf.mono (T := a :: m :: ownL lay D.L) (fun x hx => by simp at hx; simp [hx])).trans h2 (fun x hx => .inl hx), fun k hk => ?_⟩
  rcases h3 k hk with h4 | h4
  · exact .inl h4
  · exact .inr (Nat.le_trans hf.size h4)
theorem info5 : (Tryd.prog.info? 5).map (fun i => (i.zero, i.size, i.bytes)) = some (some (.int .u8 0), 1, 1) := by kernel_rfl
/-- What the walk reads behind the append. -/
theorem append_cells {w2 w3 : World} {a m : Nat} {lay : Lay} {D : AD} {x : Nm} {f : AF} (h2 : DK w2 a m lay D.tick) (hf : findL x D.L = some f) (hg : w2.grownBy w3 (lay x).2.ownBlock) :
    w3.cell? ⟨(lay x).1, 0, none⟩ = some (lay x).2 ∧ w3.frozen? ⟨(lay x).1, 0, none⟩ = false ∧ (∀ u, (w3.setCell ⟨(lay x).1, 0, none⟩ u).cell? ⟨a, 2, none⟩ = some (.int .i64 D.used)) ∧ w3.frozen? ⟨a, 2, none⟩ = false := by
  obtain ⟨hn, hm⟩ := findL_name hf
  have hfa := h2.at (x := x) hf
  have sep := h2.sep
  have hmem : ∀ k ∈ ownF (lay x), k ∈ ownF (lay f.name) := fun k hk => by rw [hn]; exact hk
  have haf : a ∉ ownF (lay x) := fun hk => sep.afar f hm (hmem _ hk)
  have hself := sep.self f hm
  rw [hn] at hself
  have hfb : (lay x).1 ∈ ownF (lay x) := by simp [ownF]
  have hne : a ≠ (lay x).1 := fun e => haf (e ▸ hfb)
  have hfb3 : w3.heap[(lay x).1]? = some (.cells (fileD (lay x) f.safe) 70 (0, 0)) := by
    rw [hg.block _ (blk_lt hfa.1) (fun e => hself (by rw [← e]; simp))]
    exact hfa.1
  have ha3 : w3.heap[a]? = some (.cells (headD m D.tick) 64 (0, 0)) := by
    rw [hg.block _ (blk_lt h2.head) (fun e => haf (by simp only [ownF, List.mem_cons]; right; rw [← e]; simp))]
    exact h2.head
  refine ⟨by rw [blk_cell hfb3]; rfl, blk_frozen hfb3 _, fun u => ?_, blk_frozen ha3 _⟩
  rw [blk_cell (blk_far ha3 hne u)]
  rfl
theorem fresh_cells {w3 w4 : World} {a m : Nat} {lay : Lay} {D : AD} (h3 : DK w3 a m lay D) (hg : (w3.alloc (.cells #[.slice none 0 0, .int .i64 0] 70)).grownBy w4 (some m)) :
    w4.cell? ⟨w3.heap.size, 0, none⟩ = some (.slice none 0 0) ∧ w4.heap[w3.heap.size]? = some (.cells #[.slice none 0 0, .int .i64 0] 70 (0, 0)) := by
  have hml := h3.map.lt
  have hb : w4.heap[w3.heap.size]? = some (.cells #[.slice none 0 0, .int .i64 0] 70 (0, 0)) := by
    rw [hg.block _ (by simp) (by simp; omega)]
    exact blk_new _ _
  exact ⟨by rw [blk_cell hb]; rfl, hb⟩
theorem fresh_cells2 {w3 w4 w5 : World} {a m : Nat} {lay : Lay} {D : AD} (h3 : DK w3 a m lay D.tick) (hg : (w3.alloc (.cells #[.slice none 0 0, .int .i64 0] 70)).grownBy w4 (some m)) (hg5 : w4.grownBy w5 (Value.slice none 0 0).ownBlock) :
    w5.cell? ⟨w3.heap.size, 0, none⟩ = some (.slice none 0 0) ∧ w5.frozen? ⟨w3.heap.size, 0, none⟩ = false ∧ (∀ u, (w5.setCell ⟨w3.heap.size, 0, none⟩ u).cell? ⟨a, 2, none⟩ = some (.int .i64 D.used)) ∧ w5.frozen? ⟨a, 2, none⟩ = false := by
  have hb := (fresh_cells h3 hg).2
  have hs := hg.size
  have hs2 : (w3.alloc (.cells #[.slice none 0 0, .int .i64 0] 70)).heap.size = w3.heap.size + 1 := by simp
  rw [hs2] at hs
  have ha := blk_lt h3.head
  have hb5 : w5.heap[w3.heap.size]? = some (.cells #[.slice none 0 0, .int .i64 0] 70 (0, 0)) := by rw [hg5.block _ (blk_lt hb) (by simp [Value.ownBlock])]; exact hb
  have ha5 : w5.heap[a]? = some (.cells (headD m D.tick) 64 (0, 0)) := by
    rw [hg5.block _ (by omega) (by simp [Value.ownBlock]), hg.block _ (by simp; omega) (by simp; exact h3.sep.am)]
    exact blk_alloc h3.head _
  refine ⟨by rw [blk_cell hb5]; rfl, blk_frozen hb5 _, fun u => ?_, blk_frozen ha5 _⟩
  rw [blk_cell (blk_far ha5 (by show a ≠ w3.heap.size; omega) u)]
  rfl
theorem fresh_row {w : World} {v' : Value} {y : ByteArray} (h : RowB 5 w v' (⟨#[]⟩ ++ y)) : RowB 5 w v' y := by
  rwa [show (⟨#[]⟩ : ByteArray) ++ y = y from ByteArray.empty_append] at h
theorem Append_calls {w : World} {a m : Nat} {lay : Lay} {D : AD} (h : DK w a m lay D) (s y : ByteArray) (hs : s.size ≤ maxLen) :
    Calls Tryd.prog 10 #[.pointer (some ⟨a, 0, none⟩), .string s, .string y] w fun e w' => e = .returned (.int .i64 (D.append s.data.toList y).2) ∧ Did w w' a m lay D (D.append s.data.toList y).1 := by
  have cF := find_calls h s hs
  have H := Aside0.mk h
  have HS := Aside0.mk hs
  by_cases h3 : D.findE s.data.toList = 3
  · have E : Aside0 (D.append s.data.toList y = (D, 3)) := ⟨by unfold AD.append; rw [if_pos (.inl h3), h3]⟩
    have hq : D.findQ lay s.data.toList = none := if_neg (by rw [h3]; decide)
    rw [h3, hq] at cF
    rw [E.out]
    clear h hs hq h3 E
    go_enter Tryd.func10, Tryd.ntmps10
    go_wp2_with (go_at_call 30; refine cF.mono ?_; rintro e w1 ⟨rfl, hb1⟩; have B1 := Aside0.mk hb1; clear hb1; simp only [ptrVal])
    go_ret
    exact ⟨rfl, Did.same (H.out.below B1.out) rfl (Fr.of_below B1.out _)⟩
  · by_cases h40 : D.findE s.data.toList = 40
    · have E : Aside0 (D.append s.data.toList y = (D, 40)) := ⟨by unfold AD.append; rw [if_pos (.inr h40), h40]⟩
      have hq : D.findQ lay s.data.toList = none := if_neg (by rw [h40]; decide)
      rw [h40, hq] at cF
      rw [E.out]
      clear h hs hq h3 h40 E
      go_enter Tryd.func10, Tryd.ntmps10
      go_wp2_with (go_at_call 30; refine cF.mono ?_; rintro e w1 ⟨rfl, hb1⟩; have B1 := Aside0.mk hb1; clear hb1; simp only [ptrVal])
      go_ret
      exact ⟨rfl, Did.same (H.out.below B1.out) rfl (Fr.of_below B1.out _)⟩
    · have hnot : ¬ (D.findE s.data.toList = 3 ∨ D.findE s.data.toList = 40) := fun h => h.elim h3 h40
      obtain ⟨hd, hnm⟩ := findE_cases h3 h40
      cases hf : findL s.data.toList D.L with
      | some f =>
        have he : D.findE s.data.toList = 0 := by unfold AD.findE; rw [if_neg (by rw [hd]; decide), if_neg (by rw [hnm]; decide), if_neg (by rw [hf]; simp)]
        have hq : D.findQ lay s.data.toList = some (lay s.data.toList).1 := if_pos he
        rw [he, hq] at cF
        by_cases hfull : D.free < (y.size : Int)
        · have E : Aside0 (D.append s.data.toList y = (D, 42)) := ⟨by unfold AD.append; rw [if_neg hnot, if_pos (.inl hfull)]⟩
          have e1 : decide (D.free < (y.size : Int)) = true := decide_eq_true hfull
          rw [E.out]
          clear h hs hq h3 h40 E hnot hd hnm hf he hfull
          go_enter Tryd.func10, Tryd.ntmps10
          go_wp2_with (first
            | (go_at_call 30; refine cF.mono ?_; rintro e w1 ⟨rfl, hb1⟩; have B1 := Aside0.mk hb1; have cFr := Free_calls (H.out.below hb1); clear hb1; simp only [ptrVal])
            | (go_at_call 12; refine cFr.mono ?_; rintro e w2 ⟨rfl, n2, rfl⟩))
          go_ret
          exact ⟨rfl, Did.same ((H.out.below B1.out).step (fun _ _ => rfl)) rfl ((Fr.of_below B1.out _).drewN n2)⟩
        · have e1 : decide (D.free < (y.size : Int)) = false := decide_eq_false hfull
          have hnf : ¬ (D.free < (y.size : Int) ∨ (findL s.data.toList D.L = none ∧ D.L.length = 64)) := fun h => h.elim hfull (fun h => by rw [hf] at h; cases h.1)
          have OKA := appendOk H.out.ok hnm hnf
          by_cases hz : D.armed = 0
          · have E : Aside0 (D.append s.data.toList y = (D.fall, 3)) := ⟨by unfold AD.append; rw [if_neg hnot, if_neg hnf, if_pos hz]⟩
            have ES : D.stepE = 3 := if_pos hz
            have ED : D.stepD = D.fall := if_pos hz
            rw [E.out]
            clear h hs hq h3 h40 E hnot hd hnm hf he hfull hz hnf OKA
            go_enter Tryd.func10, Tryd.ntmps10
            go_wp2_with (first
              | (go_at_call 30; refine cF.mono ?_; rintro e w1 ⟨rfl, hb1⟩; have B1 := Aside0.mk hb1; have cFr := Free_calls (H.out.below hb1); clear hb1; simp only [ptrVal])
              | (go_at_call 12; refine cFr.mono ?_; rintro e w2 ⟨rfl, n2, rfl⟩; have H2 : Aside0 (DK (w1.drewN n2) a m lay D) := ⟨(H.out.below B1.out).step (fun _ _ => rfl)⟩; have cS := step_calls H2.out; rw [ES, ED] at cS)
              | (go_at_call 31; refine cS.mono ?_; rintro e w3 ⟨rfl, h3, hf3⟩))
            go_ret
            exact ⟨rfl, Did.same h3 rfl (((Fr.of_below B1.out _).drewN n2).trans hf3 (fun x hx => .inl (by simp at hx; simp [hx])))⟩
          · have E : Aside0 (D.append s.data.toList y = ({ D.tick with L := updL s.data.toList (fun f => { f with data := f.data ++ y }) D.L }, 0)) := ⟨by unfold AD.append; rw [if_neg hnot, if_neg hnf, if_neg hz]; unfold AD.putL; rw [hf]⟩
            have ES : D.stepE = 0 := if_neg hz
            have ED : D.stepD = D.tick := if_neg hz
            rw [E.out]
            have hpl : D.putL s.data.toList y = updL s.data.toList (fun f => { f with data := f.data ++ y }) D.L := by unfold AD.putL; rw [hf]
            rw [hpl] at OKA
            have OA := Aside0.mk OKA
            obtain ⟨p, c, hv⟩ := (h.at hf).2.shape
            have HV := Aside0.mk hv
            have HF := Aside0.mk hf
            have hsz : f.data.size + y.size ≤ 140737488355328 := by
              have := mem_tot (findL_name hf).2; have := h.ok.used; have := h.ok.size1
              unfold AD.used at this
              have h9 := h.ok.used
              unfold AD.free at hfull
              unfold AD.used at h9 hfull
              omega
            have hwr : IntKind.i64.wrap (D.used + y.size) = D.used + y.size := by
              have := h.ok.used; have := h.ok.size1; have := used_pos D
              unfold AD.free at hfull
              rw [i64_w]; unfold wrap64; omega
            have HL := Aside0.mk hsz
            clear h hs hq h3 h40 E hnot hd hnm hf he hfull hz hnf OKA hv hpl hsz
            go_enter Tryd.func10, Tryd.ntmps10
            go_wp2_with (first
              | (go_at_call 30; refine cF.mono ?_; rintro e w1 ⟨rfl, hb1⟩; have B1 := Aside0.mk hb1; have cFr := Free_calls (H.out.below hb1); clear hb1; simp only [ptrVal])
              | (go_at_call 12; refine cFr.mono ?_; rintro e w2 ⟨rfl, n2, rfl⟩; have H2 : Aside0 (DK (w1.drewN n2) a m lay D) := ⟨(H.out.below B1.out).step (fun _ _ => rfl)⟩; have cS := step_calls H2.out; rw [ES, ED] at cS)
              | (go_at_call 31; refine cS.mono ?_; rintro e w3 ⟨rfl, h3, hf3⟩; have hat3 := h3.at HF.out; have c0 := (file_cells hat3).1; rw [HV.out] at c0; have H3 := Aside0.mk h3; have F3 := Aside0.mk hf3; clear h3 hf3 hat3)
              | (refine wp_rowb_append (v := .slice p f.data.size c) rfl _ _ 68 9 rfl (by have h9 := (H3.out.at HF.out).2; rw [HV.out] at h9; exact h9) Tryd.underlying68 Tryd.underlying9 info5 rfl rfl HL.out ?_; intro v4 w4 hr4 hg4 hat4; obtain ⟨p4, c4, rfl⟩ := hr4.shape; rw [ByteArray.size_append] at hr4 hat4; obtain ⟨k1, k2, k3, k4⟩ := append_cells H3.out HF.out (by rw [HV.out]; exact hg4); have R4 := Aside0.mk hr4; have G4 := Aside0.mk hg4; have A4 := Aside0.mk hat4; clear hr4 hg4 hat4))
            go_ret
            refine ⟨rfl, Did.before (((Fr.of_below B1.out _).drewN n2).trans F3.out (fun x hx => .inl hx)) rfl ?_⟩
            exact append_done H3.out HF.out OA.out R4.out (by rw [HV.out]; exact G4.out) (by rw [HV.out]; exact A4.out)
      | none =>
        have he : D.findE s.data.toList = 41 := by unfold AD.findE; rw [if_neg (by rw [hd]; decide), if_neg (by rw [hnm]; decide), if_pos (by rw [hf]; rfl)]
        have hq : D.findQ lay s.data.toList = none := if_neg (by rw [he]; decide)
        rw [he, hq] at cF
        by_cases hfull : D.free < (y.size : Int)
        · have E : Aside0 (D.append s.data.toList y = (D, 42)) := ⟨by unfold AD.append; rw [if_neg hnot, if_pos (.inl hfull)]⟩
          have e1 : decide (D.free < (y.size : Int)) = true := decide_eq_true hfull
          rw [E.out]
          clear h hs hq h3 h40 E hnot hd hnm hf he hfull
          go_enter Tryd.func10, Tryd.ntmps10
          go_wp2_with (first
            | (go_at_call 30; refine cF.mono ?_; rintro e w1 ⟨rfl, hb1⟩; have B1 := Aside0.mk hb1; have cFr := Free_calls (H.out.below hb1); clear hb1; simp only [ptrVal])
            | (go_at_call 12; refine cFr.mono ?_; rintro e w2 ⟨rfl, n2, rfl⟩))
          go_ret
          exact ⟨rfl, Did.same ((H.out.below B1.out).step (fun _ _ => rfl)) rfl ((Fr.of_below B1.out _).drewN n2)⟩
        · have e1 : decide (D.free < (y.size : Int)) = false := decide_eq_false hfull
          by_cases h64 : D.L.length = 64
          · have E : Aside0 (D.append s.data.toList y = (D, 42)) := ⟨by unfold AD.append; rw [if_neg hnot, if_pos (.inr ⟨hf, h64⟩)]⟩
            have e6 : ((D.L.length : Int) == 64) = true := by rw [h64]; rfl
            rw [E.out]
            clear h hs hq h3 h40 E hnot hd hnm hf he hfull h64
            go_enter Tryd.func10, Tryd.ntmps10
            go_wp2_with (first
              | (go_at_call 30; refine cF.mono ?_; rintro e w1 ⟨rfl, hb1⟩; have B1 := Aside0.mk hb1; have cFr := Free_calls (H.out.below hb1); have c1 := (head_cells (H.out.below hb1).head).2.1; have MP := Aside0.mk (H.out.below hb1).map; clear hb1; simp only [ptrVal])
              | (go_at_call 12; refine cFr.mono ?_; rintro e w2 ⟨rfl, n2, rfl⟩)
              | ((with_reducible refine gate_dst (N := 36) rfl ?_); refine wp_mlen_g rfl (MP.out.step (w' := w1.drewN n2) rfl) _ rfl Tryd.underlying62 rfl ?_))
            go_ret
            exact ⟨rfl, Did.same ((H.out.below B1.out).step (fun _ _ => rfl)) rfl ((Fr.of_below B1.out _).drewN n2)⟩
          · have e6 : ((D.L.length : Int) == 64) = false := by rw [beq_eq_false_iff_ne]; omega
            have hnf : ¬ (D.free < (y.size : Int) ∨ (findL s.data.toList D.L = none ∧ D.L.length = 64)) := fun h => h.elim hfull (fun h => h64 h.2)
            have OKA := appendOk H.out.ok hnm hnf
            by_cases hz : D.armed = 0
            · have E : Aside0 (D.append s.data.toList y = (D.fall, 3)) := ⟨by unfold AD.append; rw [if_neg hnot, if_neg hnf, if_pos hz]⟩
              have ES : D.stepE = 3 := if_pos hz
              have ED : D.stepD = D.fall := if_pos hz
              rw [E.out]
              clear h hs hq h3 h40 E hnot hd hnm hf he hfull hz hnf OKA h64
              go_enter Tryd.func10, Tryd.ntmps10
              go_wp2_with (first
                | (go_at_call 30; refine cF.mono ?_; rintro e w1 ⟨rfl, hb1⟩; have B1 := Aside0.mk hb1; have cFr := Free_calls (H.out.below hb1); have c1 := (head_cells (H.out.below hb1).head).2.1; have MP := Aside0.mk (H.out.below hb1).map; clear hb1; simp only [ptrVal])
                | (go_at_call 12; refine cFr.mono ?_; rintro e w2 ⟨rfl, n2, rfl⟩; have H2 : Aside0 (DK (w1.drewN n2) a m lay D) := ⟨(H.out.below B1.out).step (fun _ _ => rfl)⟩; have cS := step_calls H2.out; rw [ES, ED] at cS)
                | ((with_reducible refine gate_dst (N := 36) rfl ?_); refine wp_mlen_g rfl (MP.out.step (w' := w1.drewN n2) rfl) _ rfl Tryd.underlying62 rfl ?_)
                | (go_at_call 31; refine cS.mono ?_; rintro e w3 ⟨rfl, h3, hf3⟩))
              go_ret
              exact ⟨rfl, Did.same h3 rfl (((Fr.of_below B1.out _).drewN n2).trans hf3 (fun x hx => .inl (by simp at hx; simp [hx])))⟩
            · have hpl : D.putL s.data.toList y = insL ⟨s.data.toList, y, 0⟩ D.L := by unfold AD.putL; rw [hf]
              have E : Aside0 (D.append s.data.toList y = ({ D.tick with L := insL ⟨s.data.toList, y, 0⟩ D.L }, 0)) := ⟨by unfold AD.append; rw [if_neg hnot, if_neg hnf, if_neg hz, hpl]⟩
              have ES : D.stepE = 0 := if_neg hz
              have ED : D.stepD = D.tick := if_neg hz
              rw [E.out]
              rw [hpl] at OKA
              have OA := Aside0.mk OKA
              have HF := Aside0.mk hf
              have hsz : (⟨#[]⟩ : ByteArray).size + y.size ≤ 140737488355328 := by
                have := h.ok.size1; have h9 := used_pos D
                unfold AD.free at hfull
                show 0 + y.size ≤ _
                omega
              have hwr : IntKind.i64.wrap (D.used + y.size) = D.used + y.size := by
                have := h.ok.used; have := h.ok.size1; have := used_pos D
                unfold AD.free at hfull
                rw [i64_w]; unfold wrap64; omega
              have HL := Aside0.mk hsz
              have hM : Aside0 ((mapL lay D.L s.data.toList).isSome = false) := ⟨by rw [mapL_none hf]; rfl⟩
              have h64' : Aside0 (D.L.length < maxLen) := ⟨by have := h.ok.many; simp only [maxLen]; omega⟩
              clear h hs hq h3 h40 E hnot hd hnm hf he hfull hz hnf OKA hpl hsz h64
              go_enter Tryd.func10, Tryd.ntmps10
              go_wp2_with (first
                | (go_at_call 30; refine cF.mono ?_; rintro e w1 ⟨rfl, hb1⟩; have B1 := Aside0.mk hb1; have cFr := Free_calls (H.out.below hb1); have c1 := (head_cells (H.out.below hb1).head).2.1; have MP := Aside0.mk (H.out.below hb1).map; clear hb1; simp only [ptrVal])
                | (go_at_call 12; refine cFr.mono ?_; rintro e w2 ⟨rfl, n2, rfl⟩; have H2 : Aside0 (DK (w1.drewN n2) a m lay D) := ⟨(H.out.below B1.out).step (fun _ _ => rfl)⟩; have cS := step_calls H2.out; rw [ES, ED] at cS)
                | ((with_reducible refine gate_dst (N := 36) rfl ?_); refine wp_mlen_g rfl (MP.out.step (w' := w1.drewN n2) rfl) _ rfl Tryd.underlying62 rfl ?_)
                | (go_at_call 31; refine cS.mono ?_; rintro e w3 ⟨rfl, h3, hf3⟩; have d1 : ∀ ob, (w3.alloc ob).cell? ⟨a, 1, none⟩ = some (.map (some m)) := fun ob => (head_cells (blk_alloc h3.head ob)).2.1; have H3 := Aside0.mk h3; have F3 := Aside0.mk hf3; clear h3 hf3)
                | (at_mapUpdate; refine wp_put rfl (H3.out.map.fr ((Fr.refl [] w3).alloc (.cells #[.slice none 0 0, .int .i64 0] 70)) (by simp)) _ _ _ rfl Tryd.underlying9 Tryd.underlying62 h64'.out rfl s rfl HS.out (some w3.heap.size) rfl ?_; intro w4 mp4 hg4; rw [show (mapL lay D.tick.L s.data.toList).isSome = false from hM.out] at mp4; obtain ⟨b0, b1⟩ := fresh_cells H3.out hg4; have MP4 := Aside0.mk mp4; have G4 := Aside0.mk hg4; clear mp4 hg4)
                | (refine wp_rowb_append (v := .slice none 0 0) rfl _ _ 68 9 rfl (RowB.nil 5 w4) Tryd.underlying68 Tryd.underlying9 info5 rfl rfl HL.out ?_; intro v5 w5 hr5 hg5 hat5; obtain ⟨p5, c5, rfl⟩ := hr5.shape; obtain ⟨k1, k2, k3, k4⟩ := fresh_cells2 H3.out G4.out hg5; have R5 := Aside0.mk (fresh_row hr5); have G5 := Aside0.mk hg5; have A5 := Aside0.mk hat5; clear hr5 hg5 hat5))
              go_ret
              refine ⟨rfl, Did.before (((Fr.of_below B1.out _).drewN n2).trans F3.out (fun x hx => .inl hx)) rfl ?_⟩
              have MP4 := MP4.out
              exact fresh_done H3.out HF.out OA.out MP4 G4.out G5.out R5.out A5.out
end Go.Proofs.YtakhnkkcllfbjaaDoorX
end
section
namespace Go.Proofs.YtakhnkkcllfbjaaDoorX
open Go.RowKit Go.Proofs.YtakhnkkcllfbjaaDoorW.PrintWords Go.Proofs.YtakhnkkcllfbjaaDoorW.PrintLast Go.Proofs.YtakhnkkcllfbjaaDoorW.PrintMore
set_option linter.unusedVariables false
set_option linter.unusedSimpArgs false
theorem mapL_del {lay : Lay} {L : List AF} {x : Nm} : mapL lay (delL x L) = fun z => if z = x then none else mapL lay L z := by
  funext z
  unfold mapL hasL
  rw [findL_delL]
  by_cases h : z = x
  · simp [h]
  · simp [h]
theorem remove_done {w2 w3 w4 : World} {a m : Nat} {lay : Lay} {D : AD} {x : Nm} {f : AF} (h2 : DK w2 a m lay D.tick) (hf : findL x D.L = some f) (hok : ({ D.tick with L := delL x D.L } : AD).Ok)
    (hf3 : Fr [a] w2 w3) (hb3 : w3.heap[a]? = some (.cells ((headD m D.tick).setIfInBounds 2 (.int .i64 (D.used - f.data.size))) 64 (0, 0)))
    (hmp : MapP Tryd.prog 9 w4 m (D.L.length - 1) (fun z => if z = x then none else mapL lay D.L z)) (hg : w3.grownBy w4 (some m)) :
    Did w2 w4 a m lay D { D.tick with L := delL x D.L } := by
  have hfr : Fr [a, m] w2 w4 := ((hf3.mono (T := [a, m]) (fun x hx => by simp at hx; simp [hx])).grown hg (fun k hk => by cases hk; exact .inl (by simp)))
  have ht := delL_tot h2.ok.rising hf
  have hl := delL_length h2.ok.rising hf
  have ha3 := blk_lt hb3
  have key := h2.less (w' := w4) (D' := { D.tick with L := delL x D.L }) ?_ ?_ (fun q hq => (mem_delL.1 hq).1) hok ?_
  · exact ⟨lay, key.1, hfr.mono (fun k hk => by simp at hk; simp only [List.mem_cons]; rcases hk with h | h; exact .inl h; exact .inr (.inl h)), fun k hk => .inl (key.2 k hk)⟩
  · rw [hg.block a ha3 (by simp; exact h2.sep.am), hb3]
    have e2 : ({ D.tick with L := delL x D.L } : AD).used = D.used - f.data.size := by
      unfold AD.used
      show ((totL (delL x D.L) : Nat) : Int) = (totL D.L : Int) - f.data.size
      have : totL (delL x D.L) + f.data.size = totL D.L := ht
      omega
    unfold headD
    rw [e2]
    rfl
  · show MapP _ _ _ _ (delL x D.L).length (mapL lay (delL x D.L))
    rw [mapL_del, show (delL x D.L).length = D.L.length - 1 from by have : (delL x D.L).length + 1 = D.L.length := hl; omega]
    exact hmp
  · intro q hq k hk
    have hq2 := (mem_delL.1 hq).1
    refine hfr.block k ((h2.file q hq2).lt k hk) ?_
    simp only [List.mem_cons, List.not_mem_nil, or_false, not_or]
    exact ⟨fun e => h2.sep.afar q hq2 (e ▸ hk), fun e => h2.sep.mfar q hq2 (e ▸ hk)⟩
theorem Remove_calls {w : World} {a m : Nat} {lay : Lay} {D : AD} (h : DK w a m lay D) (s : ByteArray) (hs : s.size ≤ maxLen) :
    Calls Tryd.prog 36 #[.pointer (some ⟨a, 0, none⟩), .string s] w fun e w' => e = .returned (.int .i64 (D.remove s.data.toList).2) ∧ Did w w' a m lay D (D.remove s.data.toList).1 := by
  have cF := find_calls h s hs
  have H := Aside0.mk h
  have HS := Aside0.mk hs
  by_cases he : D.findE s.data.toList = 0
  · obtain ⟨_, _, f, hf⟩ := findE_ok he
    have hat := h.at hf
    obtain ⟨p, c, hv⟩ := hat.2.shape
    rw [he] at cF
    have hq : D.findQ lay s.data.toList = some (lay s.data.toList).1 := if_pos he
    rw [hq] at cF
    by_cases hz : D.armed = 0
    · have E : Aside0 (D.remove s.data.toList = (D.fall, 3)) := ⟨by unfold AD.remove; rw [if_neg (by rw [he]; decide), if_pos hz]⟩
      have ES : D.stepE = 3 := if_pos hz
      have ED : D.stepD = D.fall := if_pos hz
      rw [E.out]
      clear h hs hat hv hq he hf hz E
      go_enter Tryd.func36, Tryd.ntmps36
      go_wp2_with (first
        | (go_at_call 30; refine cF.mono ?_; rintro e w1 ⟨rfl, hb1⟩; have H1 := Aside0.mk (H.out.below hb1); have B1 := Aside0.mk hb1; clear hb1; have cS := step_calls H1.out; rw [ES, ED] at cS; simp only [ptrVal])
        | (go_at_call 31; refine cS.mono ?_; rintro e w2 ⟨rfl, h2, hf2⟩))
      go_ret
      exact ⟨rfl, Did.same h2 rfl ((Fr.of_below B1.out _).trans hf2 (fun x hx => .inl (by simp at hx; simp [hx])))⟩
    · have E : Aside0 (D.remove s.data.toList = ({ D.tick with L := delL s.data.toList D.L }, 0)) := ⟨by unfold AD.remove; rw [if_neg (by rw [he]; decide), if_neg hz]⟩
      have ES : D.stepE = 0 := if_neg hz
      have ED : D.stepD = D.tick := if_neg hz
      have OA := Aside0.mk (removeOk h.ok s.data.toList)
      have HF := Aside0.mk hf
      have HV := Aside0.mk hv
      have hwr : IntKind.i64.wrap (D.used - f.data.size) = D.used - f.data.size := by
        have := mem_tot (findL_name hf).2
        have h9 := h.ok.used; have := h.ok.size1
        unfold AD.used at h9 ⊢
        rw [i64_w]; unfold wrap64; omega
      have hM : Aside0 ((mapL lay D.L s.data.toList).isSome = true) := ⟨by rw [mapL_some hf]; rfl⟩
      rw [E.out]
      clear h hs hat hv hq he hf hz E
      go_enter Tryd.func36, Tryd.ntmps36
      go_upto_region 5 with (first
        | (go_at_call 30; refine cF.mono ?_; rintro e w1 ⟨rfl, hb1⟩; have H1 := Aside0.mk (H.out.below hb1); have B1 := Aside0.mk hb1; clear hb1; have cS := step_calls H1.out; rw [ES, ED] at cS; simp only [ptrVal])
        | (go_at_call 31; refine cS.mono ?_; rintro e w2 ⟨rfl, h2, hf2⟩; have hat2 := h2.at HF.out; have c0 := (file_cells hat2).1; rw [HV.out] at c0; have d1 := (head_cells h2.head).2.1; have d2 : w2.cell? ⟨a, 2, none⟩ = some (.int .i64 D.used) := (head_cells h2.head).2.2.1; have f2 := blk_frozen h2.head 2; have H2 := Aside0.mk h2; have F2 := Aside0.mk hf2; clear h2 hf2 hat2))
      go_region
      have hfr3 : Aside0 (Fr [a] w2 (w2.setCell ⟨a, 2, none⟩ (.int .i64 (D.used - f.data.size))).drew) := ⟨((Fr.refl [a] w2).setCell (p := ⟨a, 2, none⟩) (.inl (by simp)) _).drew⟩
      have hb3 : Aside0 ((w2.setCell ⟨a, 2, none⟩ (.int .i64 (D.used - f.data.size))).drew.heap[a]? = some (.cells ((headD m D.tick).setIfInBounds 2 (.int .i64 (D.used - f.data.size))) 64 (0, 0))) := ⟨blk_set H2.out.head 2 _⟩
      have hm3 : Aside0 (MapP Tryd.prog 9 (w2.setCell ⟨a, 2, none⟩ (.int .i64 (D.used - f.data.size))).drew m D.L.length (mapL lay D.L)) := ⟨H2.out.map.fr hfr3.out (by simp; exact fun e => H2.out.sep.am e.symm)⟩
      have d1' : (w2.setCell ⟨a, 2, none⟩ (.int .i64 (D.used - f.data.size))).drew.cell? ⟨a, 1, none⟩ = some (.map (some m)) := by rw [blk_cell hb3.out]; rfl
      generalize (w2.setCell ⟨a, 2, none⟩ (.int .i64 (D.used - f.data.size))).drew = w3 at hfr3 hb3 hm3 d1' ⊢
      clear d1 d2 c0 f2
      go_wp2_with (refine wp_del rfl hm3.out _ _ rfl Tryd.underlying9 Tryd.underlying62 rfl s rfl HS.out ?_; intro w4 mp4 hg4; rw [hM.out] at mp4; have MP4 := Aside0.mk mp4; have G4 := Aside0.mk hg4; clear mp4 hg4)
      go_ret
      exact ⟨rfl, Did.before ((Fr.of_below B1.out _).trans F2.out (fun x hx => .inl hx)) rfl (remove_done H2.out HF.out OA.out hfr3.out hb3.out MP4.out G4.out)⟩
  · have E : Aside0 (D.remove s.data.toList = (D, D.findE s.data.toList)) := ⟨if_pos he⟩
    have hq : D.findQ lay s.data.toList = none := if_neg he
    rw [E.out]
    rw [hq] at cF
    generalize D.findE s.data.toList = e0 at cF he ⊢
    have e1 : (e0 == 0) = false := by simpa using he
    clear h hs hq he
    go_enter Tryd.func36, Tryd.ntmps36
    go_wp2_with (go_at_call 30; refine cF.mono ?_; rintro e w1 ⟨rfl, hb1⟩; have H1 := Aside0.mk (H.out.below hb1); have B1 := Aside0.mk hb1; clear hb1; simp only [ptrVal])
    go_ret
    exact ⟨rfl, Did.same H1.out rfl (Fr.of_below B1.out _)⟩
end Go.Proofs.YtakhnkkcllfbjaaDoorX
end
section
namespace Go.Proofs.YtakhnkkcllfbjaaDoorX
open Go.RowKit Go.Proofs.YtakhnkkcllfbjaaDoorW.PrintWords Go.Proofs.YtakhnkkcllfbjaaDoorW.PrintLast Go.Proofs.YtakhnkkcllfbjaaDoorW.PrintMore
set_option linter.unusedVariables false
set_option linter.unusedSimpArgs false
theorem rename_done {w2 w5 : World} {a m : Nat} {lay : Lay} {D : AD} {x y : Nm} {f : AF} (h2 : DK w2 a m lay D.tick) (hf : findL x D.L = some f) (hxy : x ≠ y) (hok : ({ D.tick with L := D.renL x y } : AD).Ok)
    (hfr : Fr [a, m] w2 w5) (hb : w5.heap[a]? = some (.cells (headD m { D.tick with L := D.renL x y }) 64 (0, 0)))
    (hmp : MapP Tryd.prog 9 w5 m (D.renL x y).length (fun z => if z = y then some (some (lay x).1) else if z = x then none else mapL lay D.L z)) :
    Did w2 w5 a m lay D { D.tick with L := D.renL x y } := by
  obtain ⟨hn, hm⟩ := findL_name hf
  have hL : D.renL x y = insL { f with name := y } (delL x (delL y D.L)) := by unfold AD.renL; rw [if_neg hxy, hf]
  have hmem : ∀ q ∈ D.renL x y, q = { f with name := y } ∨ (q ∈ D.L ∧ q.name ≠ y ∧ q.name ≠ x) := fun q hq => by
    rw [hL] at hq
    rcases mem_insL.1 hq with h | h
    · exact .inl h
    · have h3 := mem_delL.1 h
      have h4 := mem_delL.1 h3.1
      exact .inr ⟨h4.1, h4.2, h3.2⟩
  have hfa := h2.at (x := x) hf
  have sep := h2.sep
  have haf : ∀ q ∈ D.L, ∀ k ∈ ownF (lay q.name), w5.heap[k]? = w2.heap[k]? := fun q hq k hk => by
    refine hfr.block k ((h2.file q hq).lt k hk) ?_
    simp only [List.mem_cons, List.not_mem_nil, or_false, not_or]
    exact ⟨fun e => sep.afar q hq (e ▸ hk), fun e => sep.mfar q hq (e ▸ hk)⟩
  have hself := sep.self f hm
  rw [hn] at hself
  have key := h2.one (w' := w5) (D' := { D.tick with L := D.renL x y }) { f with name := y } x (lay x) hb ?_ hok hmem ?_ (fun q hq _ _ => haf q hq) (fun k hk => .inr ⟨⟨f, hm, hn⟩, hk⟩) hself
  · exact ⟨_, key.1, hfr.mono (fun k hk => by simp at hk; simp only [List.mem_cons]; rcases hk with h | h; exact .inl h; exact .inr (.inl h)), key.2⟩
  · show MapP _ _ _ _ (D.renL x y).length (mapL (setLay lay y (lay x)) (D.renL x y))
    have e1 : mapL (setLay lay y (lay x)) (D.renL x y) = fun z => if z = y then some (some (lay x).1) else if z = x then none else mapL lay D.L z := by
      rw [hL]
      rw [mapL_ins (f := { f with name := y }) (x := y) rfl (fun g hg => (mem_delL.1 (mem_delL.1 hg).1).2)]
      funext z
      by_cases h : z = y
      · simp [h]
      · simp only [if_neg h]
        rw [mapL_del, mapL_del]
        simp only [if_neg h]
    rw [e1]
    exact hmp
  · have h3 := haf f hm
    rw [hn] at h3
    exact FileAt.step (f := { f with name := y }) hfa h3
theorem ren_tot {D : AD} (hr : Rising D.L) {x y : Nm} {f : AF} (hf : findL x D.L = some f) (hxy : x ≠ y) :
    (∀ g, findL y D.L = some g → totL (D.renL x y) + g.data.size = totL D.L ∧ (D.renL x y).length + 1 = D.L.length) ∧ (findL y D.L = none → totL (D.renL x y) = totL D.L ∧ (D.renL x y).length = D.L.length) := by
  have hL : D.renL x y = insL { f with name := y } (delL x (delL y D.L)) := by unfold AD.renL; rw [if_neg hxy, hf]
  have hf2 : findL x (delL y D.L) = some f := by rw [findL_delL, if_neg hxy, hf]
  have ht := delL_tot (delL_rising hr) hf2
  have hl := delL_length (delL_rising hr) hf2
  have e1 : totL (D.renL x y) = totL (delL x (delL y D.L)) + f.data.size := by rw [hL, insL_tot]
  have e2 : (D.renL x y).length = (delL x (delL y D.L)).length + 1 := by rw [hL, insL_length]
  refine ⟨fun g hg => ?_, fun hg => ?_⟩
  · have := delL_tot hr hg
    have := delL_length hr hg
    omega
  · have h3 : delL y D.L = D.L := delL_of_not (findL_none.1 hg)
    rw [h3] at ht hl e1 e2
    omega
theorem Rename_calls {w : World} {a m : Nat} {lay : Lay} {D : AD} (h : DK w a m lay D) (s t : ByteArray) (hs : s.size ≤ maxLen) (ht : t.size ≤ maxLen) :
    Calls Tryd.prog 16 #[.pointer (some ⟨a, 0, none⟩), .string s, .string t] w fun e w' => e = .returned (.int .i64 (D.rename s.data.toList t.data.toList).2) ∧ Did w w' a m lay D (D.rename s.data.toList t.data.toList).1 := by
  have cF := find_calls h s hs
  have cN := named_calls t
  have H := Aside0.mk h
  have HS := Aside0.mk hs
  have HT := Aside0.mk ht
  by_cases he3 : D.findE s.data.toList = 3
  · have hr : D.renE s.data.toList t.data.toList = 3 := by unfold AD.renE; rw [if_neg (fun k => k.1 he3), he3]
    have E : Aside0 (D.rename s.data.toList t.data.toList = (D, 3)) := ⟨by unfold AD.rename; rw [if_pos (by rw [hr]; decide), hr]⟩
    have hq : D.findQ lay s.data.toList = none := if_neg (by rw [he3]; decide)
    rw [he3, hq] at cF
    rw [E.out]
    clear h hs ht hq he3 hr E
    go_enter Tryd.func16, Tryd.ntmps16
    go_wp2_with (go_at_call 30; refine cF.mono ?_; rintro e w1 ⟨rfl, hb1⟩; have B1 := Aside0.mk hb1; clear hb1; simp only [ptrVal])
    go_ret
    exact ⟨rfl, Did.same (H.out.below B1.out) rfl (Fr.of_below B1.out _)⟩
  · cases hn : named t.data.toList with
    | false =>
      have hr : D.renE s.data.toList t.data.toList = 40 := by unfold AD.renE; rw [if_pos ⟨he3, hn⟩]
      have E : Aside0 (D.rename s.data.toList t.data.toList = (D, 40)) := ⟨by unfold AD.rename; rw [if_pos (by rw [hr]; decide), hr]⟩
      rw [E.out]
      rw [hn] at cN
      generalize D.findQ lay s.data.toList = q0 at cF
      generalize D.findE s.data.toList = e0 at cF he3
      have e1 : (e0 == 3) = false := by simpa using he3
      have e2 : (e0 != 3) = true := by simpa using he3
      clear h hs ht he3 hr E hn
      cases q0 with
      | none =>
        go_enter Tryd.func16, Tryd.ntmps16
        go_wp2_with (first
          | (go_at_call 30; refine cF.mono ?_; rintro e w1 ⟨rfl, hb1⟩; have B1 := Aside0.mk hb1; clear hb1; simp only [ptrVal])
          | (go_at_call 29; refine (cN _).mono ?_; rintro e w2 ⟨rfl, hb2⟩))
        go_ret
        have hb := B1.out.trans (hb2.mono B1.out.size)
        exact ⟨rfl, Did.same (H.out.below hb) rfl (Fr.of_below hb _)⟩
      | some q1 =>
        go_enter Tryd.func16, Tryd.ntmps16
        go_wp2_with (first
          | (go_at_call 30; refine cF.mono ?_; rintro e w1 ⟨rfl, hb1⟩; have B1 := Aside0.mk hb1; clear hb1; simp only [ptrVal])
          | (go_at_call 29; refine (cN _).mono ?_; rintro e w2 ⟨rfl, hb2⟩))
        go_ret
        have hb := B1.out.trans (hb2.mono B1.out.size)
        exact ⟨rfl, Did.same (H.out.below hb) rfl (Fr.of_below hb _)⟩
    | true =>
      have hr : D.renE s.data.toList t.data.toList = D.findE s.data.toList := by unfold AD.renE; rw [if_neg (fun k => by rw [hn] at k; cases k.2)]
      rw [hn] at cN
      by_cases he : D.findE s.data.toList = 0
      · obtain ⟨_, _, f, hf⟩ := findE_ok he
        have hat := h.at hf
        obtain ⟨p, c, hv⟩ := hat.2.shape
        rw [he] at cF hr
        have hq : D.findQ lay s.data.toList = some (lay s.data.toList).1 := if_pos he
        rw [hq] at cF
        by_cases hz : D.armed = 0
        · have E : Aside0 (D.rename s.data.toList t.data.toList = (D.fall, 3)) := ⟨by unfold AD.rename; rw [if_neg (by rw [hr]; decide), if_pos hz]⟩
          have ES : D.stepE = 3 := if_pos hz
          have ED : D.stepD = D.fall := if_pos hz
          rw [E.out]
          clear h hs ht hat hv hq he hf hz E hn hr he3
          go_enter Tryd.func16, Tryd.ntmps16
          go_wp2_with (first
            | (go_at_call 30; refine cF.mono ?_; rintro e w1 ⟨rfl, hb1⟩; have B1 := Aside0.mk hb1; clear hb1; simp only [ptrVal])
            | (go_at_call 29; refine (cN _).mono ?_; rintro e w2 ⟨rfl, hb2⟩; have B2 : Aside0 (Below w.heap.size w w2) := ⟨B1.out.trans (hb2.mono B1.out.size)⟩; clear hb2; have H1 : Aside0 (DK w2 a m lay D) := ⟨H.out.below B2.out⟩; have cS := step_calls H1.out; rw [ES, ED] at cS)
            | (go_at_call 31; refine cS.mono ?_; rintro e w3 ⟨rfl, h2, hf2⟩))
          go_ret
          exact ⟨rfl, Did.same h2 rfl ((Fr.of_below B2.out _).trans hf2 (fun x hx => .inl (by simp at hx; simp [hx])))⟩
        · have E : Aside0 (D.rename s.data.toList t.data.toList = ({ D.tick with L := D.renL s.data.toList t.data.toList }, 0)) := ⟨by unfold AD.rename; rw [if_neg (by rw [hr]; decide), if_neg hz]⟩
          have ES : D.stepE = 0 := if_neg hz
          have ED : D.stepD = D.tick := if_neg hz
          have OA := Aside0.mk (renL_Ok h.ok (x := s.data.toList) hn)
          by_cases hst : s = t
          · subst hst
            have E2 : D.renL s.data.toList s.data.toList = D.L := by unfold AD.renL; rw [if_pos rfl]
            rw [E2] at E
            rw [E.out]
            clear h hs ht hat hv hq he hf hz E hn hr he3 E2
            go_enter Tryd.func16, Tryd.ntmps16
            go_wp2_with (first
              | (go_at_call 30; refine cF.mono ?_; rintro e w1 ⟨rfl, hb1⟩; have B1 := Aside0.mk hb1; clear hb1; simp only [ptrVal])
              | (go_at_call 29; refine (cN _).mono ?_; rintro e w2 ⟨rfl, hb2⟩; have B2 : Aside0 (Below w.heap.size w w2) := ⟨B1.out.trans (hb2.mono B1.out.size)⟩; clear hb2; have H1 : Aside0 (DK w2 a m lay D) := ⟨H.out.below B2.out⟩; have cS := step_calls H1.out; rw [ES, ED] at cS)
              | (go_at_call 31; refine cS.mono ?_; rintro e w3 ⟨rfl, h2, hf2⟩))
            go_ret
            exact ⟨rfl, Did.same h2 rfl ((Fr.of_below B2.out _).trans hf2 (fun x hx => .inl (by simp at hx; simp [hx])))⟩
          · rw [E.out]
            have HF := Aside0.mk hf
            have hst2 : s.data.toList ≠ t.data.toList := fun e => hst (ByteArray.ext (Array.toList_inj.1 e))
            have e7 : (s.toList == t.toList) = false := by rw [toList_is, toList_is]; simpa using hst2
            obtain ⟨rt1, rt2⟩ := ren_tot h.ok.rising hf hst2
            have HST := Aside0.mk hst2
            have hused := h.ok.used
            have hsize := h.ok.size1
            cases hg : findL t.data.toList D.L with
            | none =>
              have hM : Aside0 (mapL lay D.L t.data.toList = none) := ⟨mapL_none hg⟩
              have hM2 : Aside0 ((mapL lay D.L s.data.toList).isSome = true) := ⟨by rw [mapL_some hf]; rfl⟩
              have RT := Aside0.mk (rt2 hg)
              have HL : Aside0 (0 < D.L.length ∧ D.L.length ≤ 64) := ⟨List.length_pos_of_mem (findL_name hf).2, h.ok.many⟩
              clear h hs ht hat hv hq he hf hz E hn hr he3 hst hst2 rt1 rt2 hg hused hsize
              go_enter Tryd.func16, Tryd.ntmps16
              go_wp2_with (first
              | (go_at_call 30; refine cF.mono ?_; rintro e w1 ⟨rfl, hb1⟩; have B1 := Aside0.mk hb1; clear hb1; simp only [ptrVal])
              | (go_at_call 29; refine (cN _).mono ?_; rintro e w2 ⟨rfl, hb2⟩; have B2 : Aside0 (Below w.heap.size w w2) := ⟨B1.out.trans (hb2.mono B1.out.size)⟩; clear hb2; have H1 : Aside0 (DK w2 a m lay D) := ⟨H.out.below B2.out⟩; have cS := step_calls H1.out; rw [ES, ED] at cS)
              | (go_at_call 31; refine cS.mono ?_; rintro e w3 ⟨rfl, h2, hf2⟩; have d1 := (head_cells h2.head).2.1; have H3 := Aside0.mk h2; have F3 := Aside0.mk hf2; clear h2 hf2)
              | (at_lookup; refine wp_look rfl H3.out.map _ _ rfl Tryd.underlying9 Tryd.underlying62 (Tryd.zeroValue65 w3) rfl t rfl HT.out ?_; rw [show mapL lay D.tick.L t.data.toList = _ from hM.out]; simp only [Option.getD, ptrVal])
              | (at_delete; refine wp_del rfl H3.out.map _ _ rfl Tryd.underlying9 Tryd.underlying62 rfl s rfl HS.out ?_; intro w4 mp4 hg4; have d4 : w4.cell? ⟨a, 1, none⟩ = some (.map (some m)) := (head_cells ((hg4.block a (blk_lt H3.out.head) (fun e => H3.out.sep.am (Option.some.inj e))).trans H3.out.head)).2.1; have MP4 := Aside0.mk mp4; have G4 := Aside0.mk hg4; clear mp4 hg4)
              | (at_mapUpdate; refine wp_put rfl MP4.out _ _ _ rfl Tryd.underlying9 Tryd.underlying62 (by rw [show (mapL lay D.tick.L s.data.toList).isSome = true from hM2.out]; have h9 := HL.out; show D.L.length - 1 < maxLen; simp only [maxLen]; omega) rfl t rfl HT.out (some (lay s.data.toList).1) rfl ?_; intro w5 mp5 hg5; have MP5 := Aside0.mk mp5; have G5 := Aside0.mk hg5; clear mp5 hg5))
              go_ret
              refine ⟨rfl, Did.before ((Fr.of_below B2.out _).trans F3.out (fun x hx => .inl hx)) rfl ?_⟩
              have hfr : Fr [a, m] w3 w5 := (((Fr.refl [a, m] w3).grown G4.out (fun k hk => by cases hk; exact .inl (by simp))).grown G5.out (fun k hk => by cases hk; exact .inl (by simp)))
              refine rename_done H3.out HF.out HST.out OA.out hfr ?_ ?_
              · have ha := blk_lt H3.out.head
                rw [G5.out.block a (by have := G4.out.size; omega) (fun e => H3.out.sep.am (Option.some.inj e)), G4.out.block a ha (fun e => H3.out.sep.am (Option.some.inj e)), H3.out.head]
                simp only [headD, AD.used]
                rw [show totL ({ D.tick with L := D.renL s.data.toList t.data.toList } : AD).L = totL D.L from RT.out.1]
                rfl
              · have h9 := MP5.out
                have h10 : (mapL lay D.tick.L s.data.toList).isSome = true := hM2.out
                have h11 : (if t.data.toList = s.data.toList then none else mapL lay D.tick.L t.data.toList) = none := by rw [if_neg (fun e => HST.out e.symm)]; exact hM.out
                rw [h10] at h9
                simp only [h11, if_true, Option.isSome_none, Bool.false_eq_true, if_false] at h9
                rw [RT.out.2]
                have h12 : D.tick.L.length - 1 + 1 = D.L.length := by have := HL.out; show D.L.length - 1 + 1 = _; omega
                rw [h12] at h9
                exact h9
            | some g =>
              have hM : Aside0 (mapL lay D.L t.data.toList = some (some (lay t.data.toList).1)) := ⟨mapL_some hg⟩
              have hM2 : Aside0 ((mapL lay D.L s.data.toList).isSome = true) := ⟨by rw [mapL_some hf]; rfl⟩
              have RT := Aside0.mk (rt1 g hg)
              have HL : Aside0 (0 < D.L.length ∧ D.L.length ≤ 64) := ⟨List.length_pos_of_mem (findL_name hf).2, h.ok.many⟩
              have HG := Aside0.mk hg
              obtain ⟨p2, c2, hv2⟩ := (h.at hg).2.shape
              have HV2 := Aside0.mk hv2
              have hwr : IntKind.i64.wrap (D.used - g.data.size) = D.used - g.data.size := by
                have := mem_tot (findL_name hg).2
                unfold AD.used at hused ⊢
                rw [i64_w]; unfold wrap64; omega
              clear h hs ht hat hv hq he hf hz E hn hr he3 hst hst2 rt1 rt2 hg hused hsize hv2
              go_enter Tryd.func16, Tryd.ntmps16
              go_upto_region 10 with (first
                | (go_at_call 30; refine cF.mono ?_; rintro e w1 ⟨rfl, hb1⟩; have B1 := Aside0.mk hb1; clear hb1; simp only [ptrVal])
                | (go_at_call 29; refine (cN _).mono ?_; rintro e w2 ⟨rfl, hb2⟩; have B2 : Aside0 (Below w.heap.size w w2) := ⟨B1.out.trans (hb2.mono B1.out.size)⟩; clear hb2; have H1 : Aside0 (DK w2 a m lay D) := ⟨H.out.below B2.out⟩; have cS := step_calls H1.out; rw [ES, ED] at cS)
                | (go_at_call 31; refine cS.mono ?_; rintro e w3 ⟨rfl, h2, hf2⟩; have hat2 := h2.at HG.out; have c0 := (file_cells hat2).1; rw [HV2.out] at c0; have d1 := (head_cells h2.head).2.1; have d2 : w3.cell? ⟨a, 2, none⟩ = some (.int .i64 D.used) := (head_cells h2.head).2.2.1; have f2 := blk_frozen h2.head 2; have H3 := Aside0.mk h2; have F3 := Aside0.mk hf2; clear h2 hf2 hat2)
                | (at_lookup; refine wp_look rfl H3.out.map _ _ rfl Tryd.underlying9 Tryd.underlying62 (Tryd.zeroValue65 w3) rfl t rfl HT.out ?_; rw [show mapL lay D.tick.L t.data.toList = _ from hM.out]; simp only [Option.getD, ptrVal]))
              go_region
              have hfr3 : Aside0 (Fr [a] w3 (w3.setCell ⟨a, 2, none⟩ (.int .i64 (D.used - g.data.size))).drew) := ⟨((Fr.refl [a] w3).setCell (p := ⟨a, 2, none⟩) (.inl (by simp)) _).drew⟩
              have hb3 : Aside0 ((w3.setCell ⟨a, 2, none⟩ (.int .i64 (D.used - g.data.size))).drew.heap[a]? = some (.cells ((headD m D.tick).setIfInBounds 2 (.int .i64 (D.used - g.data.size))) 64 (0, 0))) := ⟨blk_set H3.out.head 2 _⟩
              have hm3 : Aside0 (MapP Tryd.prog 9 (w3.setCell ⟨a, 2, none⟩ (.int .i64 (D.used - g.data.size))).drew m D.L.length (mapL lay D.L)) := ⟨H3.out.map.fr hfr3.out (by simp; exact fun e => H3.out.sep.am e.symm)⟩
              have d1' : (w3.setCell ⟨a, 2, none⟩ (.int .i64 (D.used - g.data.size))).drew.cell? ⟨a, 1, none⟩ = some (.map (some m)) := by rw [blk_cell hb3.out]; rfl
              generalize (w3.setCell ⟨a, 2, none⟩ (.int .i64 (D.used - g.data.size))).drew = w3' at hfr3 hb3 hm3 d1' ⊢
              clear d1 d2 c0 f2
              go_wp2_with (first
                | (at_delete; refine wp_del rfl hm3.out _ _ rfl Tryd.underlying9 Tryd.underlying62 rfl s rfl HS.out ?_; intro w4 mp4 hg4; have d4 : w4.cell? ⟨a, 1, none⟩ = some (.map (some m)) := ((World.cell?_of_block (hg4.block a (blk_lt hb3.out) (fun e => H3.out.sep.am (Option.some.inj e)))).trans d1'); have MP4 := Aside0.mk mp4; have G4 := Aside0.mk hg4; clear mp4 hg4)
                | (at_mapUpdate; refine wp_put rfl MP4.out _ _ _ rfl Tryd.underlying9 Tryd.underlying62 (by rw [hM2.out]; have h9 := HL.out; show D.L.length - 1 < maxLen; simp only [maxLen]; omega) rfl t rfl HT.out (some (lay s.data.toList).1) rfl ?_; intro w5 mp5 hg5; have MP5 := Aside0.mk mp5; have G5 := Aside0.mk hg5; clear mp5 hg5))
              go_ret
              refine ⟨rfl, Did.before ((Fr.of_below B2.out _).trans F3.out (fun x hx => .inl hx)) rfl ?_⟩
              have hfr : Fr [a, m] w3 w5 := (((hfr3.out.mono (T := [a, m]) (fun x hx => by simp at hx; simp [hx])).grown G4.out (fun k hk => by cases hk; exact .inl (by simp))).grown G5.out (fun k hk => by cases hk; exact .inl (by simp)))
              refine rename_done H3.out HF.out HST.out OA.out hfr ?_ ?_
              · have ha := blk_lt hb3.out
                rw [G5.out.block a (by have := G4.out.size; omega) (fun e => H3.out.sep.am (Option.some.inj e)), G4.out.block a ha (fun e => H3.out.sep.am (Option.some.inj e)), hb3.out]
                have e9 : ({ D.tick with L := D.renL s.data.toList t.data.toList } : AD).used = D.used - g.data.size := by
                  have h8 := RT.out.1
                  unfold AD.used
                  show ((totL (D.renL s.data.toList t.data.toList) : Nat) : Int) = (totL D.L : Int) - g.data.size
                  omega
                unfold headD
                rw [e9]
                rfl
              · have h9 := MP5.out
                have h10 := hM2.out
                have h11 : (if t.data.toList = s.data.toList then none else mapL lay D.L t.data.toList) = some (some (lay t.data.toList).1) := by rw [if_neg (fun e => HST.out e.symm)]; exact hM.out
                rw [h10] at h9
                simp only [h11, if_true, Option.isSome_some] at h9
                rw [show (D.renL s.data.toList t.data.toList).length = D.L.length - 1 from by have := RT.out.2; omega]
                exact h9
      · have E : Aside0 (D.rename s.data.toList t.data.toList = (D, D.findE s.data.toList)) := ⟨by unfold AD.rename; rw [if_pos (by rw [hr]; exact he), hr]⟩
        have hq : D.findQ lay s.data.toList = none := if_neg he
        rw [E.out]
        rw [hq] at cF
        generalize D.findE s.data.toList = e0 at cF he he3 ⊢
        have e1 : (e0 == 0) = false := by simpa using he
        have e2 : (e0 != 0) = true := by simpa using he
        have e3 : (e0 == 3) = false := by simpa using he3
        have e4 : (e0 != 3) = true := by simpa using he3
        clear h hs ht hq he he3 hr E hn
        go_enter Tryd.func16, Tryd.ntmps16
        go_wp2_with (first
          | (go_at_call 30; refine cF.mono ?_; rintro e w1 ⟨rfl, hb1⟩; have B1 := Aside0.mk hb1; clear hb1; simp only [ptrVal])
          | (go_at_call 29; refine (cN _).mono ?_; rintro e w2 ⟨rfl, hb2⟩))
        go_ret
        have hb := B1.out.trans (hb2.mono B1.out.size)
        exact ⟨rfl, Did.same (H.out.below hb) rfl (Fr.of_below hb _)⟩
end Go.Proofs.YtakhnkkcllfbjaaDoorX
end
section
namespace Go.Proofs.YtakhnkkcllfbjaaDoorX
open Go.RowKit Go.Maps Go.Sort Go.Shelf Go.Proofs.YtakhnkkcllfbjaaDoorW.PrintWords Go.Proofs.YtakhnkkcllfbjaaDoorW.PrintLast Go.Proofs.YtakhnkkcllfbjaaDoorW.PrintMore
set_option linter.unusedVariables false
set_option linter.unusedSimpArgs false
theorem keys_calls (mb : Option Nat) (W : World) : Calls Tryd.prog 33 #[.map mb] W fun e w' => e = .returned (.func (.func 53) #[] #[.pointer (some ⟨W.heap.size, 0, none⟩)]) ∧ w' = W.alloc (.cells #[.map mb] 62) :=
  (callsIn_wide (n := 5)).1 (AnyZ.keys_in YtakhnkkcllfbjaaDoorSh.keysA Fence.wide 5 trivial rfl mb W)
theorem sorts_in (m : Nat) : AnyZ.SortsIn Tryd.prog YtakhnkkcllfbjaaDoorSh.sortedA_ren Fence.wide m :=
  ⟨fun blk off cap ss W hH hblk hsz => callsIn_wide.2 (AnyM.slices_Sort_string YtakhnkkcllfbjaaDoorSh.sortA blk off cap ss W hH hblk hsz),
   fun p cap W => callsIn_wide.2 (AnyM.slices_Sort_string_none YtakhnkkcllfbjaaDoorSh.sortA p cap W)⟩
theorem names_sorted {L : List AF} (h : Rising L) : (namesL L).mergeSort (fun x y => decide (x ≤ y)) = namesL L := by
  refine List.mergeSort_of_pairwise ?_
  refine List.Pairwise.imp (fun hab => ?_) h
  exact decide_eq_true (List.le_of_lt hab)
theorem names_nodup {L : List AF} (h : Rising L) : (namesL L).Nodup := List.Pairwise.imp (fun hab => nm_ne hab) h
theorem mem_names {L : List AF} {x : Nm} : x ∈ namesL L ↔ hasL x L = true := by
  unfold hasL namesL
  rw [List.mem_map]
  constructor
  · rintro ⟨f, hf, rfl⟩
    cases h : findL f.name L with
    | none => exact absurd rfl (findL_none.1 h f hf)
    | some g => rfl
  · intro h
    cases hf : findL x L with
    | none => rw [hf] at h; cases h
    | some g => obtain ⟨h1, h2⟩ := findL_name hf; exact ⟨g, h2, h1⟩
theorem perm_names {w : World} {m : Nat} {lay : Lay} {D : AD} {D0 : DataW Unit} {n : Nat} (h1 : w.ownsMap Tryd.prog 9 ptrElem m n D0) (h3 : ∀ x, Maps.has D0 (.string x) = (mapL lay D.L x).isSome) (hr : Rising D.L) : (namesL D.L).Perm (strKeys D0) := by
  obtain ⟨es, rfl, hp, hk⟩ := h1.entries (Maps.string_keyed Tryd.underlying9)
  obtain ⟨es', he, hk2⟩ := h1.keysOf
  cases he
  refine perm_strKeys hp (fun p hpm => ?_) (names_nodup hr) (fun x => ?_)
  · obtain ⟨v, hv⟩ := hk2 p hpm
    obtain ⟨x, _, h, _⟩ := Maps.keyOf_str Tryd.underlying9 hv
    exact ⟨x, h⟩
  · rw [h3 x, mem_names]
    unfold mapL
    split <;> simp_all
theorem row_shape {w : World} {base : Nat} {e : TypeId} {size : Nat} {v : Value} {n : Nat} {xs : List Value} (h : w.ownsRow base e size v n xs) : ∃ A c, v = .slice A n c := by
  rcases h.2 with ⟨rfl, rfl⟩ | ⟨g, cap, cur, rfl, _⟩
  · exact ⟨_, _, rfl⟩
  · exact ⟨_, _, rfl⟩
theorem sorted_calls {w : World} {a m : Nat} {lay : Lay} {D : AD} (h : DK w a m lay D) :
    Calls Tryd.prog 32 #[.func (.func 53) #[] #[.pointer (some ⟨w.heap.size, 0, none⟩)]] (w.alloc (.cells #[.map (some m)] 62)) fun e w' => ∃ v, e = .returned v ∧ w'.ownsRow w.heap.size 9 1 v D.L.length ((namesL D.L).map encStr) ∧ Below (w.heap.size + 1) (w.alloc (.cells #[.map (some m)] 62)) w' := by
  refine (callsIn_wide (n := 5)).1 ?_
  obtain ⟨D0, hown, hsz, h3⟩ := h.map
  have hbl := hown.lt
  have hmany := h.ok.many
  have hseq : SeqGives Fence.wide 2 Tryd.prog 53 #[.pointer (some ⟨w.heap.size, 0, none⟩)] encStr (fun ss => ss.Perm (strKeys D0)) (Maps.size D0) (w.alloc (.cells #[.map (some m)] 62)) :=
    AnyZ.keys_gives (ρ := YtakhnkkcllfbjaaDoorSh.keysA_ren) { YtakhnkkcllfbjaaDoorSh.keysA with } Fence.wide _ trivial rfl (by omega) w.heap.size m _ D0 _ (by simp) (by simp) (by
      obtain ⟨es, clock, hb, Ft, hs, hD⟩ := hown
      exact ⟨es, clock, (Below.heap_alloc _ _ m hbl).trans hb, Ft, hs, hD⟩)
  have cS := AnyZ.sorted_in YtakhnkkcllfbjaaDoorSh.sortedA Fence.wide 5 trivial trivial trivial trivial rfl (by omega) (sorts_in _) (enters_of Tryd.func52 (by kernel_rfl) rfl) 53 #[.pointer (some ⟨w.heap.size, 0, none⟩)] trivial (enters_of Tryd.func53 (by kernel_rfl) rfl) _ _ (by rw [hsz]; unfold maxLen; omega) (by rw [hsz]; omega) _ hseq
  change CallsIn _ _ Tryd.prog 32 _ _ _ at cS
  refine cS.mono ?_
  rintro e w' ⟨v, ss, rfl, hS, hrow, hnil, hb⟩
  have hp := perm_names hown (fun x => (h3 x).1) h.ok.rising
  have e1 : ss.mergeSort (fun x y => decide (x ≤ y)) = namesL D.L := by
    rw [← names_sorted h.ok.rising]
    exact mergeSort_of_perm (hS.trans hp.symm)
  have e2 : ss.length = D.L.length := by rw [hS.length_eq, ← hp.length_eq]; simp [namesL]
  have hs1 : (w.alloc (.cells #[.map (some m)] 62)).heap.size = w.heap.size + 1 := by simp
  rw [e1, e2, hs1] at hrow
  rw [hs1] at hb
  exact ⟨v, rfl, ownsRow_base_a hrow (by omega), hb⟩
end Go.Proofs.YtakhnkkcllfbjaaDoorX
end
section
namespace Go.Proofs.YtakhnkkcllfbjaaDoorX
open Go.RowKit Go.Proofs.YtakhnkkcllfbjaaDoorW.PrintWords Go.Proofs.YtakhnkkcllfbjaaDoorW.PrintLast Go.Proofs.YtakhnkkcllfbjaaDoorW.PrintMore
open Go.Proofs.YtakhnkkcllfbjaaDoor.PA (S37 k37 z37 k37_mkM)
set_option linter.unusedVariables false
set_option linter.unusedSimpArgs false
theorem info37 : (Tryd.prog.info? 37).map (fun i => (i.zero, i.size, i.bytes)) = some (some (.agg #[.string ⟨#[]⟩, .string ⟨#[]⟩, .int .i64 0]), 3, 40) := by kernel_rfl
def fileT (f : AF) : S37 := ⟨⟨f.name.toArray⟩, f.data, f.safe⟩
def filesT (L : List AF) : List S37 := L.map fileT
theorem names_at {L : List AF} {i : Nat} (h : i < L.length) : ((namesL L).map encStr)[i]? = some (encStr (L[i]).name) := by simp [namesL, h]
theorem R_nil0 {w : World} {base : Nat} {ok : Nat → Prop} : Kd.R k37 37 w base ok (.slice none 0 0) [] := Kd.R_nil _ _ _ _ _
theorem row_cell {w : World} {base : Nat} {e : TypeId} {A : Option Addr} {n m c : Nat} {xs : List Value} (h : w.ownsRow base e 1 (.slice A n c) m xs) {i : Nat} (hi : i < xs.length) {u : Value} (hu : xs[i]? = some u) : ∃ g, A = some ⟨g, 0, none⟩ ∧ w.cell? ⟨g, i, none⟩ = some u := by
  rcases h.2 with ⟨h1, h2⟩ | ⟨g, cap, cur, h1, _, hg, _, _, _, ht⟩
  · have := h.1; omega
  · cases h1
    refine ⟨g, rfl, ?_⟩
    rw [cell_of_row w g i cur e (0, 0) hg]
    rw [← ht, List.getElem?_take] at hu
    split at hu
    · simpa using hu
    · cases hu
theorem Files_calls {w : World} {a m : Nat} {lay : Lay} {D : AD} (h : DK w a m lay D) : Calls Tryd.prog 13 #[.pointer (some ⟨a, 0, none⟩)] w fun e w' => ∃ v, e = .returned v ∧ Kd.R k37 37 w' w.heap.size (fun _ => True) v (filesT D.L) ∧ Below w.heap.size w w' := by
  obtain ⟨c0, c1, c2, c3, c4, c5⟩ := head_cells h.head
  have H := Aside0.mk h
  have cK := keys_calls (some m) w
  have cS := sorted_calls h
  have hmany := h.ok.many
  clear h c0 c2 c3 c4 c5
  go_enter Tryd.func13, Tryd.ntmps13
  go_wp2_with (first
    | (go_at_call 33; refine cK.mono ?_; rintro e w1 ⟨rfl, rfl⟩)
    | (go_at_call 32; refine cS.mono ?_; rintro e w2 ⟨v, rfl, hrow, hb⟩; obtain ⟨A, cv, rfl⟩ := row_shape hrow; have HR := Aside0.mk hrow; have HB : Aside0 (Below w.heap.size w w2) := ⟨((Below.refl _ w).alloc (Nat.le_refl _) _).trans (hb.mono (Nat.le_succ _))⟩; clear hrow hb))
  go_loopg [3, 14] D.L.length (fun kq v3 v14 wr => ∃ i : Nat, v14 = .int .i64 i ∧ Aside0 (i + kq = D.L.length) ∧ Aside0 (Kd.R k37 37 wr w.heap.size (fun k => some k ≠ (Value.slice A D.L.length cv).ownBlock) v3 (filesT (D.L.take i))) ∧ Aside0 (wr.ownsRow w.heap.size 9 1 (.slice A D.L.length cv) D.L.length ((namesL D.L).map encStr)) ∧ Aside0 (Below w.heap.size w wr))
  case atStart => exact ⟨0, rfl, ⟨by omega⟩, ⟨R_nil0⟩, HR, HB⟩
  case round =>
    obtain ⟨i, rfl, h1, h2, h3, h4⟩ := hrel
    by_cases hi : i < D.L.length
    · have e1 : decide ((i : Int) < (D.L.length : Int)) = true := decide_eq_true (by omega)
      have e2 : decide (i < D.L.length) = true := decide_eq_true hi
      have e5 : IntKind.i64.wrap ((i : Int) + 1) = ((i + 1 : Nat) : Int) := by rw [i64_w]; unfold wrap64; omega
      obtain ⟨g, rfl, hc⟩ := row_cell h3.out (by simpa [namesL] using hi) (names_at hi)
      have hmem : D.L[i] ∈ D.L := List.getElem_mem hi
      have hnext : D.L.take (i + 1) = D.L.take i ++ [D.L[i]] := by rw [List.take_add_one, List.getElem?_eq_getElem hi]; rfl
      generalize D.L[i] = f at hc hmem hnext
      have H1 := H.out.below h4.out
      have c1r := (head_cells H1.head).2.1
      have hf : findL f.name D.L = some f := findL_mem H.out.ok.rising hmem
      have hat := H1.at hf
      obtain ⟨fp, fc, hv⟩ := hat.2.shape
      obtain ⟨d0, d1⟩ := file_cells hat
      rw [hv] at d0
      have dv := hat.2.back (P := Tryd.prog) 68 9 Tryd.underlying68 Tryd.underlying5 Tryd.underlying9
      rw [hv] at dv
      have dv2 : (convert 68 9 (.slice fp f.data.size fc)).run Tryd.prog wr.drew = .ok (.string f.data) wr.drew := by
        have h9 := (H1.step (w' := wr.drew) (fun _ _ => rfl)).at hf
        have h10 := h9.2.back (P := Tryd.prog) 68 9 Tryd.underlying68 Tryd.underlying5 Tryd.underlying9
        rw [hv] at h10
        exact h10
      have hM : Aside0 (mapL lay D.L f.name = some (some (lay f.name).1)) := ⟨mapL_some hf⟩
      have MP := Aside0.mk H1.map
      have HN : Aside0 ((⟨f.name.toArray⟩ : ByteArray).size ≤ maxLen) := ⟨by have := H.out.ok.named _ hmem; simp only [named, Bool.and_eq_true, decide_eq_true_eq] at this; show f.name.toArray.size ≤ _; simp only [List.size_toArray, maxLen]; omega⟩
      have HI := Aside0.mk hi
      have DV := Aside0.mk (And.intro dv dv2)
      clear dv dv2
      have NX := Aside0.mk hnext
      clear H1 hf hat hv hmem hnext
      go_upto_region 6 with (at_lookup; refine wp_look rfl MP.out _ _ rfl Tryd.underlying9 Tryd.underlying62 (Tryd.zeroValue65 wr) rfl ⟨f.name.toArray⟩ rfl HN.out ?_; simp only [List.toList_toArray]; rw [hM.out]; simp only [Option.getD, ptrVal])
      obtain ⟨dv, dv2⟩ := DV.out
      have aF : Aside0 (∀ k, wr.drew.heap.size ≤ k → some k ≠ (Value.slice (some ⟨g, 0, none⟩) D.L.length cv).ownBlock) := ⟨fun k hk e => by have := (World.ownsRow.lt h3.out k e.symm).2; exact absurd hk (by show ¬ wr.heap.size ≤ k; omega)⟩
      have aL : Aside0 (((filesT (D.L.take i)).length + 1) * 40 ≤ 140737488355328) := ⟨by have := HI.out; simp only [filesT, List.length_map, List.length_take]; omega⟩
      go_region_law (refine Kd.R_append_step k37 (w0 := w) w.heap.size (by rfl) (.tmp 24) (.tmp 36) 32 37 _ 40 rfl Tryd.underlying32 info37 rfl (by decide) (by omega) _ (filesT (D.L.take i)) (fileT f) [.string ⟨f.name.toArray⟩, .string f.data, .int .i64 f.safe] (fun k => some k ≠ (Value.slice (some ⟨g, 0, none⟩) D.L.length cv).ownBlock) (fun _ => False) rfl rfl (k37_mkM _ _ _ (fileT f)) (fun _ hk => hk.elim) aF.out (Kd.R_drew h2.out) h4.out.drew h4.out.size aL.out ?_; intro v1 w1 hR1 hB1 hg1 hat1; replace hR1 := Aside0.mk hR1; replace hB1 := Aside0.mk hB1; replace hg1 := Aside0.mk hg1; clear hat1)
      all_goals (go_wp2; go_roundg (D.L.length - (i + 1)))
      all_goals first
        | (have h1' := h1.out; have hi' := HI.out; omega)
        | skip
      all_goals (refine ⟨i + 1, by simp, ⟨by have h1' := h1.out; have hi' := HI.out; omega⟩, ⟨?_⟩, ⟨?_⟩, hB1⟩)
      all_goals first
        | (rw [NX.out]; simp only [filesT, List.map_append]; exact hR1.out)
        | (exact World.ownsRow.kept (w := wr.drew) h3.out hg1.out (.inr (fun e => h2.out.1 g e.symm rfl)))
    · have e1 : decide ((i : Int) < (D.L.length : Int)) = false := decide_eq_false (by omega)
      have e2 : decide (i < D.L.length) = false := decide_eq_false hi
      have hi2 : i = D.L.length := by have := h1.out; omega
      have HT : Aside0 (D.L.take i = D.L) := ⟨by rw [hi2]; exact List.take_length⟩
      clear hi hi2
      go_wp2
      go_ret
      refine ⟨_, rfl, ?_, h4.out⟩
      have h9 := h2.out
      rw [HT.out] at h9
      exact Kd.R_mono h9 (fun _ _ => trivial)
end Go.Proofs.YtakhnkkcllfbjaaDoorX
end
