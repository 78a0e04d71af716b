/- The reference's puts; no conditions beyond those in each theorem's head. -/
import Derived.Test.YtakhnkkcllfbjaaDoorR1
namespace Go.Proofs.YtakhnkkcllfbjaaDoorX
open Go.RowKit Go.Proofs.YtakhnkkcllfbjaaDoorW.PrintWords Go.Proofs.YtakhnkkcllfbjaaDoorW.PrintLast Go.Proofs.YtakhnkkcllfbjaaDoorW.PrintMore
open Go.Proofs.YtakhnkkcllfbjaaDoor.PA (S37 k37 z37 k37_open k37_openM k37_mk k37_mkM rd_T37 at_T37)
set_option linter.unusedVariables false
set_option linter.unusedSimpArgs false
/-- The reference's disk with a row in the making. -/
structure RefS (w : World) (r : Nat) (v : Value) (D : AD) (l : List S37) : Prop where
  head : w.heap[r]? = some (.cells #[.int .i64 D.size, v, .int .i64 D.armed, .bool D.down, .int .i64 D.steps] 79 (0, 0))
  row : Row37 w v l
theorem RefS.apart {w : World} {r : Nat} {v : Value} {D : AD} {l : List S37} (h : RefS w r v D l) : r ∉ v.ownBlock.toList := fun hr => by
  have h9 := Kd.R_ne h.row h.head (by decide)
  exact h9 (by have h8 : v.ownBlock = some r := by simpa using hr
               exact h8.symm)
theorem RefS.step {w w' : World} {r : Nat} {v : Value} {D : AD} {l : List S37} (h : RefS w r v D l) (hb : ∀ k ∈ r :: v.ownBlock.toList, w'.heap[k]? = w.heap[k]?) : RefS w' r v D l :=
  ⟨(hb r (by simp)).trans h.head, h.row.step (fun k hk => hb k (by simp only [List.mem_cons]; exact .inr hk))⟩
theorem RefS.lt {w : World} {r : Nat} {v : Value} {D : AD} {l : List S37} (h : RefS w r v D l) : ∀ k ∈ r :: v.ownBlock.toList, k < w.heap.size := fun k hk => by
  simp only [List.mem_cons] at hk
  rcases hk with rfl | hk
  · exact blk_lt h.head
  · exact h.row.lt k hk
theorem RefS.below {w w' : World} {r : Nat} {v : Value} {D : AD} {l : List S37} (h : RefS w r v D l) (hb : Below w.heap.size w w') : RefS w' r v D l := h.step (fun k hk => hb.block k (h.lt k hk))
/-- What a call of the reference's has done to its disk. -/
def RDid (w w' : World) (r : Nat) (v : Value) (D' : AD) : Prop := ∃ v', RefAt w' r v' D' ∧ Fr (r :: v.ownBlock.toList) w w' ∧ ∀ k ∈ v'.ownBlock.toList, k ∈ v.ownBlock.toList ∨ w.heap.size ≤ k
/-- A file put: over the one of its name, or beside. -/
def putR (f : AF) (L : List AF) : List AF := match L[placeL f.name L]? with
  | some g => if g.name = f.name then L.set (placeL f.name L) f else L.take (placeL f.name L) ++ f :: L.drop (placeL f.name L)
  | none => L.take (placeL f.name L) ++ f :: L.drop (placeL f.name L)
theorem shift_set {α : Type} {l : List α} {k : Nat} {q y : α} (hk : l[k]? = some y) : (l.take (k + 1) ++ q :: l.drop (k + 1)).set (k + 1) y = l.take k ++ y :: l.drop k := by
  have hl := (List.getElem?_eq_some_iff.1 hk).1
  have e1 : (l.take (k + 1)).length = k + 1 := by rw [List.length_take]; omega
  have e2 : l.take (k + 1) = l.take k ++ [y] := by rw [List.take_add_one, hk]; rfl
  have e3 : l.drop k = y :: l.drop (k + 1) := by
    rw [List.drop_eq_getElem_cons hl]
    have := (List.getElem?_eq_some_iff.1 hk).2
    rw [this]
  rw [List.set_append_right _ _ (by omega), e1, Nat.sub_self, List.set_cons_zero, e2, e3, List.append_assoc]
  rfl
theorem last_set {α : Type} {l : List α} {k : Nat} {q y : α} (hk : k ≤ l.length) : (l.take k ++ q :: l.drop k).set k y = l.take k ++ y :: l.drop k := by
  have e1 : (l.take k).length = k := by rw [List.length_take]; omega
  rw [List.set_append_right _ _ (by omega), e1, Nat.sub_self, List.set_cons_zero]
theorem shift_len {α : Type} {l : List α} {k : Nat} {q : α} (hk : k ≤ l.length) : (l.take k ++ q :: l.drop k).length = l.length + 1 := by
  rw [List.length_append, List.length_cons, List.length_take, List.length_drop]; omega
theorem shift_get {α : Type} {l : List α} {k : Nat} {q y : α} (hk : l[k]? = some y) : (l.take (k + 1) ++ q :: l.drop (k + 1))[k]? = some y := by
  have hl := (List.getElem?_eq_some_iff.1 hk).1
  rw [List.getElem?_append_left (by rw [List.length_take]; omega), List.getElem?_take, if_pos (by omega), hk]
theorem filesT_putA {L : List AF} {i : Nat} {f : AF} : filesT (L.take i ++ f :: L.drop i) = (filesT L).take i ++ fileT f :: (filesT L).drop i := by
  simp [filesT, List.map_take, List.map_drop]
theorem filesT_set {L : List AF} {i : Nat} {f : AF} : filesT (L.set i f) = (filesT L).set i (fileT f) := by
  simp [filesT, List.map_set]
/-- A row element is turned. -/
theorem RefS.put {w : World} {r g c : Nat} {D : AD} {l : List S37} (h : RefS w r (.slice (some ⟨g, 0, none⟩) l.length c) D l) {i : Nat} (hi : i < l.length) (x : S37) :
    RefS (((w.setCell ⟨g, i * 3, none⟩ (.string x.f0)).setCell ⟨g, i * 3 + 1, none⟩ (.string x.f1)).setCell ⟨g, i * 3 + 2, none⟩ (.int .i64 x.f2)) r (.slice (some ⟨g, 0, none⟩) l.length c) D (l.set i x) := by
  refine ⟨?_, h.row.put hi x⟩
  rw [put_other (fun e => h.apart (by rw [e]; simp [Value.ownBlock]))]
  exact h.head
theorem put_fr {S : List Nat} {a w : World} {g i : Nat} {x y z : Value} (h : Fr S a w) (hg : g ∈ S ∨ a.heap.size ≤ g) : Fr S a (((w.setCell ⟨g, i * 3, none⟩ x).setCell ⟨g, i * 3 + 1, none⟩ y).setCell ⟨g, i * 3 + 2, none⟩ z) :=
  ((h.setCell (p := ⟨g, i * 3, none⟩) hg x).setCell (p := ⟨g, i * 3 + 1, none⟩) hg y).setCell (p := ⟨g, i * 3 + 2, none⟩) hg z
theorem row_frozen {w : World} {g c : Nat} {l : List S37} (h : Row37 w (.slice (some ⟨g, 0, none⟩) l.length c) l) (hl : 0 < l.length) : ∃ cells, w.heap[g]? = some (.cells cells 37 (0, 0)) := by
  obtain ⟨g', cap, hv, _, _, cells, hc⟩ := Kd.R_form h hl
  cases hv
  exact ⟨cells, hc⟩
theorem info37r : (Tryd.prog.info? 37).map (fun i => (i.zero, i.size, i.bytes)) = some (some (.agg #[.string ⟨#[]⟩, .string ⟨#[]⟩, .int .i64 0]), 3, 40) := by kernel_rfl
/-- A file without anything is appended, and the head told so. -/
theorem app_refS {W w1 : World} {r : Nat} {v v1 : Value} {D : AD} (h : RefAt W r v D) (hR : Row37 w1 v1 (filesT D.L ++ [z37])) (hg : W.grownBy w1 v.ownBlock) (hat : v1.ownBlock = v.ownBlock ∨ ∃ b, v1.ownBlock = some b ∧ W.heap.size ≤ b) :
    RefS (w1.setCell ⟨r, 1, none⟩ v1) r v1 D (filesT D.L ++ [z37]) ∧ w1.heap[r]? = some (.cells #[.int .i64 D.size, v, .int .i64 D.armed, .bool D.down, .int .i64 D.steps] 79 (0, 0)) ∧ (∀ k ∈ v1.ownBlock.toList, k ∈ v.ownBlock.toList ∨ W.heap.size ≤ k) ∧ r ∉ v1.ownBlock.toList := by
  have hr := blk_lt h.head
  have hsub : ∀ k ∈ v1.ownBlock.toList, k ∈ v.ownBlock.toList ∨ W.heap.size ≤ k := fun k hk => by
    rcases hat with h9 | ⟨b, h9, hb⟩
    · rw [h9] at hk; exact .inl hk
    · rw [h9] at hk
      simp at hk
      subst hk
      exact .inr hb
  have hn : r ∉ v1.ownBlock.toList := fun hk => by
    rcases hsub r hk with h9 | h9
    · exact h.apart h9
    · omega
  have hh : w1.heap[r]? = some (.cells #[.int .i64 D.size, v, .int .i64 D.armed, .bool D.down, .int .i64 D.steps] 79 (0, 0)) := by
    rw [hg.block _ hr (fun e => h.apart (by rw [← e]; simp))]
    exact h.head
  exact ⟨⟨blk_put hh 1 _ rfl, hR.step (fun k hk => Below.heap_setCell _ _ _ _ (by show k ≠ r; exact fun e => hn (e ▸ hk)))⟩, hh, hsub, hn⟩
theorem putR_ins {f : AF} {L : List AF} (h : ∀ g, L[placeL f.name L]? = some g → g.name ≠ f.name) : putR f L = L.take (placeL f.name L) ++ f :: L.drop (placeL f.name L) := by
  unfold putR
  cases hq : L[placeL f.name L]? with
  | none => rfl
  | some g => exact if_neg (h g hq)
set_option maxRecDepth 100000 in
set_option maxHeartbeats 8000000 in
theorem puts_calls {w : World} {r : Nat} {v : Value} {D : AD} (h : RefAt w r v D) (f : AF) (hm : D.L.length ≤ 64) :
    Calls Tryd.prog 35 #[.pointer (some ⟨r, 0, none⟩), .agg #[.string ⟨f.name.toArray⟩, .string f.data, .int .i64 f.safe]] w fun e w' => e = .returned (.tuple #[]) ∧ RDid w w' r v { D with L := putR f D.L } := by
  have hu := Tryd.underlying37
  have H := Aside0.mk h
  have cP : Aside0 (∀ w1, RefAt w1 r v D → Calls Tryd.prog 54 #[.pointer (some ⟨r, 0, none⟩), .string ⟨f.name.toArray⟩] w1 fun e w' => e = .returned (.int .i64 (placeL f.name D.L)) ∧ Below w1.heap.size w1 w') := ⟨fun w1 h1 => place_calls h1 ⟨f.name.toArray⟩⟩
  obtain ⟨A, c, rfl, hc, hL⟩ := ref_shape h
  have HL := Aside0.mk hm
  obtain ⟨i, hi⟩ : ∃ i, placeL f.name D.L = i := ⟨_, rfl⟩
  have HI := Aside0.mk hi
  have hle : i ≤ D.L.length := by rw [← hi]; exact placeL_le _ _
  have HLE := Aside0.mk hle
  rw [hi] at cP
  clear h hc hL hm hi
  obtain ⟨f0, f1, f2⟩ := f
  go_enter Tryd.func35, Tryd.ntmps35
  go_upto_region 2 with (first
    | ((with_reducible refine gate_dst (N := 3) rfl ?_); refine box_event ?hg (N := 3) ?hd (cs := #[.string ⟨f0.toArray⟩, .string f1, .int .i64 f2]) (t := 37) ?hr ?_; (case hd => rfl); (case hg => rfl); (case hr => first | (go_simp; done) | (go_simp; rfl)); intro gb hg w1 hbox hb; have HG := Aside0.mk hg; have BK := Aside0.mk hbox; have B1 := Aside0.mk hb; obtain ⟨q0, q1, q2⟩ := file_box hbox; clear hb hbox hg)
    | (go_at_call 54; refine (cP.out _ (H.out.below B1.out)).mono ?_; rintro e w2 ⟨rfl, hb2⟩; have B2 := Aside0.mk (B1.out.trans (hb2.mono B1.out.size)); have BK2 := Aside0.mk (blk_below BK.out hb2); clear hb2 q0 q1 q2 cP))
  obtain ⟨q0, q1, q2⟩ := file_box BK2.out
  have R2 := Aside0.mk (H.out.below B2.out)
  obtain ⟨c0, c1, -⟩ := ref_cells R2.out.head
  by_cases hil : i < D.L.length
  · have e1 : ((i : Int) == (D.L.length : Int)) = false := by rw [beq_eq_false_iff_ne]; omega
    have e1' : (i == D.L.length) = false := by rw [beq_eq_false_iff_ne]; omega
    obtain ⟨q, hq⟩ : ∃ q, D.L[i]? = some q := ⟨_, List.getElem?_eq_getElem hil⟩
    obtain ⟨g, cc, hv, p0, p1, p2⟩ := ref_at R2.out hq
    cases hv
    have HQ := Aside0.mk hq
    by_cases hn : q.name = f0
    · have e2 : (q.name == f0) = true := by rw [beq_iff_eq]; exact hn
      have e2' : (f0 == f0) = true := by simp
      have HN := Aside0.mk hn
      clear hq
      go_region
      go_upto_region 8 with fail
      obtain ⟨cells, hgb⟩ := row_frozen (l := filesT D.L) (by rw [filesT, List.length_map]; exact R2.out.row) (by rw [filesT, List.length_map]; omega)
      have z0 := blk_frozen hgb (i * 3)
      have z1 := blk_frozen hgb (i * 3 + 1)
      have z2 := blk_frozen hgb (i * 3 + 2)
      clear hgb
      have hil' := Aside0.mk hil
      go_region
      go_wp2
      go_end0
      refine ⟨rfl, _, ?_, ?_, fun k hk => .inl hk⟩
      · have h9 : Row37 w2 (.slice (some ⟨g, 0, none⟩) (filesT D.L).length c) (filesT D.L) := by rw [filesT, List.length_map]; exact R2.out.row
        have h8 : i < (filesT D.L).length := by rw [filesT, List.length_map]; exact hil'.out
        have hap := R2.out.apart
        refine RefAt.below (w := (((w2.setCell ⟨g, i * 3, none⟩ (.string ⟨f0.toArray⟩)).setCell ⟨g, i * 3 + 1, none⟩ (.string f1)).setCell ⟨g, i * 3 + 2, none⟩ (.int .i64 f2))) ⟨?_, ?_⟩ ?_
        · rw [put_other (fun e => hap (by rw [e]; simp [Value.ownBlock]))]
          exact R2.out.head
        · have h7 := h9.put h8 (fileT ⟨f0, f1, f2⟩)
          rw [filesT, List.length_map] at h7
          have h6 : putR ⟨f0, f1, f2⟩ D.L = D.L.set i ⟨f0, f1, f2⟩ := by
            unfold putR
            rw [HI.out, HQ.out]
            exact if_pos HN.out
          show Row37 _ _ (filesT (putR ⟨f0, f1, f2⟩ D.L))
          rw [h6, filesT_set]
          exact h7
        · apply below_drew1; apply below_drew1; exact Below.refl _ _
      · exact (put_fr (Fr.of_below B2.out _) (.inl (by simp [Value.ownBlock]))).drew.drew
    · have e2 : (q.name == f0) = false := by rw [beq_eq_false_iff_ne]; exact hn
      have hname : (⟨q.name.toArray⟩ : ByteArray) = ⟨q.name.toArray⟩ := rfl
      have HIN : Aside0 (putR ⟨f0, f1, f2⟩ D.L = D.L.take i ++ ⟨f0, f1, f2⟩ :: D.L.drop i) := ⟨by
        have h9 := putR_ins (f := ⟨f0, f1, f2⟩) (L := D.L) (fun g hg => by rw [HI.out, HQ.out] at hg; obtain rfl := Option.some.inj hg; exact hn)
        rwa [HI.out] at h9⟩
      clear hq hn hname
      go_region
      clear p0 p1 p2
      obtain ⟨W, hW⟩ : ∃ W, w2.drew = W := ⟨_, rfl⟩
      have RW := Aside0.mk (R2.out.below (w' := W) (by rw [← hW]; apply below_drew1; exact Below.refl _ _))
      have BW : Aside0 (Below w.heap.size w W) := ⟨by rw [← hW]; apply below_drew1; exact B2.out⟩
      have KW : Aside0 (W.heap[gb]? = some (.cells #[.string ⟨f0.toArray⟩, .string f1, .int .i64 f2] 37 (0, 0))) := ⟨by rw [← hW]; exact BK2.out⟩
      rw [hW]
      clear hW c0 c1 q0 q1 q2
      obtain ⟨c0, c1, -⟩ := ref_cells RW.out.head
      go_upto_region 4 with (((with_reducible refine gate_dst (N := 37) rfl ?_); refine Kd.R_append k37 (w0 := W) 0 rfl (.tmp 34) (.tmp 36) 32 37 _ 40 rfl Tryd.underlying32 info37r rfl (by decide) (by decide) _ (filesT D.L) z37 [.string ⟨#[]⟩, .string ⟨#[]⟩, .int .i64 0] (fun _ => True) (fun _ => False) rfl rfl (k37_mkM _ _ _ z37) (fun _ hk => hk.elim) (fun _ _ => trivial) RW.out.row (Below.refl _ _) (Nat.zero_le _) (by rw [filesT, List.length_map]; have := HL.out; omega) ?_; intro v1 w3 hR1 hB1 hg1 hat1; have AP := Aside0.mk (app_refS RW.out hR1 hg1 hat1); have G1 : Aside0 (W.grownBy w3 (Value.slice (some ⟨g, 0, none⟩) D.L.length c).ownBlock) := ⟨hg1⟩; have z1 := blk_frozen AP.out.2.1 1; have c1' := (ref_cells AP.out.2.1).2.1; obtain ⟨g1, cap1, rfl, -⟩ := Kd.R_form hR1 (by simp); have hln : (filesT D.L ++ [z37]).length = D.L.length + 1 := (by simp [filesT]); rw [hln] at AP ⊢; clear hR1 hB1 hg1 hat1))
      have hlf : (filesT D.L).length = D.L.length := by rw [filesT, List.length_map]
      obtain ⟨W4, hW4⟩ : ∃ W4, (w3.setCell ⟨r, 1, none⟩ (.slice (some ⟨g1, 0, none⟩) (D.L.length + 1) cap1)) = W4 := ⟨_, rfl⟩
      have RS := AP.out.1
      have hsub : ∀ k ∈ (Value.slice (some ⟨g1, 0, none⟩) (D.L.length + 1) cap1).ownBlock.toList, k ∈ (Value.slice (some ⟨g, 0, none⟩) D.L.length c).ownBlock.toList ∨ w.heap.size ≤ k := fun k hk => (AP.out.2.2.1 k hk).imp id (fun h9 => Nat.le_trans BW.out.size h9)
      have hgr : g1 ∈ r :: (Value.slice (some ⟨g, 0, none⟩) D.L.length c).ownBlock.toList ∨ w.heap.size ≤ g1 := (hsub g1 (by simp [Value.ownBlock])).imp (fun h9 => by simp only [List.mem_cons]; exact .inr h9) id
      have hgb : W4.heap[gb]? = some (.cells #[.string ⟨f0.toArray⟩, .string f1, .int .i64 f2] 37 (0, 0)) := by
        have hne : gb ≠ r := by have := blk_lt H.out.head; have := HG.out; omega
        rw [← hW4, Below.heap_setCell _ _ _ _ (by show gb ≠ r; exact hne), G1.out.block _ (blk_lt KW.out) (fun e => by
          have h9 := H.out.row.lt gb (by rw [← e]; simp)
          have := HG.out
          omega)]
        exact KW.out
      have hfr : Fr (r :: (Value.slice (some ⟨g, 0, none⟩) D.L.length c).ownBlock.toList) w W4 := by
        rw [← hW4]
        exact ((Fr.of_below BW.out _).grown G1.out (fun k hk => .inl (by simp only [List.mem_cons]; right; rw [hk]; simp))).setCell (p := ⟨r, 1, none⟩) (.inl (by simp)) _
      rw [hW4] at RS ⊢
      have RS' := Aside0.mk RS
      have HSUB := Aside0.mk hsub
      have HGR := Aside0.mk hgr
      have HGB := Aside0.mk hgb
      have HFR := Aside0.mk hfr
      have hgne : Aside0 (gb ≠ g1) := ⟨fun e => by
        have h9 := RS.row.lt g1 (by simp [Value.ownBlock])
        obtain ⟨cells, hc9⟩ := row_frozen (l := filesT D.L ++ [z37]) (g := g1) (c := cap1) (by rw [List.length_append, hlf]; exact RS.row) (by simp)
        have h8 := HSUB.out g1 (by simp [Value.ownBlock])
        rcases h8 with h8 | h8
        · have h7 := H.out.row.lt g1 h8
          have := HG.out
          omega
        · rcases AP.out.2.2.1 g1 (by simp [Value.ownBlock]) with h7 | h7
          · have h6 := H.out.row.lt g1 h7
            have := HG.out
            omega
          · have h6 := blk_lt KW.out
            omega⟩
      obtain ⟨-, c1, -⟩ := ref_cells RS.head
      have e20 : IntKind.i64.wrap (((D.L.length + 1 : Nat) : Int) - 1) = (D.L.length : Int) := by have := HL.out; rw [i64_w]; unfold wrap64; omega
      have e21 : IntKind.i64.wrap ((D.L.length : Int) + 1 - 1) = (D.L.length : Int) := by have := HL.out; rw [i64_w]; unfold wrap64; omega
      have e22 : IntKind.i64.wrap (D.L.length : Int) = (D.L.length : Int) := by have := HL.out; rw [i64_w]; unfold wrap64; omega
      clear RS hW4 hsub hgr hgb hfr AP G1 hlf c1' z1 c0
      go_wp2
      go_loopg [5] (D.L.length - i) (fun kq v5 wr => ∃ (k : Nat) (q : S37), v5 = .int .i64 k ∧ Aside0 (i + kq = k ∧ k ≤ D.L.length) ∧ Aside0 (RefS wr r (.slice (some ⟨g1, 0, none⟩) (D.L.length + 1) cap1) D ((filesT D.L).take k ++ q :: (filesT D.L).drop k)) ∧ Aside0 (wr.heap[gb]? = some (.cells #[.string ⟨f0.toArray⟩, .string f1, .int .i64 f2] 37 (0, 0))) ∧ Aside0 (Fr (r :: (Value.slice (some ⟨g, 0, none⟩) D.L.length c).ownBlock.toList) w wr))
      case atStart => exact ⟨D.L.length, z37, rfl, ⟨by have := HLE.out; omega, Nat.le_refl _⟩, ⟨by have h9 : (filesT D.L).length = D.L.length := (by rw [filesT, List.length_map]); rw [← h9, List.take_length, List.drop_length]; have h8 := RS'.out; rw [← h9] at h8; exact h8⟩, HGB, HFR⟩
      case round =>
        clear c1 RS' HGB HFR
        obtain ⟨k, q9, rfl, h1, h2, h3, h4⟩ := hrel
        obtain ⟨-, c1, -⟩ := ref_cells h2.out.head
        have hlen : ((filesT D.L).take k ++ q9 :: (filesT D.L).drop k).length = D.L.length + 1 := by
          have h9 : (filesT D.L).length = D.L.length := (by rw [filesT, List.length_map])
          rw [shift_len (by rw [h9]; exact h1.out.2), h9]
        have hrow : Row37 wr (.slice (some ⟨g1, 0, none⟩) ((filesT D.L).take k ++ q9 :: (filesT D.L).drop k).length cap1) ((filesT D.L).take k ++ q9 :: (filesT D.L).drop k) := by rw [hlen]; exact h2.out.row
        obtain ⟨cells, hcb⟩ := row_frozen hrow (by omega)
        have y0 := blk_frozen hcb (k * 3)
        have y1 := blk_frozen hcb (k * 3 + 1)
        have y2 := blk_frozen hcb (k * 3 + 2)
        have e32 : k < D.L.length + 1 := by have := h1.out.2; omega
        have e33 : k ≤ D.L.length := h1.out.2
        have e36 : (k : Int) < (D.L.length : Int) + 1 := by have := h1.out.2; omega
        obtain ⟨g8, c8, hv8, x0, x1, x2⟩ := hrow.at (i := k) (x := q9) (by rw [List.getElem?_append_right (by rw [List.length_take]; omega), List.length_take, Nat.min_eq_left (by rw [filesT, List.length_map]; exact e33), Nat.sub_self]; rfl)
        cases hv8
        have HROW := Aside0.mk hrow
        have HLEN := Aside0.mk hlen
        by_cases hki : i < k
        · obtain ⟨k', rfl⟩ : ∃ k', k = k' + 1 := ⟨k - 1, by omega⟩
          obtain ⟨kk, hkk⟩ : ∃ kk, kk = k' + 1 := ⟨_, rfl⟩
          have HKK := Aside0.mk hkk
          have HKI := Aside0.mk hki
          obtain ⟨y, hy⟩ : ∃ y, (filesT D.L)[k']? = some y := ⟨_, List.getElem?_eq_getElem (by rw [filesT, List.length_map]; omega)⟩
          have hy2 := shift_get (q := q9) hy
          obtain ⟨g9, c9, hv9, p0, p1, p2⟩ := hrow.at hy2
          cases hv9
          have e30 : decide ((i : Int) < (kk : Int)) = true := decide_eq_true (by omega)
          have e30' : decide (i < kk) = true := decide_eq_true (by omega)
          have e31 : IntKind.i64.wrap ((kk : Int) - 1) = (k' : Int) := by have := HL.out; rw [i64_w]; unfold wrap64; omega
          have e34 : k' < D.L.length + 1 := by omega
          have e35 : k' ≤ D.L.length := by omega
          have e37 : (k' : Int) < (D.L.length : Int) + 1 := by omega
          have HY := Aside0.mk hy
          rw [← hkk] at e32 e33 e36 y0 y1 y2 x0 x1 x2 ⊢
          clear hkk hki hy hy2 hrow hlen hcb
          go_upto_region 7 with fail
          go_region
          go_wp2
          go_roundg (k' - i)
          case measure => have := h1.out; have := HKK.out; have := HKI.out; omega
          case rel =>
            refine ⟨k', y, by simp, ⟨by have := HKI.out; omega, by have := h1.out.2; omega⟩, ⟨?_⟩, ⟨?_⟩, ⟨(put_fr h4.out HGR.out).drew⟩⟩
            · have h9 : RefS wr r (.slice (some ⟨g1, 0, none⟩) ((filesT D.L).take (k' + 1) ++ q9 :: (filesT D.L).drop (k' + 1)).length cap1) D ((filesT D.L).take (k' + 1) ++ q9 :: (filesT D.L).drop (k' + 1)) := by rw [HLEN.out]; exact h2.out
              have h8 := h9.put (i := k' + 1) (by rw [HLEN.out]; have := h1.out.2; omega) y
              rw [shift_set HY.out, HLEN.out, ← HKK.out] at h8
              exact h8.step (fun _ _ => rfl)
            · show ((((wr.setCell _ _).setCell _ _).setCell _ _).heap[gb]?) = _
              rw [put_other hgne.out]
              exact h3.out
        · have hki2 : k = i := by have := h1.out.1; omega
          subst hki2
          have e30 : decide ((k : Int) < (k : Int)) = false := decide_eq_false (by omega)
          have e30' : decide (k < k) = false := decide_eq_false (by omega)
          obtain ⟨q0, q1, q2⟩ := file_box h3.out
          clear hki hrow hlen hcb
          go_upto_region 8 with fail
          go_region
          go_wp2
          go_end0
          have h9 : RefS wr r (.slice (some ⟨g1, 0, none⟩) ((filesT D.L).take k ++ q9 :: (filesT D.L).drop k).length cap1) D ((filesT D.L).take k ++ q9 :: (filesT D.L).drop k) := by rw [HLEN.out]; exact h2.out
          have h8 := h9.put (i := k) (by rw [HLEN.out]; have := h1.out.2; omega) (fileT ⟨f0, f1, f2⟩)
          rw [last_set (by rw [filesT, List.length_map]; exact h1.out.2), HLEN.out, ← filesT_putA, ← HIN.out] at h8
          have h7 : RefS ((((wr.setCell ⟨g1, k * 3, none⟩ (.string ⟨f0.toArray⟩)).setCell ⟨g1, k * 3 + 1, none⟩ (.string f1)).setCell ⟨g1, k * 3 + 2, none⟩ (.int .i64 f2)).drew) r (.slice (some ⟨g1, 0, none⟩) (D.L.length + 1) cap1) D (filesT (putR ⟨f0, f1, f2⟩ D.L)) := h8.step (fun _ _ => rfl)
          refine ⟨rfl, _, ⟨h7.head, h7.row⟩, (put_fr h4.out HGR.out).drew, HSUB.out⟩
  · have e1 : ((i : Int) == (D.L.length : Int)) = true := by rw [beq_iff_eq]; omega
    have e1' : (i == D.L.length) = true := by rw [beq_iff_eq]; omega
    have HIN : Aside0 (putR ⟨f0, f1, f2⟩ D.L = D.L.take i ++ ⟨f0, f1, f2⟩ :: D.L.drop i) := ⟨by
      have h9 := putR_ins (f := ⟨f0, f1, f2⟩) (L := D.L) (fun g hg => by rw [HI.out] at hg; exact absurd (List.getElem?_eq_some_iff.1 hg).1 hil)
      rwa [HI.out] at h9⟩
    go_region
    obtain ⟨W, hW⟩ : ∃ W, w2.drew = W := ⟨_, rfl⟩
    have RW := Aside0.mk (R2.out.below (w' := W) (by rw [← hW]; apply below_drew1; exact Below.refl _ _))
    have BW : Aside0 (Below w.heap.size w W) := ⟨by rw [← hW]; apply below_drew1; exact B2.out⟩
    have KW : Aside0 (W.heap[gb]? = some (.cells #[.string ⟨f0.toArray⟩, .string f1, .int .i64 f2] 37 (0, 0))) := ⟨by rw [← hW]; exact BK2.out⟩
    rw [hW]
    clear hW c0 c1 q0 q1 q2
    obtain ⟨c0, c1, -⟩ := ref_cells RW.out.head
    go_upto_region 4 with (((with_reducible refine gate_dst (N := 37) rfl ?_); refine Kd.R_append k37 (w0 := W) 0 rfl (.tmp 34) (.tmp 36) 32 37 _ 40 rfl Tryd.underlying32 info37r rfl (by decide) (by decide) _ (filesT D.L) z37 [.string ⟨#[]⟩, .string ⟨#[]⟩, .int .i64 0] (fun _ => True) (fun _ => False) rfl rfl (k37_mkM _ _ _ z37) (fun _ hk => hk.elim) (fun _ _ => trivial) RW.out.row (Below.refl _ _) (Nat.zero_le _) (by rw [filesT, List.length_map]; have := HL.out; omega) ?_; intro v1 w3 hR1 hB1 hg1 hat1; have AP := Aside0.mk (app_refS RW.out hR1 hg1 hat1); have G1 : Aside0 (W.grownBy w3 (Value.slice A D.L.length c).ownBlock) := ⟨hg1⟩; have z1 := blk_frozen AP.out.2.1 1; have c1' := (ref_cells AP.out.2.1).2.1; obtain ⟨g1, cap1, rfl, -⟩ := Kd.R_form hR1 (by simp); have hln : (filesT D.L ++ [z37]).length = D.L.length + 1 := (by simp [filesT]); rw [hln] at AP ⊢; clear hR1 hB1 hg1 hat1))
    have hlf : (filesT D.L).length = D.L.length := by rw [filesT, List.length_map]
    obtain ⟨W4, hW4⟩ : ∃ W4, (w3.setCell ⟨r, 1, none⟩ (.slice (some ⟨g1, 0, none⟩) (D.L.length + 1) cap1)) = W4 := ⟨_, rfl⟩
    have RS := AP.out.1
    have hsub : ∀ k ∈ (Value.slice (some ⟨g1, 0, none⟩) (D.L.length + 1) cap1).ownBlock.toList, k ∈ (Value.slice A D.L.length c).ownBlock.toList ∨ w.heap.size ≤ k := fun k hk => (AP.out.2.2.1 k hk).imp id (fun h9 => Nat.le_trans BW.out.size h9)
    have hgr : g1 ∈ r :: (Value.slice A D.L.length c).ownBlock.toList ∨ w.heap.size ≤ g1 := (hsub g1 (by simp [Value.ownBlock])).imp (fun h9 => by simp only [List.mem_cons]; exact .inr h9) id
    have hgb : W4.heap[gb]? = some (.cells #[.string ⟨f0.toArray⟩, .string f1, .int .i64 f2] 37 (0, 0)) := by
      have hne : gb ≠ r := by have := blk_lt H.out.head; have := HG.out; omega
      rw [← hW4, Below.heap_setCell _ _ _ _ (by show gb ≠ r; exact hne), G1.out.block _ (blk_lt KW.out) (fun e => by
        have h9 := H.out.row.lt gb (by rw [← e]; simp)
        have := HG.out
        omega)]
      exact KW.out
    have hfr : Fr (r :: (Value.slice A D.L.length c).ownBlock.toList) w W4 := by
      rw [← hW4]
      exact ((Fr.of_below BW.out _).grown G1.out (fun k hk => .inl (by simp only [List.mem_cons]; right; rw [hk]; simp))).setCell (p := ⟨r, 1, none⟩) (.inl (by simp)) _
    rw [hW4] at RS ⊢
    have RS' := Aside0.mk RS
    have HSUB := Aside0.mk hsub
    have HGR := Aside0.mk hgr
    have HGB := Aside0.mk hgb
    have HFR := Aside0.mk hfr
    have hgne : Aside0 (gb ≠ g1) := ⟨fun e => by
      have h9 := RS.row.lt g1 (by simp [Value.ownBlock])
      obtain ⟨cells, hc9⟩ := row_frozen (l := filesT D.L ++ [z37]) (g := g1) (c := cap1) (by rw [List.length_append, hlf]; exact RS.row) (by simp)
      have h8 := HSUB.out g1 (by simp [Value.ownBlock])
      rcases h8 with h8 | h8
      · have h7 := H.out.row.lt g1 h8
        have := HG.out
        omega
      · rcases AP.out.2.2.1 g1 (by simp [Value.ownBlock]) with h7 | h7
        · have h6 := H.out.row.lt g1 h7
          have := HG.out
          omega
        · have h6 := blk_lt KW.out
          omega⟩
    obtain ⟨-, c1, -⟩ := ref_cells RS.head
    have e20 : IntKind.i64.wrap (((D.L.length + 1 : Nat) : Int) - 1) = (D.L.length : Int) := by have := HL.out; rw [i64_w]; unfold wrap64; omega
    have e21 : IntKind.i64.wrap ((D.L.length : Int) + 1 - 1) = (D.L.length : Int) := by have := HL.out; rw [i64_w]; unfold wrap64; omega
    have e22 : IntKind.i64.wrap (D.L.length : Int) = (D.L.length : Int) := by have := HL.out; rw [i64_w]; unfold wrap64; omega
    clear RS hW4 hsub hgr hgb hfr AP G1 hlf c1' z1 c0
    go_wp2
    go_loopg [5] (D.L.length - i) (fun kq v5 wr => ∃ (k : Nat) (q : S37), v5 = .int .i64 k ∧ Aside0 (i + kq = k ∧ k ≤ D.L.length) ∧ Aside0 (RefS wr r (.slice (some ⟨g1, 0, none⟩) (D.L.length + 1) cap1) D ((filesT D.L).take k ++ q :: (filesT D.L).drop k)) ∧ Aside0 (wr.heap[gb]? = some (.cells #[.string ⟨f0.toArray⟩, .string f1, .int .i64 f2] 37 (0, 0))) ∧ Aside0 (Fr (r :: (Value.slice A D.L.length c).ownBlock.toList) w wr))
    case atStart => exact ⟨D.L.length, z37, rfl, ⟨by have := HLE.out; omega, Nat.le_refl _⟩, ⟨by have h9 : (filesT D.L).length = D.L.length := (by rw [filesT, List.length_map]); rw [← h9, List.take_length, List.drop_length]; have h8 := RS'.out; rw [← h9] at h8; exact h8⟩, HGB, HFR⟩
    case round =>
      clear c1 RS' HGB HFR
      obtain ⟨k, q9, rfl, h1, h2, h3, h4⟩ := hrel
      obtain ⟨-, c1, -⟩ := ref_cells h2.out.head
      have hlen : ((filesT D.L).take k ++ q9 :: (filesT D.L).drop k).length = D.L.length + 1 := by
        have h9 : (filesT D.L).length = D.L.length := (by rw [filesT, List.length_map])
        rw [shift_len (by rw [h9]; exact h1.out.2), h9]
      have hrow : Row37 wr (.slice (some ⟨g1, 0, none⟩) ((filesT D.L).take k ++ q9 :: (filesT D.L).drop k).length cap1) ((filesT D.L).take k ++ q9 :: (filesT D.L).drop k) := by rw [hlen]; exact h2.out.row
      obtain ⟨cells, hcb⟩ := row_frozen hrow (by omega)
      have y0 := blk_frozen hcb (k * 3)
      have y1 := blk_frozen hcb (k * 3 + 1)
      have y2 := blk_frozen hcb (k * 3 + 2)
      have e32 : k < D.L.length + 1 := by have := h1.out.2; omega
      have e33 : k ≤ D.L.length := h1.out.2
      have e36 : (k : Int) < (D.L.length : Int) + 1 := by have := h1.out.2; omega
      obtain ⟨g8, c8, hv8, x0, x1, x2⟩ := hrow.at (i := k) (x := q9) (by rw [List.getElem?_append_right (by rw [List.length_take]; omega), List.length_take, Nat.min_eq_left (by rw [filesT, List.length_map]; exact e33), Nat.sub_self]; rfl)
      cases hv8
      have HROW := Aside0.mk hrow
      have HLEN := Aside0.mk hlen
      by_cases hki : i < k
      · obtain ⟨k', rfl⟩ : ∃ k', k = k' + 1 := ⟨k - 1, by omega⟩
        obtain ⟨kk, hkk⟩ : ∃ kk, kk = k' + 1 := ⟨_, rfl⟩
        have HKK := Aside0.mk hkk
        have HKI := Aside0.mk hki
        obtain ⟨y, hy⟩ : ∃ y, (filesT D.L)[k']? = some y := ⟨_, List.getElem?_eq_getElem (by rw [filesT, List.length_map]; omega)⟩
        have hy2 := shift_get (q := q9) hy
        obtain ⟨g9, c9, hv9, p0, p1, p2⟩ := hrow.at hy2
        cases hv9
        have e30 : decide ((i : Int) < (kk : Int)) = true := decide_eq_true (by omega)
        have e30' : decide (i < kk) = true := decide_eq_true (by omega)
        have e31 : IntKind.i64.wrap ((kk : Int) - 1) = (k' : Int) := by have := HL.out; rw [i64_w]; unfold wrap64; omega
        have e34 : k' < D.L.length + 1 := by omega
        have e35 : k' ≤ D.L.length := by omega
        have e37 : (k' : Int) < (D.L.length : Int) + 1 := by omega
        have HY := Aside0.mk hy
        rw [← hkk] at e32 e33 e36 y0 y1 y2 x0 x1 x2 ⊢
        clear hkk hki hy hy2 hrow hlen hcb
        go_upto_region 7 with fail
        go_region
        go_wp2
        go_roundg (k' - i)
        case measure => have := h1.out; have := HKK.out; have := HKI.out; omega
        case rel =>
          refine ⟨k', y, by simp, ⟨by have := HKI.out; omega, by have := h1.out.2; omega⟩, ⟨?_⟩, ⟨?_⟩, ⟨(put_fr h4.out HGR.out).drew⟩⟩
          · have h9 : RefS wr r (.slice (some ⟨g1, 0, none⟩) ((filesT D.L).take (k' + 1) ++ q9 :: (filesT D.L).drop (k' + 1)).length cap1) D ((filesT D.L).take (k' + 1) ++ q9 :: (filesT D.L).drop (k' + 1)) := by rw [HLEN.out]; exact h2.out
            have h8 := h9.put (i := k' + 1) (by rw [HLEN.out]; have := h1.out.2; omega) y
            rw [shift_set HY.out, HLEN.out, ← HKK.out] at h8
            exact h8.step (fun _ _ => rfl)
          · show ((((wr.setCell _ _).setCell _ _).setCell _ _).heap[gb]?) = _
            rw [put_other hgne.out]
            exact h3.out
      · have hki2 : k = i := by have := h1.out.1; omega
        subst hki2
        have e30 : decide ((k : Int) < (k : Int)) = false := decide_eq_false (by omega)
        have e30' : decide (k < k) = false := decide_eq_false (by omega)
        obtain ⟨q0, q1, q2⟩ := file_box h3.out
        clear hki hrow hlen hcb
        go_upto_region 8 with fail
        go_region
        go_wp2
        go_end0
        have h9 : RefS wr r (.slice (some ⟨g1, 0, none⟩) ((filesT D.L).take k ++ q9 :: (filesT D.L).drop k).length cap1) D ((filesT D.L).take k ++ q9 :: (filesT D.L).drop k) := by rw [HLEN.out]; exact h2.out
        have h8 := h9.put (i := k) (by rw [HLEN.out]; have := h1.out.2; omega) (fileT ⟨f0, f1, f2⟩)
        rw [last_set (by rw [filesT, List.length_map]; exact h1.out.2), HLEN.out, ← filesT_putA, ← HIN.out] at h8
        have h7 : RefS ((((wr.setCell ⟨g1, k * 3, none⟩ (.string ⟨f0.toArray⟩)).setCell ⟨g1, k * 3 + 1, none⟩ (.string f1)).setCell ⟨g1, k * 3 + 2, none⟩ (.int .i64 f2)).drew) r (.slice (some ⟨g1, 0, none⟩) (D.L.length + 1) cap1) D (filesT (putR ⟨f0, f1, f2⟩ D.L)) := h8.step (fun _ _ => rfl)
        refine ⟨rfl, _, ⟨h7.head, h7.row⟩, (put_fr h4.out HGR.out).drew, HSUB.out⟩
end Go.Proofs.YtakhnkkcllfbjaaDoorX
