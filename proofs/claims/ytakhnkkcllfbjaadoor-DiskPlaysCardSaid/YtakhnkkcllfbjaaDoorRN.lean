/- Several texts in one (merge.py): R9, RA, RB, RC; no conditions beyond those in each theorem's head. -/
import Derived.Test.YtakhnkkcllfbjaaDoorRM
import Derived.Deep.RegionWith
import Derived.Test.YtakhnkkcllfbjaaDoorG8
section
namespace Go.Proofs.YtakhnkkcllfbjaaDoorX
open Go.RowKit Go.Proofs.YtakhnkkcllfbjaaDoorW.PrintWords Go.Proofs.YtakhnkkcllfbjaaDoorW.PrintLast Go.Proofs.YtakhnkkcllfbjaaDoorW.PrintMore
open Go.Proofs.YtakhnkkcllfbjaaDoor.PA (S37 k37 z37 k37_open k37_openM k37_mk k37_mkM rd_T37 at_T37)
set_option linter.unusedVariables false
set_option linter.unusedSimpArgs false
theorem stepO_ne {D : AD} {own : Int} (h : own ≠ 0) : (D.stepO own).2 ≠ 0 := by
  unfold AD.stepO
  by_cases h1 : D.down = true
  · rw [if_pos h1]; show (3 : Int) ≠ 0; decide
  · rw [if_neg h1, if_pos h]; exact h
theorem stepO_zero {D : AD} {own : Int} (h : (D.stepO own).2 = 0) : own = 0 ∧ D.stepO own = (D.tick, 0) := by
  unfold AD.stepO at *
  by_cases h1 : D.down = true
  · rw [if_pos h1] at h; exact absurd (show (3 : Int) = 0 from h) (by decide)
  · rw [if_neg h1] at h ⊢
    by_cases h2 : own = 0
    · rw [if_neg (fun h9 => h9 h2)] at h ⊢
      by_cases h3 : D.armed = 0
      · rw [if_pos h3] at h; exact absurd (show (3 : Int) = 0 from h) (by decide)
      · rw [if_neg h3]; exact ⟨h2, rfl⟩
    · rw [if_pos h2] at h; exact absurd h h2
theorem thenL_ne {p : AD × Int} {L : List AF} (h : p.2 ≠ 0) : AD.thenL p L = p := if_neg h
theorem RDid.after {w w2 w' : World} {r : Nat} {v : Value} {D' : AD} (hF : Fr [r] w w2) (hd : RDid w2 w' r v D') : RDid w w' r v D' := by
  obtain ⟨v', h1, h2, h3⟩ := hd
  exact ⟨v', h1, (hF.mono (fun x hx => by simp at hx; simp [hx])).trans h2 (fun x hx => .inl hx), fun k hk => (h3 k hk).imp id (fun h9 => Nat.le_trans hF.size h9)⟩
/-- A step, behind calls that leave the disk as it is. -/
theorem rstep_later {w : World} {r : Nat} {v : Value} {D : AD} (h : RefAt w r v D) (hok : D.Ok) (own : Int) : ∀ w1, Below w.heap.size w w1 →
    Calls Tryd.prog 56 #[.pointer (some ⟨r, 0, none⟩), .int .i64 own] w1 fun e w' => e = .returned (.int .i64 (D.stepO own).2) ∧ RefAt w' r v (D.stepO own).1 ∧ Fr [r] w w' :=
  fun w1 hb => (rstep_calls (h.below hb) hok own).mono (fun e w' hh => ⟨hh.1, hh.2.1, (Fr.of_below hb [r]).trans hh.2.2 (fun x hx => .inl hx)⟩)
set_option maxRecDepth 100000 in
theorem rremove_calls {w : World} {r : Nat} {v : Value} {D : AD} (h : RefAt w r v D) (hok : D.Ok) (x : Nm) (hx : x.length ≤ maxLen) :
    Calls Tryd.prog 40 #[.pointer (some ⟨r, 0, none⟩), .string ⟨x.toArray⟩] w fun e w' => e = .returned (.int .i64 (D.remove x).2) ∧ RDid w w' r v (D.remove x).1 := by
  have OK := Aside0.mk hok
  have cK := known_calls h hok.rising x hx
  obtain ⟨own, hown⟩ : ∃ own, D.knownE x = own := ⟨_, rfl⟩
  have ER := remove_is D x
  rw [hown] at cK ER
  have cS := Aside0.mk (rstep_later h hok own)
  have cT : Aside0 (∀ w2, RefAt w2 r v D.tick → Calls Tryd.prog 58 #[.pointer (some ⟨r, 0, none⟩), .string ⟨x.toArray⟩] w2 fun e w' => e = .returned (.tuple #[]) ∧ RDid w2 w' r v { D.tick with L := delL x D.L }) := ⟨fun w2 h2 => takes_calls h2 hok.many x⟩
  clear h hok hown hx
  by_cases hz : (D.stepO own).2 = 0
  · obtain ⟨hz1, hz2⟩ := stepO_zero hz
    rw [hz2] at cS ER
    have E : Aside0 (D.remove x = ({ D.tick with L := delL x D.L }, 0)) := ⟨ER⟩
    clear hz hz1 hz2 ER
    go_enter Tryd.func40, Tryd.ntmps40
    go_wp2_with (first
      | (go_at_call 57; refine cK.mono ?_; rintro e w1 ⟨rfl, hb1⟩; have B1 := Aside0.mk hb1; clear hb1 cK)
      | (go_at_call 56; refine (cS.out _ B1.out).mono ?_; rintro e w2 ⟨rfl, hr2, hf2⟩; have R2 := Aside0.mk hr2; have F2 := Aside0.mk hf2; clear hr2 hf2 cS)
      | (go_at_call 58; refine (cT.out _ R2.out).mono ?_; rintro e w3 ⟨rfl, hd⟩; have D3 := Aside0.mk hd; clear hd cT))
    go_ret
    rw [E.out]
    exact ⟨rfl, RDid.after F2.out D3.out⟩
  · have E : Aside0 (D.remove x = D.stepO own) := ⟨by rw [ER, thenL_ne hz]⟩
    have e2 : ((D.stepO own).2 != 0) = true := by rw [bne, beq_eq_false_iff_ne.2 hz]; rfl
    clear hz ER cT
    generalize D.stepO own = P at cS E e2
    go_enter Tryd.func40, Tryd.ntmps40
    go_wp2_with (first
      | (go_at_call 57; refine cK.mono ?_; rintro e w1 ⟨rfl, hb1⟩; have B1 := Aside0.mk hb1; clear hb1 cK)
      | (go_at_call 56; refine (cS.out _ B1.out).mono ?_; rintro e w2 ⟨rfl, hr2, hf2⟩; have R2 := Aside0.mk hr2; have F2 := Aside0.mk hf2; clear hr2 hf2 cS))
    go_ret
    rw [E.out]
    exact ⟨rfl, RDid.head R2.out F2.out⟩
theorem RefAt.frozen {w : World} {r g c : Nat} {D : AD} (h : RefAt w r (.slice (some ⟨g, 0, none⟩) D.L.length c) D) (hl : 0 < D.L.length) (i : Nat) : w.frozen? ⟨g, i, none⟩ = false := by
  have e : (filesT D.L).length = D.L.length := by rw [filesT, List.length_map]
  obtain ⟨cells, hgb⟩ := row_frozen (l := filesT D.L) (g := g) (c := c) (by rw [e]; exact h.row) (by omega)
  exact blk_frozen hgb i
/-- A file is turned in its place. -/
theorem RefAt.turnF {w w' : World} {r g c : Nat} {D : AD} (h : RefAt w r (.slice (some ⟨g, 0, none⟩) D.L.length c) D) {i : Nat} {f f' : AF} (hf : D.L[i]? = some f) (hw : ∀ k ∈ [r, g], w'.heap[k]? = (w.setCell ⟨g, i * 3 + 2, none⟩ (.int .i64 f'.safe)).heap[k]?) (h1 : f'.name = f.name) (h2 : f'.data = f.data) :
    RefAt w' r (.slice (some ⟨g, 0, none⟩) D.L.length c) { D with L := D.L.set i f' } := by
  have e : (filesT D.L).length = D.L.length := by rw [filesT, List.length_map]
  have hap := h.apart
  have hrow : Row37 w (.slice (some ⟨g, 0, none⟩) (filesT D.L).length c) (filesT D.L) := by rw [e]; exact h.row
  have h9 := hrow.put1 (i := i) (x := fileT f) (by rw [filesT, List.getElem?_map, hf]; rfl) 2 (by decide) (.int .i64 f'.safe) (fileT f') (by unfold cells37 fileT; rw [h1, h2]; rfl)
  rw [e] at h9
  refine ⟨?_, ?_⟩
  · rw [hw r (by simp), Below.heap_setCell _ _ _ _ (by show r ≠ g; exact fun e9 => hap (by rw [e9]; simp [Value.ownBlock]))]
    exact h.head
  · show Row37 w' _ (filesT (D.L.set i f'))
    rw [filesT_set]
    exact h9.step (fun k hk => hw k (by simp [Value.ownBlock] at hk; simp [hk]))
set_option maxRecDepth 100000 in
theorem rsync_calls {w : World} {r : Nat} {v : Value} {D : AD} (h : RefAt w r v D) (hok : D.Ok) (x : Nm) (hx : x.length ≤ maxLen) :
    Calls Tryd.prog 38 #[.pointer (some ⟨r, 0, none⟩), .string ⟨x.toArray⟩] w fun e w' => e = .returned (.int .i64 (D.sync x).2) ∧ RDid w w' r v (D.sync x).1 := by
  have OK := Aside0.mk hok
  have cK := known_calls h hok.rising x hx
  obtain ⟨own, hown⟩ : ∃ own, D.knownE x = own := ⟨_, rfl⟩
  have HOWN := Aside0.mk hown
  have ER := sync_is D x
  rw [hown] at cK ER
  have cS := Aside0.mk (rstep_later h hok own)
  have cP : Aside0 (∀ w2, RefAt w2 r v D.tick → Calls Tryd.prog 54 #[.pointer (some ⟨r, 0, none⟩), .string ⟨x.toArray⟩] w2 fun e w' => e = .returned (.int .i64 (placeL x D.L)) ∧ w' = w2) := ⟨fun w2 h2 => placeS h2 x⟩
  obtain ⟨A, c, rfl, hc, hL⟩ := ref_shape h
  clear h hok hown hx hc hL
  by_cases hz : (D.stepO own).2 = 0
  · obtain ⟨hz1, hz2⟩ := stepO_zero hz
    rw [hz2] at cS ER
    have E : Aside0 (D.sync x = ({ D.tick with L := updL x safeF D.L }, 0)) := ⟨ER⟩
    obtain ⟨f, hf⟩ : ∃ f, findL x D.L = some f := by
      rcases knownE_cases D x with h | h | ⟨_, h⟩
      · rw [HOWN.out, hz1] at h; cases h
      · rw [HOWN.out, hz1] at h; cases h
      · exact h
    have hat := place_find OK.out.rising hf
    have hup := set_upd (g := safeF) OK.out.rising hf
    obtain ⟨i, hi⟩ : ∃ i, placeL x D.L = i := ⟨_, rfl⟩
    rw [hi] at cP hat hup
    have hil := (List.getElem?_eq_some_iff.1 hat).1
    have e3 : (i : Int) < (D.L.length : Int) := by omega
    have HA := Aside0.mk hat
    have HU := Aside0.mk hup
    clear hz hz1 hz2 ER hf hat hup hi
    go_enter Tryd.func38, Tryd.ntmps38
    go_upto_region 6 with (first
      | (go_at_call 57; refine cK.mono ?_; rintro e w1 ⟨rfl, hb1⟩; have B1 := Aside0.mk hb1; clear hb1 cK)
      | (go_at_call 56; refine (cS.out _ B1.out).mono ?_; rintro e w2 ⟨rfl, hr2, hf2⟩; have R2 := Aside0.mk hr2; have F2 := Aside0.mk hf2; clear hr2 hf2 cS)
      | (go_at_call 54; refine (cP.out _ R2.out).mono ?_; rintro e w3 ⟨rfl, rfl⟩; clear cP))
    obtain ⟨-, c1, -⟩ := ref_cells R2.out.head
    obtain ⟨g, cc, hv, q0, q1, q2⟩ := ref_at R2.out HA.out
    cases hv
    have z2 := RefAt.frozen (D := D.tick) R2.out (by show 0 < D.L.length; omega) (i * 3 + 2)
    have HIL := Aside0.mk hil
    go_region
    go_wp2
    go_ret
    rw [E.out]
    refine ⟨rfl, RDid.after F2.out ⟨_, ?_, ?_, fun k hk => .inl hk⟩⟩
    · have h9 := RefAt.turnF (D := D.tick) (f := f) (f' := safeF f) R2.out HA.out (fun _ _ => rfl) rfl rfl
      rw [show D.tick.L.set i (safeF f) = updL x safeF D.L from HU.out] at h9
      exact h9.step (fun _ _ => rfl)
    · exact ((Fr.refl _ _).setCell (p := ⟨g, i * 3 + 2, none⟩) (.inl (by simp [Value.ownBlock])) _).drew
  · have E : Aside0 (D.sync x = D.stepO own) := ⟨by rw [ER, thenL_ne hz]⟩
    have e2 : ((D.stepO own).2 != 0) = true := by rw [bne, beq_eq_false_iff_ne.2 hz]; rfl
    clear hz ER cP
    generalize D.stepO own = P at cS E e2
    go_enter Tryd.func38, Tryd.ntmps38
    go_wp2_with (first
      | (go_at_call 57; refine cK.mono ?_; rintro e w1 ⟨rfl, hb1⟩; have B1 := Aside0.mk hb1; clear hb1 cK)
      | (go_at_call 56; refine (cS.out _ B1.out).mono ?_; rintro e w2 ⟨rfl, hr2, hf2⟩; have R2 := Aside0.mk hr2; have F2 := Aside0.mk hf2; clear hr2 hf2 cS))
    go_ret
    rw [E.out]
    exact ⟨rfl, RDid.head R2.out F2.out⟩
end Go.Proofs.YtakhnkkcllfbjaaDoorX
end
section
namespace Go.Proofs.YtakhnkkcllfbjaaDoorX
open Go.RowKit Go.Proofs.YtakhnkkcllfbjaaDoorW.PrintWords Go.Proofs.YtakhnkkcllfbjaaDoorW.PrintLast Go.Proofs.YtakhnkkcllfbjaaDoorW.PrintMore
open Go.Proofs.YtakhnkkcllfbjaaDoor.PA (S37 k37 z37 k37_open k37_openM k37_mk k37_mkM rd_T37 at_T37)
set_option linter.unusedVariables false
set_option linter.unusedSimpArgs false
/-- A box of a file, laid and written. -/
def boxW (w : World) (f : AF) : World := (((w.alloc (.cells #[.string ⟨#[]⟩, .string ⟨#[]⟩, .int .i64 0] 37)).setCell ⟨w.heap.size, 0, none⟩ (.string ⟨f.name.toArray⟩)).setCell ⟨w.heap.size, 1, none⟩ (.string f.data)).setCell ⟨w.heap.size, 2, none⟩ (.int .i64 f.safe)
theorem boxW_blk (w : World) (f : AF) : (boxW w f).heap[w.heap.size]? = some (.cells #[.string ⟨f.name.toArray⟩, .string f.data, .int .i64 f.safe] 37 (0, 0)) :=
  blk_put (blk_put (blk_put (blk_new w (.cells #[.string ⟨#[]⟩, .string ⟨#[]⟩, .int .i64 0] 37)) 0 _ rfl) 1 _ rfl) 2 _ rfl
theorem boxW_below (w : World) (f : AF) : Below w.heap.size w (boxW w f) :=
  (((below_alloc (Below.refl _ _) _).setCell (p := ⟨w.heap.size, 0, none⟩) (Nat.le_refl _) _).setCell (p := ⟨w.heap.size, 1, none⟩) (Nat.le_refl _) _).setCell (p := ⟨w.heap.size, 2, none⟩) (Nat.le_refl _) _
theorem RDid.trans {w w1 w2 : World} {r : Nat} {v v1 : Value} {D2 : AD} (hF : Fr (r :: v.ownBlock.toList) w w1) (hs : ∀ k ∈ v1.ownBlock.toList, k ∈ v.ownBlock.toList ∨ w.heap.size ≤ k) (hd : RDid w1 w2 r v1 D2) : RDid w w2 r v D2 := by
  obtain ⟨v2, h1, h2, h3⟩ := hd
  refine ⟨v2, h1, hF.trans h2 (fun x hx => ?_), fun k hk => (h3 k hk).elim (hs k) (fun h => .inr (Nat.le_trans hF.size h))⟩
  simp only [List.mem_cons] at hx ⊢
  rcases hx with rfl | hx
  · exact .inl (.inl rfl)
  · exact (hs x hx).imp .inr id
set_option maxRecDepth 100000 in
set_option maxHeartbeats 8000000 in
theorem rrename_calls {w : World} {r : Nat} {v : Value} {D : AD} (h : RefAt w r v D) (hok : D.Ok) (x y : Nm) (hx : x.length ≤ maxLen) (hy : y.length ≤ maxLen) :
    Calls Tryd.prog 39 #[.pointer (some ⟨r, 0, none⟩), .string ⟨x.toArray⟩, .string ⟨y.toArray⟩] w fun e w' => e = .returned (.int .i64 (D.rename x y).2) ∧ RDid w w' r v (D.rename x y).1 := by
  have hu := Tryd.underlying37
  have H := Aside0.mk h
  have OK := Aside0.mk hok
  have cK := known_calls h hok.rising x hx
  have cN := Aside0.mk (rnameN y hy)
  obtain ⟨own, hown⟩ : ∃ own, D.renO x y = own := ⟨_, rfl⟩
  have HOWN := Aside0.mk hown
  have ER := rename_is D x y
  rw [hown] at ER
  have cS := Aside0.mk (rstep_later h hok own)
  have cP : Aside0 (∀ w2, RefAt w2 r v D.tick → Calls Tryd.prog 54 #[.pointer (some ⟨r, 0, none⟩), .string ⟨x.toArray⟩] w2 fun e w' => e = .returned (.int .i64 (placeL x D.L)) ∧ w' = w2) := ⟨fun w2 h2 => placeS h2 x⟩
  have cT : Aside0 (∀ w2, RefAt w2 r v D.tick → Calls Tryd.prog 58 #[.pointer (some ⟨r, 0, none⟩), .string ⟨x.toArray⟩] w2 fun e w' => e = .returned (.tuple #[]) ∧ RDid w2 w' r v { D.tick with L := delL x D.L }) := ⟨fun w2 h2 => takes_calls h2 hok.many x⟩
  obtain ⟨A, c, rfl, hc, hL⟩ := ref_shape h
  clear h hok hx hy hc hL
  cases hny : named y with
  | false =>
    have h40 : own = 40 := by rw [← hown]; exact if_pos hny
    have hz : (D.stepO own).2 ≠ 0 := stepO_ne (by rw [h40]; decide)
    have E : Aside0 (D.rename x y = D.stepO own) := ⟨by rw [ER, thenL_ne hz]⟩
    have e2 : ((D.stepO own).2 != 0) = true := by rw [bne, beq_eq_false_iff_ne.2 hz]; rfl
    generalize D.stepO own = P at cS E e2
    subst h40
    rw [hny] at cN
    generalize D.knownE x = kn at cK
    clear hz ER cP cT hown hny
    go_enter Tryd.func39, Tryd.ntmps39
    go_wp2_with (first
      | (go_at_call 57; refine cK.mono ?_; rintro e w1 ⟨rfl, hb1⟩; have B1 := Aside0.mk hb1; clear hb1 cK)
      | (go_at_call 34; refine (cN.out _).mono ?_; rintro e w4 ⟨rfl, hb4⟩; have B4 := Aside0.mk (B1.out.trans (hb4.mono B1.out.size)); clear hb4 cN)
      | (go_at_call 56; refine (cS.out _ B4.out).mono ?_; rintro e w2 ⟨rfl, hr2, hf2⟩; have R2 := Aside0.mk hr2; have F2 := Aside0.mk hf2; clear hr2 hf2 cS))
    go_ret
    rw [E.out]
    exact ⟨rfl, RDid.head R2.out F2.out⟩
  | true =>
    have hown2 : D.knownE x = own := by rw [← hown]; exact (if_neg (by rw [hny]; decide)).symm
    rw [hown2] at cK
    rw [hny] at cN
    clear hown hny
    by_cases hz : (D.stepO own).2 = 0
    · obtain ⟨hz1, hz2⟩ := stepO_zero hz
      rw [hz2] at cS ER
      have E : Aside0 (D.rename x y = ({ D.tick with L := D.renL x y }, 0)) := ⟨ER⟩
      obtain ⟨f, hf⟩ : ∃ f, findL x D.L = some f := by
        rcases knownE_cases D x with h | h | ⟨_, h⟩
        · rw [hown2, hz1] at h; cases h
        · rw [hown2, hz1] at h; cases h
        · exact h
      have hat := place_find OK.out.rising hf
      have hren := ren_is OK.out.rising (y := y) hf
      obtain ⟨i, hi⟩ : ∃ i, placeL x D.L = i := ⟨_, rfl⟩
      rw [hi] at cP hat
      have hil := (List.getElem?_eq_some_iff.1 hat).1
      have e3 : (i : Int) < (D.L.length : Int) := by omega
      have HA := Aside0.mk hat
      have HU := Aside0.mk hren
      clear hz hz1 hz2 ER hf hat hren hi hown2
      go_enter Tryd.func39, Tryd.ntmps39
      go_upto_region 8 with (first
        | (go_at_call 57; refine cK.mono ?_; rintro e w1 ⟨rfl, hb1⟩; have B1 := Aside0.mk hb1; clear hb1 cK)
        | (go_at_call 34; refine (cN.out _).mono ?_; rintro e w4 ⟨rfl, hb4⟩; have B4 := Aside0.mk (B1.out.trans (hb4.mono B1.out.size)); clear hb4 cN)
        | (go_at_call 56; refine (cS.out _ B4.out).mono ?_; rintro e w2 ⟨rfl, hr2, hf2⟩; have R2 := Aside0.mk hr2; have F2 := Aside0.mk hf2; clear hr2 hf2 cS))
      obtain ⟨-, c1, -⟩ := ref_cells R2.out.head
      obtain ⟨g, cc, hv, q0, q1, q2⟩ := ref_at R2.out HA.out
      cases hv
      have c1' : ∀ ob, (w2.alloc ob).cell? ⟨r, 1, none⟩ = some (.slice (some ⟨g, 0, none⟩) D.L.length c) := fun ob => ((below_alloc (Below.refl _ _) ob).cell (World.block_lt_of_cell? _ _ c1)).trans c1
      have q0' : ∀ ob, (w2.alloc ob).cell? ⟨g, i * 3, none⟩ = some (.string ⟨f.name.toArray⟩) := fun ob => ((below_alloc (Below.refl _ _) ob).cell (World.block_lt_of_cell? _ _ q0)).trans q0
      have q1' : ∀ ob, (w2.alloc ob).cell? ⟨g, i * 3 + 1, none⟩ = some (.string f.data) := fun ob => ((below_alloc (Below.refl _ _) ob).cell (World.block_lt_of_cell? _ _ q1)).trans q1
      have q2' : ∀ ob, (w2.alloc ob).cell? ⟨g, i * 3 + 2, none⟩ = some (.int .i64 f.safe) := fun ob => ((below_alloc (Below.refl _ _) ob).cell (World.block_lt_of_cell? _ _ q2)).trans q2
      clear hil
      go_region_with (go_at_call 54; refine (cP.out _ (by first | exact R2.out | exact R2.out.below (by repeat (first | exact Below.refl _ _ | apply below_drew1 | apply below_alloc)))).mono ?_; rintro e w9 ⟨rfl, rfl⟩)
      all_goals
        obtain ⟨W, hW⟩ : ∃ W, (w2.alloc (.cells #[.string ⟨f.name.toArray⟩, .string f.data, .int .i64 f.safe] 37)).drew = W := ⟨_, rfl⟩
        obtain ⟨gb, hgb⟩ : ∃ gb, gb = w2.heap.size := ⟨_, rfl⟩
        have BW : Aside0 (Below w2.heap.size w2 W) := ⟨by rw [← hW]; apply below_drew1; exact below_alloc (Below.refl _ _) _⟩
        have HB : Aside0 (W.heap[gb]? = some (.cells #[.string ⟨f.name.toArray⟩, .string f.data, .int .i64 f.safe] 37 (0, 0))) := ⟨by rw [← hW, hgb]; exact blk_new w2 _⟩
        have RW := Aside0.mk (R2.out.below BW.out)
        have GN : Aside0 (gb ∉ r :: (Value.slice (some ⟨g, 0, none⟩) D.L.length c).ownBlock.toList ∧ w.heap.size ≤ gb) := ⟨fun h9 => by have := R2.out.lt gb h9; omega, by rw [hgb]; exact F2.out.size⟩
        rw [hW, ← hgb]
        clear hW hgb c1 c1' q0 q0' q1 q1' q2 q2' cP
        go_upto_region 10 with (go_at_call 58; refine (cT.out _ RW.out).mono ?_; rintro e w3 ⟨rfl, v3, hr3, hf3, hs3⟩; have HB3 := Aside0.mk (hf3.blk HB.out GN.out.1); have R3 := Aside0.mk hr3; have F3 := Aside0.mk (And.intro hf3 hs3); clear hr3 hf3 hs3 cT)
        have z0 := blk_frozen HB3.out 0
        obtain ⟨z1, -⟩ := file_box HB3.out
        go_upto_region 11 with fail
        obtain ⟨W5, hW5⟩ : ∃ W5, w3.setCell ⟨gb, 0, none⟩ (.string ⟨y.toArray⟩) = W5 := ⟨_, rfl⟩
        have HB5 : Aside0 (W5.heap[gb]? = some (.cells #[.string ⟨y.toArray⟩, .string f.data, .int .i64 f.safe] 37 (0, 0))) := ⟨by rw [← hW5]; exact blk_put HB3.out 0 _ rfl⟩
        have GN3 : Aside0 (gb ∉ r :: v3.ownBlock.toList) := ⟨fun h9 => by
          simp only [List.mem_cons] at h9
          rcases h9 with rfl | h9
          · exact GN.out.1 (by simp)
          · rcases F3.out.2 gb h9 with h8 | h8
            · exact GN.out.1 (by simp only [List.mem_cons]; exact .inr h8)
            · have := blk_lt HB.out; omega⟩
        have R5 : Aside0 (RefAt W5 r v3 { D.tick with L := delL x D.L }) := ⟨by rw [← hW5]; exact R3.out.step (fun k hk => Below.heap_setCell _ _ _ _ (by show k ≠ gb; exact fun e9 => GN3.out (e9 ▸ hk)))⟩
        have FW : Aside0 (Fr (r :: (Value.slice (some ⟨g, 0, none⟩) D.L.length c).ownBlock.toList) w W) := ⟨(F2.out.mono (fun x hx => by simp at hx; simp [hx])).trans (Fr.of_below BW.out []) (fun _ hx => by cases hx)⟩
        have F5 : Aside0 (Fr (r :: (Value.slice (some ⟨g, 0, none⟩) D.L.length c).ownBlock.toList) w W5) := ⟨by rw [← hW5]; exact (FW.out.trans F3.out.1 (fun x hx => .inl hx)).setCell (p := ⟨gb, 0, none⟩) (.inr GN.out.2) _⟩
        have S5 : Aside0 (∀ k ∈ v3.ownBlock.toList, k ∈ (Value.slice (some ⟨g, 0, none⟩) D.L.length c).ownBlock.toList ∨ w.heap.size ≤ k) := ⟨fun k hk => (F3.out.2 k hk).imp id (fun h9 => Nat.le_trans FW.out.size h9)⟩
        have cQ := puts_calls R5.out ⟨y, f.data, f.safe⟩ (Nat.le_trans (delL_sub x D.L).length_le OK.out.many)
        rw [show putR (⟨y, f.data, f.safe⟩ : AF) ({ D.tick with L := delL x D.L } : AD).L = D.renL x y from HU.out] at cQ
        obtain ⟨q0, q1, q2⟩ := file_box HB5.out
        rw [hW5]
        clear hW5 z0 z1 HB HB3
        go_wp2_with (go_at_call 35; refine cQ.mono ?_; rintro e w6 ⟨rfl, hd⟩; have D6 := Aside0.mk hd; clear hd cQ)
        go_ret
        rw [E.out]
        exact ⟨rfl, RDid.trans F5.out S5.out D6.out⟩
    · have E : Aside0 (D.rename x y = D.stepO own) := ⟨by rw [ER, thenL_ne hz]⟩
      have e2 : ((D.stepO own).2 != 0) = true := by rw [bne, beq_eq_false_iff_ne.2 hz]; rfl
      clear hz ER cP cT hown2
      generalize D.stepO own = P at cS E e2
      go_enter Tryd.func39, Tryd.ntmps39
      go_wp2_with (first
        | (go_at_call 57; refine cK.mono ?_; rintro e w1 ⟨rfl, hb1⟩; have B1 := Aside0.mk hb1; clear hb1 cK)
        | (go_at_call 34; refine (cN.out _).mono ?_; rintro e w4 ⟨rfl, hb4⟩; have B4 := Aside0.mk (B1.out.trans (hb4.mono B1.out.size)); clear hb4 cN)
        | (go_at_call 56; refine (cS.out _ B4.out).mono ?_; rintro e w2 ⟨rfl, hr2, hf2⟩; have R2 := Aside0.mk hr2; have F2 := Aside0.mk hf2; clear hr2 hf2 cS))
      go_ret
      rw [E.out]
      exact ⟨rfl, RDid.head R2.out F2.out⟩
end Go.Proofs.YtakhnkkcllfbjaaDoorX
end
section
namespace Go.Proofs.YtakhnkkcllfbjaaDoorX
open Go.RowKit Go.Proofs.YtakhnkkcllfbjaaDoorW.PrintWords Go.Proofs.YtakhnkkcllfbjaaDoorW.PrintLast Go.Proofs.YtakhnkkcllfbjaaDoorW.PrintMore
open Go.Proofs.YtakhnkkcllfbjaaDoor.PA (S37 k37 z37 k37_open k37_openM k37_mk k37_mkM rd_T37 at_T37)
set_option linter.unusedVariables false
set_option linter.unusedSimpArgs false
theorem mem_size {D : AD} (h : D.Ok) {f : AF} (hf : f ∈ D.L) {y : ByteArray} (hy : ¬ D.free < (y.size : Int)) : f.data.size + y.size ≤ 1048576 := by
  have h1 := mem_tot hf
  have h2 := h.size1
  unfold AD.free AD.used at hy
  omega
set_option maxRecDepth 100000 in
set_option maxHeartbeats 8000000 in
theorem rappend_calls {w : World} {r : Nat} {v : Value} {D : AD} (h : RefAt w r v D) (hok : D.Ok) (x : Nm) (hx : x.length ≤ maxLen) (y : ByteArray) :
    Calls Tryd.prog 37 #[.pointer (some ⟨r, 0, none⟩), .string ⟨x.toArray⟩, .string y] w fun e w' => e = .returned (.int .i64 (D.append x y).2) ∧ RDid w w' r v (D.append x y).1 := by
  have hu := Tryd.underlying37
  have H := Aside0.mk h
  have OK := Aside0.mk hok
  have cN := rnameN x hx w
  have cT : Aside0 (∀ w1, Below w.heap.size w w1 → Calls Tryd.prog 55 #[.pointer (some ⟨r, 0, none⟩), .string ⟨x.toArray⟩] w1 fun e w' => e = .returned (.bool (findL x D.L).isSome) ∧ Below w1.heap.size w1 w') := ⟨fun w1 hb => there_calls (h.below hb) hok.rising x⟩
  have cF : Aside0 (∀ w1, Below w.heap.size w w1 → Calls Tryd.prog 45 #[.pointer (some ⟨r, 0, none⟩)] w1 fun e w' => e = .returned (.int .i64 D.free) ∧ Below w1.heap.size w1 w') := ⟨fun w1 hb => rfree_calls (h.below hb) hok⟩
  obtain ⟨own, hown⟩ : ∃ own, D.appO x y = own := ⟨_, rfl⟩
  have HOWN := Aside0.mk hown
  have ER := append_is D x y
  rw [hown] at ER
  have cS := Aside0.mk (rstep_later h hok own)
  have cP : Aside0 (∀ w2, RefAt w2 r v D.tick → Calls Tryd.prog 54 #[.pointer (some ⟨r, 0, none⟩), .string ⟨x.toArray⟩] w2 fun e w' => e = .returned (.int .i64 (placeL x D.L)) ∧ w' = w2) := ⟨fun w2 h2 => placeS h2 x⟩
  have cQ : Aside0 (∀ w2 (f : AF), RefAt w2 r v D.tick → Calls Tryd.prog 35 #[.pointer (some ⟨r, 0, none⟩), .agg #[.string ⟨f.name.toArray⟩, .string f.data, .int .i64 f.safe]] w2 fun e w' => e = .returned (.tuple #[]) ∧ RDid w2 w' r v { D.tick with L := putR f D.L }) := ⟨fun w2 f h2 => puts_calls h2 f hok.many⟩
  obtain ⟨A, c, rfl, hc, hL⟩ := ref_shape h
  obtain ⟨c0, c1, -⟩ := ref_cells h.head
  have hC1 : ∀ w1, Below w.heap.size w w1 → w1.cell? ⟨r, 1, none⟩ = some (.slice A D.L.length c) := fun w1 hb => (hb.cell (World.block_lt_of_cell? _ _ c1)).trans c1
  have C1 := Aside0.mk hC1
  clear h hok hx hc hL c0 c1 hC1
  have hcase : (named x = false ∧ own = 40) ∨ (named x = true ∧ D.free < (y.size : Int) ∧ own = 42) ∨ (named x = true ∧ ¬ D.free < (y.size : Int) ∧ findL x D.L = none ∧ D.L.length = 64 ∧ own = 42) ∨ (named x = true ∧ ¬ D.free < (y.size : Int) ∧ findL x D.L = none ∧ D.L.length < 64 ∧ own = 0) ∨ (named x = true ∧ ¬ D.free < (y.size : Int) ∧ (∃ f, findL x D.L = some f) ∧ own = 0) := by
    rw [← hown]
    unfold AD.appO
    cases hn : named x with
    | false => exact .inl ⟨rfl, rfl⟩
    | true =>
      by_cases h1 : D.free < (y.size : Int)
      · exact .inr (.inl ⟨rfl, h1, by rw [if_neg (by decide), if_pos (.inl h1)]⟩)
      · cases hf : findL x D.L with
        | none =>
          by_cases h2 : D.L.length = 64
          · exact .inr (.inr (.inl ⟨rfl, h1, rfl, h2, by rw [if_neg (by decide), if_pos (.inr ⟨rfl, h2⟩)]⟩))
          · exact .inr (.inr (.inr (.inl ⟨rfl, h1, rfl, by have := OK.out.many; omega, by rw [if_neg (by decide), if_neg (fun h9 => h9.elim h1 (fun h9 => h2 h9.2))]⟩)))
        | some f => exact .inr (.inr (.inr (.inr ⟨rfl, h1, ⟨f, rfl⟩, by rw [if_neg (by decide), if_neg (fun h9 => h9.elim h1 (fun h9 => by cases h9.1))]⟩)))
  clear hown
  by_cases hz : (D.stepO own).2 = 0
  · obtain ⟨hz1, hz2⟩ := stepO_zero hz
    subst hz1
    rw [hz2] at cS ER
    have E : Aside0 (D.append x y = ({ D.tick with L := D.putL x y }, 0)) := ⟨ER⟩
    clear hz hz2 ER
    rcases hcase with ⟨hn, ho⟩ | ⟨hn, h1, ho⟩ | ⟨hn, h1, hf, h2, ho⟩ | ⟨hn, h1, hf, h2, -⟩ | ⟨hn, h1, ⟨f, hf⟩, -⟩
    · cases ho
    · cases ho
    · cases ho
    · have e3 : decide (D.free < (y.size : Int)) = false := decide_eq_false h1
      have e4 : decide ((64 : Int) ≤ (D.L.length : Int)) = false := decide_eq_false (by omega)
      have e4' : decide (64 ≤ D.L.length) = false := decide_eq_false (by omega)
      have hys : y.size ≤ 1048576 := by have := OK.out.size1; have := used_pos D; unfold AD.free at h1; omega
      have e9 : ¬ 9223372036854775807 < y.size := by omega
      have EP : Aside0 (D.putL x y = putR ⟨x, y, 0⟩ D.L) := ⟨by unfold AD.putL; rw [hf]; exact (putR_new (fun g hg => findL_none.1 hf g hg)).symm⟩
      rw [hn] at cN
      rw [hf] at cT
      clear hn h1 hf h2 hys
      go_enter Tryd.func37, Tryd.ntmps37
      go_upto_region 7 with (first
        | (go_at_call 34; refine cN.mono ?_; rintro e w1 ⟨rfl, hb1⟩; have B1 := Aside0.mk hb1; clear hb1 cN)
        | (go_at_call 55; refine (cT.out _ B1.out).mono ?_; rintro e w2 ⟨rfl, hb2⟩; have B2 := Aside0.mk (B1.out.trans (hb2.mono B1.out.size)); clear hb2 cT)
        | (go_at_call 45; refine (cF.out _ B2.out).mono ?_; rintro e w3 ⟨rfl, hb3⟩; have B3 := Aside0.mk (B2.out.trans (hb3.mono B2.out.size)); clear hb3 cF))
      have c1 := C1.out _ B3.out
      go_upto_region 13 with (go_at_call 56; refine (cS.out _ B3.out).mono ?_; rintro e w4 ⟨rfl, hr4, hf4⟩; have R4 := Aside0.mk hr4; have F4 := Aside0.mk hf4; clear hr4 hf4 cS)
      obtain ⟨W, hW⟩ : ∃ W, (w4.alloc (.cells #[.string ⟨x.toArray⟩, .string ⟨#[]⟩, .int .i64 0] 37)) = W := ⟨_, rfl⟩
      obtain ⟨gb, hgb⟩ : ∃ gb, gb = w4.heap.size := ⟨_, rfl⟩
      have BW : Aside0 (Below w4.heap.size w4 W) := ⟨by rw [← hW]; exact below_alloc (Below.refl _ _) _⟩
      have HB : Aside0 (W.heap[gb]? = some (.cells #[.string ⟨x.toArray⟩, .string ⟨#[]⟩, .int .i64 0] 37 (0, 0))) := ⟨by rw [← hW, hgb]; exact blk_new w4 _⟩
      have RW := Aside0.mk (R4.out.below BW.out)
      have GN : Aside0 (gb ∉ r :: (Value.slice A D.L.length c).ownBlock.toList ∧ w.heap.size ≤ gb) := ⟨fun h9 => by have := R4.out.lt gb h9; omega, by rw [hgb]; exact F4.out.size⟩
      rw [hW, ← hgb]
      obtain ⟨z0, z1, z2⟩ := file_box HB.out
      have y1 := blk_frozen HB.out 1
      clear hW hgb c1
      go_upto_region 16 with fail
      obtain ⟨W5, hW5⟩ : ∃ W5, W.setCell ⟨gb, 1, none⟩ (.string ((⟨#[]⟩ : ByteArray) ++ y)) = W5 := ⟨_, rfl⟩
      have HB5 : Aside0 (W5.heap[gb]? = some (.cells #[.string ⟨x.toArray⟩, .string ((⟨#[]⟩ : ByteArray) ++ y), .int .i64 0] 37 (0, 0))) := ⟨by rw [← hW5]; exact blk_put HB.out 1 _ rfl⟩
      have R5 : Aside0 (RefAt W5 r _ D.tick) := ⟨by rw [← hW5]; exact RW.out.step (fun k hk => Below.heap_setCell _ _ _ _ (by show k ≠ gb; exact fun e9 => GN.out.1 (e9 ▸ hk)))⟩
      have FW : Aside0 (Fr [r] w W5) := ⟨by rw [← hW5]; exact (F4.out.trans (Fr.of_below BW.out []) (fun _ hx => by cases hx)).setCell (p := ⟨gb, 1, none⟩) (.inr GN.out.2) _⟩
      have cQ5 := cQ.out W5 ⟨x, (⟨#[]⟩ : ByteArray) ++ y, 0⟩ R5.out
      rw [show putR (⟨x, ⟨#[]⟩ ++ y, 0⟩ : AF) D.L = D.putL x y by rw [EP.out, show (⟨#[]⟩ : ByteArray) ++ y = y from ByteArray.empty_append]] at cQ5
      obtain ⟨x0, x1, x2⟩ := file_box HB5.out
      rw [hW5]
      clear hW5 z0 z1 z2 y1 cQ
      go_wp2_with (go_at_call 35; refine cQ5.mono ?_; rintro e w6 ⟨rfl, hd⟩; have D6 := Aside0.mk hd; clear hd cQ5)
      go_ret
      rw [E.out]
      exact ⟨rfl, RDid.after FW.out D6.out⟩
    · have e3 : decide (D.free < (y.size : Int)) = false := decide_eq_false h1
      have hat := place_find OK.out.rising hf
      have hms := mem_size OK.out (List.mem_of_getElem? hat) h1
      have e9 : ¬ 9223372036854775807 < f.data.size + y.size := by omega
      have hfn := (findL_name hf).1
      have EP : Aside0 (D.putL x y = putR ⟨f.name, f.data ++ y, f.safe⟩ D.L) := ⟨by unfold AD.putL; rw [hf]; exact (putR_upd (g := fun f => { f with data := f.data ++ y }) OK.out.rising hf rfl hfn).symm⟩
      obtain ⟨i, hi⟩ : ∃ i, placeL x D.L = i := ⟨_, rfl⟩
      rw [hi] at cP hat
      have hil := (List.getElem?_eq_some_iff.1 hat).1
      have e5 : (i : Int) < (D.L.length : Int) := by omega
      have HA := Aside0.mk hat
      rw [hn] at cN
      rw [hf] at cT
      clear hn h1 hf hat hms hfn hi
      go_enter Tryd.func37, Tryd.ntmps37
      go_upto_region 7 with (first
        | (go_at_call 34; refine cN.mono ?_; rintro e w1 ⟨rfl, hb1⟩; have B1 := Aside0.mk hb1; clear hb1 cN)
        | (go_at_call 55; refine (cT.out _ B1.out).mono ?_; rintro e w2 ⟨rfl, hb2⟩; have B2 := Aside0.mk (B1.out.trans (hb2.mono B1.out.size)); clear hb2 cT)
        | (go_at_call 45; refine (cF.out _ B2.out).mono ?_; rintro e w3 ⟨rfl, hb3⟩; have B3 := Aside0.mk (B2.out.trans (hb3.mono B2.out.size)); clear hb3 cF))
      have c1 := C1.out _ B3.out
      go_upto_region 13 with (go_at_call 56; refine (cS.out _ B3.out).mono ?_; rintro e w4 ⟨rfl, hr4, hf4⟩; have R4 := Aside0.mk hr4; have F4 := Aside0.mk hf4; clear hr4 hf4 cS)
      obtain ⟨W, hW⟩ : ∃ W, (w4.alloc (.cells #[.string ⟨x.toArray⟩, .string ⟨#[]⟩, .int .i64 0] 37)) = W := ⟨_, rfl⟩
      obtain ⟨gb, hgb⟩ : ∃ gb, gb = w4.heap.size := ⟨_, rfl⟩
      have BW : Aside0 (Below w4.heap.size w4 W) := ⟨by rw [← hW]; exact below_alloc (Below.refl _ _) _⟩
      have HB : Aside0 (W.heap[gb]? = some (.cells #[.string ⟨x.toArray⟩, .string ⟨#[]⟩, .int .i64 0] 37 (0, 0))) := ⟨by rw [← hW, hgb]; exact blk_new w4 _⟩
      have RW := Aside0.mk (R4.out.below BW.out)
      have GN : Aside0 (gb ∉ r :: (Value.slice A D.L.length c).ownBlock.toList ∧ w.heap.size ≤ gb) := ⟨fun h9 => by have := R4.out.lt gb h9; omega, by rw [hgb]; exact F4.out.size⟩
      rw [hW, ← hgb]
      obtain ⟨z0, z1, z2⟩ := file_box HB.out
      have y0 := blk_frozen HB.out 0
      have y1 := blk_frozen HB.out 1
      have y2 := blk_frozen HB.out 2
      clear hW hgb c1
      go_upto_region 14 with fail
      obtain ⟨-, c1, -⟩ := ref_cells RW.out.head
      obtain ⟨g, cc, hv, q0, q1, q2⟩ := ref_at RW.out HA.out
      cases hv
      have HIL := Aside0.mk hil
      clear hil
      go_region_with (go_at_call 54; refine (cP.out _ (by first | exact RW.out | exact RW.out.below (by repeat (first | exact Below.refl _ _ | apply below_drew1 | apply below_alloc)))).mono ?_; rintro e w9 ⟨rfl, rfl⟩)
      all_goals
        obtain ⟨W3, hW3⟩ : ∃ W3, (((W.setCell ⟨gb, 0, none⟩ (.string ⟨f.name.toArray⟩)).setCell ⟨gb, 1, none⟩ (.string f.data)).setCell ⟨gb, 2, none⟩ (.int .i64 f.safe)).drew = W3 := ⟨_, rfl⟩
        have HB3 : Aside0 (W3.heap[gb]? = some (.cells #[.string ⟨f.name.toArray⟩, .string f.data, .int .i64 f.safe] 37 (0, 0))) := ⟨by rw [← hW3]; exact blk_put (blk_put (blk_put HB.out 0 _ rfl) 1 _ rfl) 2 _ rfl⟩
        have F3 : Aside0 (Fr [gb] W W3) := ⟨by rw [← hW3]; exact ((((Fr.refl _ W).setCell (p := ⟨gb, 0, none⟩) (.inl (by simp)) _).setCell (p := ⟨gb, 1, none⟩) (.inl (by simp)) _).setCell (p := ⟨gb, 2, none⟩) (.inl (by simp)) _).drew⟩
        have RW3 := Aside0.mk (RW.out.fr F3.out (fun k hk => by simp only [List.mem_singleton]; exact fun e9 => GN.out.1 (e9 ▸ hk)))
        have FW3 : Aside0 (Fr [r] w W3) := ⟨(F4.out.trans (Fr.of_below BW.out []) (fun _ hx => by cases hx)).trans F3.out (fun x hx => by simp only [List.mem_singleton] at hx; subst hx; exact .inr GN.out.2)⟩
        rw [hW3]
        clear hW3 z0 z1 z2 y0 y1 y2 c1 q0 q1 q2 cP RW HB BW F4 F3
        obtain ⟨z0, z1, z2⟩ := file_box HB3.out
        have y1 := blk_frozen HB3.out 1
        go_upto_region 16 with fail
        obtain ⟨W5, hW5⟩ : ∃ W5, W3.setCell ⟨gb, 1, none⟩ (.string (f.data ++ y)) = W5 := ⟨_, rfl⟩
        have HB5 : Aside0 (W5.heap[gb]? = some (.cells #[.string ⟨f.name.toArray⟩, .string (f.data ++ y), .int .i64 f.safe] 37 (0, 0))) := ⟨by rw [← hW5]; exact blk_put HB3.out 1 _ rfl⟩
        have R5 : Aside0 (RefAt W5 r _ D.tick) := ⟨by rw [← hW5]; exact RW3.out.step (fun k hk => Below.heap_setCell _ _ _ _ (by show k ≠ gb; exact fun e9 => GN.out.1 (e9 ▸ hk)))⟩
        have FW : Aside0 (Fr [r] w W5) := ⟨by rw [← hW5]; exact FW3.out.setCell (p := ⟨gb, 1, none⟩) (.inr GN.out.2) _⟩
        have cQ5 := cQ.out W5 ⟨f.name, f.data ++ y, f.safe⟩ R5.out
        rw [show putR (⟨f.name, f.data ++ y, f.safe⟩ : AF) D.L = D.putL x y from EP.out.symm] at cQ5
        obtain ⟨x0, x1, x2⟩ := file_box HB5.out
        rw [hW5]
        clear hW5 z0 z1 z2 y1 cQ
        go_wp2_with (go_at_call 35; refine cQ5.mono ?_; rintro e w6 ⟨rfl, hd⟩; have D6 := Aside0.mk hd; clear hd cQ5)
        go_ret
        rw [E.out]
        exact ⟨rfl, RDid.after FW.out D6.out⟩
  · have E : Aside0 (D.append x y = D.stepO own) := ⟨by rw [ER, thenL_ne hz]⟩
    have e2 : ((D.stepO own).2 != 0) = true := by rw [bne, beq_eq_false_iff_ne.2 hz]; rfl
    clear hz ER cP cQ HOWN
    generalize D.stepO own = P at cS E e2
    rcases hcase with ⟨hn, ho⟩ | ⟨hn, h1, ho⟩ | ⟨hn, h1, hf, h2, ho⟩ | ⟨hn, h1, hf, h2, ho⟩ | ⟨hn, h1, ⟨f, hf⟩, ho⟩
    · rw [hn] at cN
      subst ho
      clear hn 
      generalize (findL x D.L).isSome = is at cT
      go_enter Tryd.func37, Tryd.ntmps37
      go_upto_region 9 with (first
        | (go_at_call 34; refine cN.mono ?_; rintro e w1 ⟨rfl, hb1⟩; have B1 := Aside0.mk hb1; clear hb1 cN)
        | (go_at_call 55; refine (cT.out _ B1.out).mono ?_; rintro e w2 ⟨rfl, hb2⟩; have B2 := Aside0.mk (B1.out.trans (hb2.mono B1.out.size)); clear hb2 cT)
        | (go_at_call 45; refine (cF.out _ B2.out).mono ?_; rintro e w3 ⟨rfl, hb3⟩; have B3 := Aside0.mk (B2.out.trans (hb3.mono B2.out.size)); clear hb3 cF))
      have c1 := C1.out _ B3.out
      go_wp2_with (go_at_call 56; refine (cS.out _ B3.out).mono ?_; rintro e w4 ⟨rfl, hr4, hf4⟩; have R4 := Aside0.mk hr4; have F4 := Aside0.mk hf4; clear hr4 hf4 cS)
      go_ret
      rw [E.out]
      exact ⟨rfl, RDid.head R4.out F4.out⟩
    · have e3 : decide (D.free < (y.size : Int)) = true := decide_eq_true h1
      rw [hn] at cN
      subst ho
      clear hn h1 
      generalize (findL x D.L).isSome = is at cT
      go_enter Tryd.func37, Tryd.ntmps37
      go_upto_region 7 with (first
        | (go_at_call 34; refine cN.mono ?_; rintro e w1 ⟨rfl, hb1⟩; have B1 := Aside0.mk hb1; clear hb1 cN)
        | (go_at_call 55; refine (cT.out _ B1.out).mono ?_; rintro e w2 ⟨rfl, hb2⟩; have B2 := Aside0.mk (B1.out.trans (hb2.mono B1.out.size)); clear hb2 cT)
        | (go_at_call 45; refine (cF.out _ B2.out).mono ?_; rintro e w3 ⟨rfl, hb3⟩; have B3 := Aside0.mk (B2.out.trans (hb3.mono B2.out.size)); clear hb3 cF))
      have c1 := C1.out _ B3.out
      go_wp2_with (go_at_call 56; refine (cS.out _ B3.out).mono ?_; rintro e w4 ⟨rfl, hr4, hf4⟩; have R4 := Aside0.mk hr4; have F4 := Aside0.mk hf4; clear hr4 hf4 cS)
      go_ret
      rw [E.out]
      exact ⟨rfl, RDid.head R4.out F4.out⟩
    · have e3 : decide (D.free < (y.size : Int)) = false := decide_eq_false h1
      have e4 : decide ((64 : Int) ≤ (D.L.length : Int)) = true := decide_eq_true (by omega)
      have e4' : decide (64 ≤ D.L.length) = true := decide_eq_true (by omega)
      rw [hf] at cT
      rw [hn] at cN
      subst ho
      clear hn h1 hf h2
      go_enter Tryd.func37, Tryd.ntmps37
      go_upto_region 7 with (first
        | (go_at_call 34; refine cN.mono ?_; rintro e w1 ⟨rfl, hb1⟩; have B1 := Aside0.mk hb1; clear hb1 cN)
        | (go_at_call 55; refine (cT.out _ B1.out).mono ?_; rintro e w2 ⟨rfl, hb2⟩; have B2 := Aside0.mk (B1.out.trans (hb2.mono B1.out.size)); clear hb2 cT)
        | (go_at_call 45; refine (cF.out _ B2.out).mono ?_; rintro e w3 ⟨rfl, hb3⟩; have B3 := Aside0.mk (B2.out.trans (hb3.mono B2.out.size)); clear hb3 cF))
      have c1 := C1.out _ B3.out
      go_wp2_with (go_at_call 56; refine (cS.out _ B3.out).mono ?_; rintro e w4 ⟨rfl, hr4, hf4⟩; have R4 := Aside0.mk hr4; have F4 := Aside0.mk hf4; clear hr4 hf4 cS)
      go_ret
      rw [E.out]
      exact ⟨rfl, RDid.head R4.out F4.out⟩
    · have e3 : decide (D.free < (y.size : Int)) = false := decide_eq_false h1
      have e4 : decide ((64 : Int) ≤ (D.L.length : Int)) = false := decide_eq_false (by omega)
      have e4' : decide (64 ≤ D.L.length) = false := decide_eq_false (by omega)
      rw [hf] at cT
      rw [hn] at cN
      subst ho
      clear hn h1 hf h2
      go_enter Tryd.func37, Tryd.ntmps37
      go_upto_region 7 with (first
        | (go_at_call 34; refine cN.mono ?_; rintro e w1 ⟨rfl, hb1⟩; have B1 := Aside0.mk hb1; clear hb1 cN)
        | (go_at_call 55; refine (cT.out _ B1.out).mono ?_; rintro e w2 ⟨rfl, hb2⟩; have B2 := Aside0.mk (B1.out.trans (hb2.mono B1.out.size)); clear hb2 cT)
        | (go_at_call 45; refine (cF.out _ B2.out).mono ?_; rintro e w3 ⟨rfl, hb3⟩; have B3 := Aside0.mk (B2.out.trans (hb3.mono B2.out.size)); clear hb3 cF))
      have c1 := C1.out _ B3.out
      go_wp2_with (go_at_call 56; refine (cS.out _ B3.out).mono ?_; rintro e w4 ⟨rfl, hr4, hf4⟩; have R4 := Aside0.mk hr4; have F4 := Aside0.mk hf4; clear hr4 hf4 cS)
      go_ret
      rw [E.out]
      exact ⟨rfl, RDid.head R4.out F4.out⟩
    · have e3 : decide (D.free < (y.size : Int)) = false := decide_eq_false h1
      rw [hf] at cT
      rw [hn] at cN
      subst ho
      clear hn h1 hf
      go_enter Tryd.func37, Tryd.ntmps37
      go_upto_region 7 with (first
        | (go_at_call 34; refine cN.mono ?_; rintro e w1 ⟨rfl, hb1⟩; have B1 := Aside0.mk hb1; clear hb1 cN)
        | (go_at_call 55; refine (cT.out _ B1.out).mono ?_; rintro e w2 ⟨rfl, hb2⟩; have B2 := Aside0.mk (B1.out.trans (hb2.mono B1.out.size)); clear hb2 cT)
        | (go_at_call 45; refine (cF.out _ B2.out).mono ?_; rintro e w3 ⟨rfl, hb3⟩; have B3 := Aside0.mk (B2.out.trans (hb3.mono B2.out.size)); clear hb3 cF))
      have c1 := C1.out _ B3.out
      go_wp2_with (go_at_call 56; refine (cS.out _ B3.out).mono ?_; rintro e w4 ⟨rfl, hr4, hf4⟩; have R4 := Aside0.mk hr4; have F4 := Aside0.mk hf4; clear hr4 hf4 cS)
      go_ret
      rw [E.out]
      exact ⟨rfl, RDid.head R4.out F4.out⟩
end Go.Proofs.YtakhnkkcllfbjaaDoorX
end
section
namespace Go.Proofs.YtakhnkkcllfbjaaDoorX
open Go.RowKit Go.Proofs.YtakhnkkcllfbjaaDoorW.PrintWords Go.Proofs.YtakhnkkcllfbjaaDoorW.PrintLast Go.Proofs.YtakhnkkcllfbjaaDoorW.PrintMore
open Go.Proofs.YtakhnkkcllfbjaaDoor.PA (S37 k37 z37 k37_open k37_openM k37_mk k37_mkM rd_T37 at_T37)
set_option linter.unusedVariables false
set_option linter.unusedSimpArgs false
theorem C_int {w : World} {A : Option Addr} {n : Nat} {xs : List Int} (h : Kd.C (Kd.int .i64) w A n xs) {i : Nat} {x : Int} (hi : xs[i]? = some x) : ∃ ad, A = some ad ∧ w.cell? (ad.add i) = some (.int .i64 x) := by
  have hl := (List.getElem?_eq_some_iff.1 hi).1
  obtain ⟨ad, h1, h2⟩ := h.2.2 (by have := h.1; omega)
  obtain ⟨c, h3, h4, h5⟩ := h2 i x hi
  have h6 : c = [.int .i64 x] := h4
  refine ⟨ad, h1, ?_⟩
  have := h5 0 (.int .i64 x) (by rw [h6]; rfl)
  rw [show (Kd.int .i64).sz = 1 from rfl, Nat.mul_one, Nat.add_zero] at this
  exact this
/-- Where the reference's crash stands. -/
structure RCr (w wr : World) (r : Nat) (v : Value) (D : AD) (ks : List Int) (i k : Nat) (P : List AF) : Prop where
  ref : RefAt wr r v { D with L := P ++ D.L.drop i }
  len : P.length = i
  rest : P ++ crashL (D.L.drop i) (ks.drop k) = crashL D.L ks
  fr : Fr (r :: v.ownBlock.toList) w wr
theorem RCr.next {w wr W w2 : World} {r g c : Nat} {D : AD} {ks : List Int} {i k : Nat} {P : List AF} (h : RCr w wr r (.slice (some ⟨g, 0, none⟩) D.L.length c) D ks i k P) {f : AF} (hf : D.L[i]? = some f) (f' : AF) (k' : Nat)
    (hc : crashL (f :: D.L.drop (i + 1)) (ks.drop k) = f' :: crashL (D.L.drop (i + 1)) (ks.drop k')) (hW : Below wr.heap.size wr W)
    (h2 : w2 = ((((W.setCell ⟨g, i * 3, none⟩ (.string ⟨f'.name.toArray⟩)).setCell ⟨g, i * 3 + 1, none⟩ (.string f'.data)).setCell ⟨g, i * 3 + 2, none⟩ (.int .i64 f'.safe)).drew)) :
    RCr w w2 r (.slice (some ⟨g, 0, none⟩) D.L.length c) D ks (i + 1) k' (P ++ [f']) := by
  have hi := (List.getElem?_eq_some_iff.1 hf).1
  have hd : D.L.drop i = f :: D.L.drop (i + 1) := by
    rw [List.drop_eq_getElem_cons hi]
    have := (List.getElem?_eq_some_iff.1 hf).2
    rw [this]
  have hset : (P ++ D.L.drop i).set i f' = (P ++ [f']) ++ D.L.drop (i + 1) := by
    rw [List.set_append_right _ _ (by rw [h.len]; exact Nat.le_refl _), h.len, Nat.sub_self, hd, List.set_cons_zero, List.append_assoc]
    rfl
  have hlen : (filesT (P ++ D.L.drop i)).length = D.L.length := by
    rw [filesT, List.length_map, List.length_append, List.length_drop, h.len]; omega
  have RW := h.ref.below hW
  have hap := RW.apart
  subst h2
  refine ⟨⟨?_, ?_⟩, by rw [List.length_append, h.len]; rfl, ?_, ?_⟩
  · show (((W.setCell ⟨g, i * 3, none⟩ _).setCell ⟨g, i * 3 + 1, none⟩ _).setCell ⟨g, i * 3 + 2, none⟩ _).heap[r]? = _
    rw [put_other (fun e => hap (by rw [e]; simp [Value.ownBlock]))]
    exact RW.head
  · have hrow : Row37 W (.slice (some ⟨g, 0, none⟩) (filesT (P ++ D.L.drop i)).length c) (filesT (P ++ D.L.drop i)) := by rw [hlen]; exact RW.row
    have h9 := hrow.put (i := i) (by rw [hlen]; exact hi) (fileT f')
    rw [← filesT_set, hset, hlen] at h9
    exact h9.step (fun _ _ => rfl)
  · rw [List.append_assoc]
    show P ++ (f' :: crashL (D.L.drop (i + 1)) (ks.drop k')) = _
    rw [← hc, ← hd]
    exact h.rest
  · exact (put_fr (h.fr.trans (Fr.of_below hW []) (fun _ hx => by cases hx)) (.inl (by simp [Value.ownBlock]))).drew
theorem cut_crash {f : AF} {r : List AF} {ks : List Int} {s m k : Nat} (hs : f.safe = (s : Int)) (hlt : s < f.data.size) (hm : keepN (ks.drop k) ((f.data.size : Int) - f.safe) = (m : Int)) :
    crashL (f :: r) (ks.drop k) = ⟨f.name, f.data.extract 0 (s + m), ((s + m : Nat) : Int)⟩ :: crashL r (ks.drop (k + 1)) := by
  rw [crashL, if_pos (by rw [hs]; omega), hm, List.tail_drop]
  unfold cutF
  rw [hs, show ((s : Int) + (m : Int)).toNat = s + m by omega, Int.natCast_add]
theorem safe_crash {f : AF} {r : List AF} {ks : List Int} {k : Nat} (h : ¬ f.safe < (f.data.size : Int)) : crashL (f :: r) (ks.drop k) = ⟨f.name, f.data, f.data.size⟩ :: crashL r (ks.drop k) := by
  rw [crashL, if_neg h]
  rfl
theorem keep_at {ks : List Int} {k : Nat} {kv : Int} (h : ks[k]? = some kv) (t : Int) : keepN (ks.drop k) t = min (max kv 0) t := by
  have hl := (List.getElem?_eq_some_iff.1 h).1
  rw [List.drop_eq_getElem_cons hl]
  have := (List.getElem?_eq_some_iff.1 h).2
  rw [this]
  rfl
theorem keep_end {ks : List Int} {k : Nat} (h : ks.length ≤ k) (t : Int) : keepN (ks.drop k) t = 0 := by
  rw [List.drop_of_length_le h]
  rfl
theorem Row37.frozen {w : World} {g n c : Nat} {l : List S37} (h : Row37 w (.slice (some ⟨g, 0, none⟩) n c) l) (hl : 0 < l.length) (i : Nat) : w.frozen? ⟨g, i, none⟩ = false := by
  obtain ⟨g', cap, hv, _, _, cells, hc⟩ := Kd.R_form h hl
  cases hv
  exact blk_frozen hc i
set_option maxRecDepth 100000 in
set_option maxHeartbeats 8000000 in
theorem rcrash_calls {w : World} {r : Nat} {v : Value} {D : AD} (h : RefAt w r v D) (hok : D.Ok) (A : Option Addr) (c : Nat) (ks : List Int) (hk : Keeps (r :: v.ownBlock.toList) w A ks) (hkl : ks.length ≤ 4611686018427387904) :
    Calls Tryd.prog 43 #[.pointer (some ⟨r, 0, none⟩), .slice A ks.length c] w fun e w' => e = .returned (.tuple #[]) ∧ RDid w w' r v (D.crash ks) := by
  have hu := Tryd.underlying37
  have H := Aside0.mk h
  have OK := Aside0.mk hok
  have HK := Aside0.mk hk
  have HKL := Aside0.mk hkl
  obtain ⟨A1, c1, rfl, hc, hL⟩ := ref_shape h
  clear h hok hk hkl hc hL
  go_enter Tryd.func43, Tryd.ntmps43
  go_wp2
  go_loopg [4, 5] D.L.length (fun kq v4 v5 wr => ∃ (i k : Nat) (P : List AF), v4 = .int .i64 k ∧ v5 = .int .i64 i ∧ Aside0 (i + kq = D.L.length ∧ k ≤ i) ∧ Aside0 (RCr w wr r (.slice A1 D.L.length c1) D ks i k P))
  case atStart => exact ⟨0, 0, [], rfl, rfl, ⟨by omega, Nat.le_refl _⟩, ⟨⟨H.out, rfl, rfl, Fr.refl _ _⟩⟩⟩
  case round =>
    obtain ⟨i, k, P, rfl, rfl, h1, h2⟩ := hrel
    have hlen : (P ++ D.L.drop i).length = D.L.length := by rw [List.length_append, List.length_drop, h2.out.len]; have := h1.out.1; omega
    obtain ⟨-, c1', -⟩ := ref_cells h2.out.ref.head
    by_cases hi : i < D.L.length
    · have e1 : decide ((i : Int) < (D.L.length : Int)) = true := decide_eq_true (by omega)
      have e1' : decide (i < D.L.length) = true := decide_eq_true hi
      have e2 : (i : Int) < (D.L.length : Int) := by omega
      have e5 : IntKind.i64.wrap ((i : Int) + 1) = ((i + 1 : Nat) : Int) := by have := OK.out.many; rw [i64_w]; unfold wrap64; omega
      have e5k : IntKind.i64.wrap ((k : Int) + 1) = ((k + 1 : Nat) : Int) := by have := OK.out.many; have := h1.out.2; rw [i64_w]; unfold wrap64; omega
      obtain ⟨f, hf⟩ : ∃ f, D.L[i]? = some f := ⟨_, List.getElem?_eq_getElem hi⟩
      have hf2 : (P ++ D.L.drop i)[i]? = some f := by rw [List.getElem?_append_right (by rw [h2.out.len]; exact Nat.le_refl _), h2.out.len, Nat.sub_self, List.getElem?_drop, Nat.add_zero, hf]
      obtain ⟨g, cc, hv, q0, q1, q2⟩ := ref_at h2.out.ref hf2
      rw [show ({ D with L := P ++ D.L.drop i } : AD).L.length = D.L.length from hlen] at hv
      cases hv
      obtain ⟨hs0, hs1⟩ := OK.out.safe f (List.mem_of_getElem? hf)
      have hsz : f.data.size ≤ 1048576 := by
        have a1 := mem_tot (List.mem_of_getElem? hf)
        have a2 := OK.out.used
        have a3 := OK.out.size1
        unfold AD.used at a2
        omega
      obtain ⟨s, hs⟩ : ∃ s : Nat, f.safe = (s : Int) := ⟨f.safe.toNat, by omega⟩
      have hss : s ≤ f.data.size := by omega
      rw [hs] at q2
      have HF := Aside0.mk hf
      have HI := Aside0.mk hi
      have HS := Aside0.mk hs
      have HSZ := Aside0.mk hsz
      have HSS := Aside0.mk hss
      have eT : IntKind.i64.wrap ((f.data.size : Int) - (s : Int)) = (f.data.size : Int) - (s : Int) := by rw [i64_w]; unfold wrap64; omega
      have HLEN := Aside0.mk hlen
      obtain ⟨T, hT⟩ : ∃ T : Int, (f.data.size : Int) - (s : Int) = T := ⟨_, rfl⟩
      have HT := Aside0.mk hT
      replace eT : IntKind.i64.wrap ((f.data.size : Int) - (s : Int)) = T := eT.trans hT
      clear hf hf2 hs0 hs1 hsz hs hlen hT
      go_upto_region 5 with fail
      obtain ⟨W, hW⟩ : ∃ W, (wr.alloc (.cells #[.string ⟨f.name.toArray⟩, .string f.data, .int .i64 (s : Int)] 37)) = W := ⟨_, rfl⟩
      obtain ⟨gb, hgb⟩ : ∃ gb, gb = wr.heap.size := ⟨_, rfl⟩
      have BW : Aside0 (Below wr.heap.size wr W) := ⟨by rw [← hW]; exact below_alloc (Below.refl _ _) _⟩
      have HB : Aside0 (W.heap[gb]? = some (.cells #[.string ⟨f.name.toArray⟩, .string f.data, .int .i64 (s : Int)] 37 (0, 0))) := ⟨by rw [← hW, hgb]; exact blk_new wr _⟩
      have RW := Aside0.mk (h2.out.ref.below BW.out)
      have HGB := Aside0.mk hgb
      rw [hW]
      go_simp
      rw [← hgb]
      clear hW hgb c1' q0 q1 q2
      obtain ⟨x0, x1, x2⟩ := file_box HB.out
      have y1 := blk_frozen HB.out 1
      have y2 := blk_frozen HB.out 2
      obtain ⟨-, c1', -⟩ := ref_cells RW.out.head
      have FW : Aside0 (Fr (r :: (Value.slice (some ⟨g, 0, none⟩) D.L.length c1).ownBlock.toList) w W) := ⟨h2.out.fr.trans (Fr.of_below BW.out []) (fun _ hx => by cases hx)⟩
      by_cases hT0 : 0 < T
      · have e6 : decide (0 < T) = true := decide_eq_true hT0
        have HLT := Aside0.mk hT0
        have hTt : ¬ T < 0 := by omega
        have e13 : decide (T < 0) = false := decide_eq_false hTt
        have e14 : IntKind.i64.wrap ((s : Int) + 0) = (s : Int) := by have := HSZ.out; rw [i64_w]; unfold wrap64; omega
        have e14' : IntKind.i64.wrap (s : Int) = (s : Int) := by have := HSZ.out; rw [i64_w]; unfold wrap64; omega
        have e15 : (s : Int) ≤ (f.data.size : Int) := by omega
        have HXS : Aside0 (s ≤ f.data.size) := ⟨hss⟩
        clear hT0 hTt
        by_cases hkl : k < ks.length
        · have e8 : decide ((k : Int) < (ks.length : Int)) = true := decide_eq_true (by omega)
          have e8' : decide (k < ks.length) = true := decide_eq_true hkl
          have e9 : (k : Int) < (ks.length : Int) := by omega
          obtain ⟨kv, hkv⟩ : ∃ kv, ks[k]? = some kv := ⟨_, List.getElem?_eq_getElem hkl⟩
          obtain ⟨ad, rfl, hcell⟩ := C_int (HK.out W FW.out) hkv
          have HM0 := Aside0.mk (keep_at hkv T)
          clear hkv
          by_cases hn0 : kv < 0
          · have e11 : decide (kv < 0) = true := decide_eq_true hn0
            have HM : Aside0 (keepN (ks.drop k) T = ((0 : Nat) : Int)) := ⟨by rw [HM0.out]; have := HLT.out; omega⟩
            clear hn0
            go_upto_region 17 with fail
            obtain ⟨W5, hW5⟩ : ∃ W5, (W.setCell ⟨gb, 1, none⟩ (.string (f.data.extract 0 s))).setCell ⟨gb, 2, none⟩ (.int .i64 (s : Int)) = W5 := ⟨_, rfl⟩
            have HB5 : Aside0 (W5.heap[gb]? = some (.cells #[.string ⟨f.name.toArray⟩, .string (f.data.extract 0 s), .int .i64 (s : Int)] 37 (0, 0))) := ⟨by rw [← hW5]; exact blk_put (blk_put HB.out 1 _ rfl) 2 _ rfl⟩
            have F5 : Aside0 (Fr [gb] W W5) := ⟨by rw [← hW5]; exact ((Fr.refl [gb] W).setCell (p := ⟨gb, 1, none⟩) (.inl (by simp)) _).setCell (p := ⟨gb, 2, none⟩) (.inl (by simp)) _⟩
            have GN : Aside0 (gb ∉ r :: (Value.slice (some ⟨g, 0, none⟩) D.L.length c1).ownBlock.toList) := ⟨fun h9 => by have := h2.out.ref.lt gb h9; have := HGB.out; omega⟩
            have R5 := Aside0.mk (RW.out.fr F5.out (fun k hk => by simp only [List.mem_singleton]; exact fun e9 => GN.out (e9 ▸ hk)))
            have B5 : Aside0 (Below wr.heap.size wr W5) := ⟨BW.out.trans (F5.out.below_base (fun x hx => by simp only [List.mem_singleton] at hx; rw [hx, HGB.out]; exact Nat.le_refl _) BW.out.size)⟩
            rw [hW5]
            clear hW5 x0 x1 x2 y1 y2 c1'
            obtain ⟨x0, x1, x2⟩ := file_box HB5.out
            obtain ⟨-, c1', -⟩ := ref_cells R5.out.head
            have hpos : 0 < (filesT (P ++ D.L.drop i)).length := by rw [filesT, List.length_map, HLEN.out]; have := HI.out; omega
            have z0 := Row37.frozen R5.out.row hpos (i * 3)
            have z1 := Row37.frozen R5.out.row hpos (i * 3 + 1)
            have z2 := Row37.frozen R5.out.row hpos (i * 3 + 2)
            obtain ⟨fz, hfz⟩ : ∃ f, (P ++ D.L.drop i)[i]? = some f := ⟨_, List.getElem?_eq_getElem (by rw [HLEN.out]; exact HI.out)⟩
            obtain ⟨g8, c8, hv8, q0, q1, q2⟩ := ref_at R5.out hfz
            rw [show ({ D with L := P ++ D.L.drop i } : AD).L.length = D.L.length from HLEN.out] at hv8
            cases hv8
            clear hpos hfz
            go_region
            go_wp2
            go_roundg (D.L.length - (i + 1))
            case measure => have := h1.out; have := HI.out; omega
            case rel => exact ⟨i + 1, (k + 1), P ++ [⟨f.name, f.data.extract 0 s, (s : Int)⟩], by simp, by simp, ⟨by have := h1.out; have := HI.out; omega, by have := h1.out; omega⟩, ⟨RCr.next h2.out HF.out ⟨f.name, f.data.extract 0 s, (s : Int)⟩ (k + 1) (by rw [cut_crash (m := 0) HS.out (by have := HLT.out; have := HT.out; omega) (by rw [HS.out, HT.out]; exact HM.out), show s + (0) = s by have := HSS.out; have := HT.out; omega]; try rfl) B5.out rfl⟩⟩
          · have e11 : decide (kv < 0) = false := decide_eq_false hn0
            by_cases hnT : T < kv
            · have e13' : decide (T < kv) = true := decide_eq_true hnT
              have HM : Aside0 (keepN (ks.drop k) T = ((f.data.size - s : Nat) : Int)) := ⟨by rw [HM0.out]; have := HT.out; omega⟩
              have e16 : IntKind.i64.wrap ((s : Int) + T) = (f.data.size : Int) := by have := HSZ.out; have := HT.out; rw [i64_w]; unfold wrap64; omega
              clear hn0 hnT HXS
              have HXS : Aside0 (f.data.size ≤ f.data.size) := ⟨Nat.le_refl _⟩
              go_upto_region 17 with fail
              obtain ⟨W5, hW5⟩ : ∃ W5, (W.setCell ⟨gb, 1, none⟩ (.string f.data)).setCell ⟨gb, 2, none⟩ (.int .i64 (f.data.size : Int)) = W5 := ⟨_, rfl⟩
              have HB5 : Aside0 (W5.heap[gb]? = some (.cells #[.string ⟨f.name.toArray⟩, .string (f.data), .int .i64 (f.data.size : Int)] 37 (0, 0))) := ⟨by rw [← hW5]; exact blk_put (blk_put HB.out 1 _ rfl) 2 _ rfl⟩
              have F5 : Aside0 (Fr [gb] W W5) := ⟨by rw [← hW5]; exact ((Fr.refl [gb] W).setCell (p := ⟨gb, 1, none⟩) (.inl (by simp)) _).setCell (p := ⟨gb, 2, none⟩) (.inl (by simp)) _⟩
              have GN : Aside0 (gb ∉ r :: (Value.slice (some ⟨g, 0, none⟩) D.L.length c1).ownBlock.toList) := ⟨fun h9 => by have := h2.out.ref.lt gb h9; have := HGB.out; omega⟩
              have R5 := Aside0.mk (RW.out.fr F5.out (fun k hk => by simp only [List.mem_singleton]; exact fun e9 => GN.out (e9 ▸ hk)))
              have B5 : Aside0 (Below wr.heap.size wr W5) := ⟨BW.out.trans (F5.out.below_base (fun x hx => by simp only [List.mem_singleton] at hx; rw [hx, HGB.out]; exact Nat.le_refl _) BW.out.size)⟩
              rw [hW5]
              clear hW5 x0 x1 x2 y1 y2 c1'
              obtain ⟨x0, x1, x2⟩ := file_box HB5.out
              obtain ⟨-, c1', -⟩ := ref_cells R5.out.head
              have hpos : 0 < (filesT (P ++ D.L.drop i)).length := by rw [filesT, List.length_map, HLEN.out]; have := HI.out; omega
              have z0 := Row37.frozen R5.out.row hpos (i * 3)
              have z1 := Row37.frozen R5.out.row hpos (i * 3 + 1)
              have z2 := Row37.frozen R5.out.row hpos (i * 3 + 2)
              obtain ⟨fz, hfz⟩ : ∃ f, (P ++ D.L.drop i)[i]? = some f := ⟨_, List.getElem?_eq_getElem (by rw [HLEN.out]; exact HI.out)⟩
              obtain ⟨g8, c8, hv8, q0, q1, q2⟩ := ref_at R5.out hfz
              rw [show ({ D with L := P ++ D.L.drop i } : AD).L.length = D.L.length from HLEN.out] at hv8
              cases hv8
              clear hpos hfz
              go_region
              go_wp2
              go_roundg (D.L.length - (i + 1))
              case measure => have := h1.out; have := HI.out; omega
              case rel => exact ⟨i + 1, (k + 1), P ++ [⟨f.name, f.data, (f.data.size : Int)⟩], by simp, by simp, ⟨by have := h1.out; have := HI.out; omega, by have := h1.out; omega⟩, ⟨RCr.next h2.out HF.out ⟨f.name, f.data, (f.data.size : Int)⟩ (k + 1) (by rw [cut_crash (m := f.data.size - s) HS.out (by have := HLT.out; have := HT.out; omega) (by rw [HS.out, HT.out]; exact HM.out), show s + (f.data.size - s) = f.data.size by have := HSS.out; have := HT.out; omega, extract_all]; try rfl) B5.out rfl⟩⟩
            · have e13' : decide (T < kv) = false := decide_eq_false hnT
              obtain ⟨m, rfl⟩ : ∃ m : Nat, kv = (m : Int) := ⟨kv.toNat, by omega⟩
              have HM : Aside0 (keepN (ks.drop k) T = ((m : Nat) : Int)) := ⟨by rw [HM0.out]; omega⟩
              have e16 : IntKind.i64.wrap ((s : Int) + (m : Int)) = ((s + m : Nat) : Int) := by have := HSZ.out; have := HT.out; rw [i64_w]; unfold wrap64; omega
              have e17 : s + m ≤ f.data.size := by have := HT.out; omega
              have e18 : ((s + m : Nat) : Int) ≤ (f.data.size : Int) := by omega
              have e19 : (s : Int) + (m : Int) ≤ (f.data.size : Int) := by omega
              clear hn0 hnT HXS
              have HXS : Aside0 (s + m ≤ f.data.size) := ⟨e17⟩
              go_upto_region 17 with fail
              obtain ⟨W5, hW5⟩ : ∃ W5, (W.setCell ⟨gb, 1, none⟩ (.string (f.data.extract 0 (s + m)))).setCell ⟨gb, 2, none⟩ (.int .i64 ((s : Int) + (m : Int))) = W5 := ⟨_, rfl⟩
              have HB5 : Aside0 (W5.heap[gb]? = some (.cells #[.string ⟨f.name.toArray⟩, .string (f.data.extract 0 (s + m)), .int .i64 ((s : Int) + (m : Int))] 37 (0, 0))) := ⟨by rw [← hW5]; exact blk_put (blk_put HB.out 1 _ rfl) 2 _ rfl⟩
              have F5 : Aside0 (Fr [gb] W W5) := ⟨by rw [← hW5]; exact ((Fr.refl [gb] W).setCell (p := ⟨gb, 1, none⟩) (.inl (by simp)) _).setCell (p := ⟨gb, 2, none⟩) (.inl (by simp)) _⟩
              have GN : Aside0 (gb ∉ r :: (Value.slice (some ⟨g, 0, none⟩) D.L.length c1).ownBlock.toList) := ⟨fun h9 => by have := h2.out.ref.lt gb h9; have := HGB.out; omega⟩
              have R5 := Aside0.mk (RW.out.fr F5.out (fun k hk => by simp only [List.mem_singleton]; exact fun e9 => GN.out (e9 ▸ hk)))
              have B5 : Aside0 (Below wr.heap.size wr W5) := ⟨BW.out.trans (F5.out.below_base (fun x hx => by simp only [List.mem_singleton] at hx; rw [hx, HGB.out]; exact Nat.le_refl _) BW.out.size)⟩
              rw [hW5]
              clear hW5 x0 x1 x2 y1 y2 c1'
              obtain ⟨x0, x1, x2⟩ := file_box HB5.out
              obtain ⟨-, c1', -⟩ := ref_cells R5.out.head
              have hpos : 0 < (filesT (P ++ D.L.drop i)).length := by rw [filesT, List.length_map, HLEN.out]; have := HI.out; omega
              have z0 := Row37.frozen R5.out.row hpos (i * 3)
              have z1 := Row37.frozen R5.out.row hpos (i * 3 + 1)
              have z2 := Row37.frozen R5.out.row hpos (i * 3 + 2)
              obtain ⟨fz, hfz⟩ : ∃ f, (P ++ D.L.drop i)[i]? = some f := ⟨_, List.getElem?_eq_getElem (by rw [HLEN.out]; exact HI.out)⟩
              obtain ⟨g8, c8, hv8, q0, q1, q2⟩ := ref_at R5.out hfz
              rw [show ({ D with L := P ++ D.L.drop i } : AD).L.length = D.L.length from HLEN.out] at hv8
              cases hv8
              clear hpos hfz
              go_region
              go_wp2
              go_roundg (D.L.length - (i + 1))
              case measure => have := h1.out; have := HI.out; omega
              case rel => exact ⟨i + 1, (k + 1), P ++ [⟨f.name, f.data.extract 0 (s + m), ((s : Int) + (m : Int))⟩], by simp, by simp, ⟨by have := h1.out; have := HI.out; omega, by have := h1.out; omega⟩, ⟨RCr.next h2.out HF.out ⟨f.name, f.data.extract 0 (s + m), ((s : Int) + (m : Int))⟩ (k + 1) (by rw [cut_crash (m := m) HS.out (by have := HLT.out; have := HT.out; omega) (by rw [HS.out, HT.out]; exact HM.out), show s + (m) = (s + m) by have := HSS.out; have := HT.out; omega]; try rfl) B5.out rfl⟩⟩
        · have e8 : decide ((k : Int) < (ks.length : Int)) = false := decide_eq_false (by omega)
          have e8' : decide (k < ks.length) = false := decide_eq_false hkl
          have HM : Aside0 (keepN (ks.drop k) T = ((0 : Nat) : Int)) := ⟨keep_end (by omega) T⟩
          clear hkl
          go_upto_region 17 with fail
          obtain ⟨W5, hW5⟩ : ∃ W5, (W.setCell ⟨gb, 1, none⟩ (.string (f.data.extract 0 s))).setCell ⟨gb, 2, none⟩ (.int .i64 (s : Int)) = W5 := ⟨_, rfl⟩
          have HB5 : Aside0 (W5.heap[gb]? = some (.cells #[.string ⟨f.name.toArray⟩, .string (f.data.extract 0 s), .int .i64 (s : Int)] 37 (0, 0))) := ⟨by rw [← hW5]; exact blk_put (blk_put HB.out 1 _ rfl) 2 _ rfl⟩
          have F5 : Aside0 (Fr [gb] W W5) := ⟨by rw [← hW5]; exact ((Fr.refl [gb] W).setCell (p := ⟨gb, 1, none⟩) (.inl (by simp)) _).setCell (p := ⟨gb, 2, none⟩) (.inl (by simp)) _⟩
          have GN : Aside0 (gb ∉ r :: (Value.slice (some ⟨g, 0, none⟩) D.L.length c1).ownBlock.toList) := ⟨fun h9 => by have := h2.out.ref.lt gb h9; have := HGB.out; omega⟩
          have R5 := Aside0.mk (RW.out.fr F5.out (fun k hk => by simp only [List.mem_singleton]; exact fun e9 => GN.out (e9 ▸ hk)))
          have B5 : Aside0 (Below wr.heap.size wr W5) := ⟨BW.out.trans (F5.out.below_base (fun x hx => by simp only [List.mem_singleton] at hx; rw [hx, HGB.out]; exact Nat.le_refl _) BW.out.size)⟩
          rw [hW5]
          clear hW5 x0 x1 x2 y1 y2 c1'
          obtain ⟨x0, x1, x2⟩ := file_box HB5.out
          obtain ⟨-, c1', -⟩ := ref_cells R5.out.head
          have hpos : 0 < (filesT (P ++ D.L.drop i)).length := by rw [filesT, List.length_map, HLEN.out]; have := HI.out; omega
          have z0 := Row37.frozen R5.out.row hpos (i * 3)
          have z1 := Row37.frozen R5.out.row hpos (i * 3 + 1)
          have z2 := Row37.frozen R5.out.row hpos (i * 3 + 2)
          obtain ⟨fz, hfz⟩ : ∃ f, (P ++ D.L.drop i)[i]? = some f := ⟨_, List.getElem?_eq_getElem (by rw [HLEN.out]; exact HI.out)⟩
          obtain ⟨g8, c8, hv8, q0, q1, q2⟩ := ref_at R5.out hfz
          rw [show ({ D with L := P ++ D.L.drop i } : AD).L.length = D.L.length from HLEN.out] at hv8
          cases hv8
          clear hpos hfz
          go_region
          go_wp2
          go_roundg (D.L.length - (i + 1))
          case measure => have := h1.out; have := HI.out; omega
          case rel => exact ⟨i + 1, (k + 1), P ++ [⟨f.name, f.data.extract 0 s, (s : Int)⟩], by simp, by simp, ⟨by have := h1.out; have := HI.out; omega, by have := h1.out; omega⟩, ⟨RCr.next h2.out HF.out ⟨f.name, f.data.extract 0 s, (s : Int)⟩ (k + 1) (by rw [cut_crash (m := 0) HS.out (by have := HLT.out; have := HT.out; omega) (by rw [HS.out, HT.out]; exact HM.out), show s + (0) = s by have := HSS.out; have := HT.out; omega]; try rfl) B5.out rfl⟩⟩
      · have e6 : decide (0 < T) = false := decide_eq_false hT0
        have HLE := Aside0.mk hT0
        clear hT0
        go_upto_region 17 with fail
        obtain ⟨W5, hW5⟩ : ∃ W5, W.setCell ⟨gb, 2, none⟩ (.int .i64 (f.data.size : Int)) = W5 := ⟨_, rfl⟩
        have HB5 : Aside0 (W5.heap[gb]? = some (.cells #[.string ⟨f.name.toArray⟩, .string (f.data), .int .i64 (f.data.size : Int)] 37 (0, 0))) := ⟨by rw [← hW5]; exact blk_put HB.out 2 _ rfl⟩
        have F5 : Aside0 (Fr [gb] W W5) := ⟨by rw [← hW5]; exact (Fr.refl [gb] W).setCell (p := ⟨gb, 2, none⟩) (.inl (by simp)) _⟩
        have GN : Aside0 (gb ∉ r :: (Value.slice (some ⟨g, 0, none⟩) D.L.length c1).ownBlock.toList) := ⟨fun h9 => by have := h2.out.ref.lt gb h9; have := HGB.out; omega⟩
        have R5 := Aside0.mk (RW.out.fr F5.out (fun k hk => by simp only [List.mem_singleton]; exact fun e9 => GN.out (e9 ▸ hk)))
        have B5 : Aside0 (Below wr.heap.size wr W5) := ⟨BW.out.trans (F5.out.below_base (fun x hx => by simp only [List.mem_singleton] at hx; rw [hx, HGB.out]; exact Nat.le_refl _) BW.out.size)⟩
        rw [hW5]
        clear hW5 x0 x1 x2 y1 y2 c1'
        obtain ⟨x0, x1, x2⟩ := file_box HB5.out
        obtain ⟨-, c1', -⟩ := ref_cells R5.out.head
        have hpos : 0 < (filesT (P ++ D.L.drop i)).length := by rw [filesT, List.length_map, HLEN.out]; have := HI.out; omega
        have z0 := Row37.frozen R5.out.row hpos (i * 3)
        have z1 := Row37.frozen R5.out.row hpos (i * 3 + 1)
        have z2 := Row37.frozen R5.out.row hpos (i * 3 + 2)
        obtain ⟨fz, hfz⟩ : ∃ f, (P ++ D.L.drop i)[i]? = some f := ⟨_, List.getElem?_eq_getElem (by rw [HLEN.out]; exact HI.out)⟩
        obtain ⟨g8, c8, hv8, q0, q1, q2⟩ := ref_at R5.out hfz
        rw [show ({ D with L := P ++ D.L.drop i } : AD).L.length = D.L.length from HLEN.out] at hv8
        cases hv8
        clear hpos hfz
        go_region
        go_wp2
        go_roundg (D.L.length - (i + 1))
        case measure => have := h1.out; have := HI.out; omega
        case rel => exact ⟨i + 1, k, P ++ [⟨f.name, f.data, (f.data.size : Int)⟩], by simp, by simp, ⟨by have := h1.out; have := HI.out; omega, by have := h1.out; omega⟩, ⟨RCr.next h2.out HF.out ⟨f.name, f.data, (f.data.size : Int)⟩ k (safe_crash (by rw [HS.out]; have := HT.out; have := HLE.out; omega)) B5.out rfl⟩⟩
    · have e1 : decide ((i : Int) < (D.L.length : Int)) = false := decide_eq_false (by omega)
      have e1' : decide (i < D.L.length) = false := decide_eq_false hi
      have HE : Aside0 (P = crashL D.L ks) := ⟨by
        have h9 := h2.out.rest
        rw [List.drop_of_length_le (by omega)] at h9
        rw [← h9]
        show P = P ++ []
        rw [List.append_nil]⟩
      have HD : Aside0 (P ++ D.L.drop i = crashL D.L ks) := ⟨by rw [List.drop_of_length_le (by omega), List.append_nil]; exact HE.out⟩
      obtain ⟨c0, -, c2, c3, c4⟩ := ref_cells h2.out.ref.head
      have z2 := blk_frozen h2.out.ref.head 2
      have z3 := blk_frozen h2.out.ref.head 3
      clear hi hlen c0 c4
      go_wp2
      go_end0
      refine ⟨rfl, _, ?_, (h2.out.fr.setCell (p := ⟨r, 3, none⟩) (.inl (by simp)) _).setCell (p := ⟨r, 2, none⟩) (.inl (by simp)) _, fun k hk => .inl hk⟩
      exact h2.out.ref.turn (D' := D.crash ks) (blk_put (blk_put h2.out.ref.head 3 _ rfl) 2 _ rfl) (((Fr.refl _ _).setCell (p := ⟨r, 3, none⟩) (.inl (by simp)) _).setCell (p := ⟨r, 2, none⟩) (.inl (by simp)) _) HD.out.symm
end Go.Proofs.YtakhnkkcllfbjaaDoorX
end
