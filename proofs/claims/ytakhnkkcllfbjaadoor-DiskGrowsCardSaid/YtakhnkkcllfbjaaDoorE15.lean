/- Crash of a disk: the walk. -/
import Derived.Test.YtakhnkkcllfbjaaDoorE14
namespace Go.Proofs.YtakhnkkcllfbjaaDoorX
open Go.RowKit Go.Proofs.YtakhnkkcllfbjaaDoorW.PrintWords Go.Proofs.YtakhnkkcllfbjaaDoorW.PrintLast Go.Proofs.YtakhnkkcllfbjaaDoorW.PrintMore
attribute [local go_sem] max2_int min2_int max_two min_two max_three min_three max_four min_four   -- for this text's walks alone
set_option linter.unusedVariables false
set_option linter.unusedSimpArgs false
/-- A list of numbers that stays while the disk's blocks S turn. -/
def Keeps (S : List Nat) (w : World) (A : Option Addr) (ks : List Int) : Prop := ∀ w', Fr S w w' → Kd.C (Kd.int .i64) w' A ks.length ks
theorem Keeps.step {S : List Nat} {w w2 : World} {A : Option Addr} {ks : List Int} (h : Keeps S w A ks) (hf : Fr S w w2) : Keeps S w2 A ks := fun w' hw' => h w' (hf.trans hw' (fun x hx => .inl hx))
theorem row_fr {S : List Nat} {w w2 : World} {base : Nat} {e : TypeId} {size : Nat} {v : Value} {n : Nat} {xs : List Value} (h : w.ownsRow base e size v n xs) (hf : Fr S w w2) (hS : ∀ x ∈ S, x < base) : w2.ownsRow base e size v n xs := by
  rcases h.2 with h2 | ⟨g, cap, cur, rfl, hb, hg, r⟩
  · exact ⟨h.1, .inl h2⟩
  · exact ⟨h.1, .inr ⟨g, cap, cur, rfl, hb, hf.blk hg (fun hx => by have := hS g hx; omega), r⟩⟩
theorem CrAt.drew {w wr : World} {a m : Nat} {lay lay' : Lay} {D : AD} {ks0 ks : List Int} {i : Nat} {P : List AF} (h : CrAt w wr a m lay D ks0 i ks P lay') : CrAt w wr.drew a m lay D ks0 i ks P lay' := ⟨h.dk.step (fun _ _ => rfl), h.len, h.rest, h.fr.drew, h.sub⟩
/-- The disk's blocks are where they were. -/
theorem CrAt.low {w wr : World} {a m : Nat} {lay lay' : Lay} {D : AD} {ks0 ks : List Int} {i : Nat} {P : List AF} (h : CrAt w wr a m lay D ks0 i ks P lay') {f : AF} (hf : f ∈ P ++ D.L.drop i) : (lay' f.name).1 ∈ a :: m :: ownL lay D.L := by
  simp only [List.mem_cons]
  exact .inr (.inr (h.sub _ (mem_ownL.2 ⟨f, hf, by simp [ownF]⟩)))
theorem cr_world {w wr : World} {a m : Nat} {lay lay' : Lay} {D : AD} {ks0 ks : List Int} {i : Nat} {P : List AF} (h : CrAt w wr a m lay D ks0 i ks P lay') {f : AF} (hf : f ∈ P ++ D.L.drop i) (p : Option Addr) (kk c : Nat) (U : Int) :
    Fr [a, (lay' f.name).1] wr (((wr.setCell ⟨(lay' f.name).1, 0, none⟩ (.slice p kk c)).setCell ⟨a, 2, none⟩ (.int .i64 U)).setCell ⟨(lay' f.name).1, 1, none⟩ (.int .i64 kk)) ∧
    (((wr.setCell ⟨(lay' f.name).1, 0, none⟩ (.slice p kk c)).setCell ⟨a, 2, none⟩ (.int .i64 U)).setCell ⟨(lay' f.name).1, 1, none⟩ (.int .i64 kk)).heap[a]? = some (.cells ((headD m { D with L := P ++ D.L.drop i }).setIfInBounds 2 (.int .i64 U)) 64 (0, 0)) ∧
    (((wr.setCell ⟨(lay' f.name).1, 0, none⟩ (.slice p kk c)).setCell ⟨a, 2, none⟩ (.int .i64 U)).setCell ⟨(lay' f.name).1, 1, none⟩ (.int .i64 kk)).heap[(lay' f.name).1]? = some (.cells #[.slice p kk c, .int .i64 kk] 70 (0, 0)) := by
  have hat := h.dk.file f hf
  have hne : a ≠ (lay' f.name).1 := fun e => h.dk.sep.afar f hf (by simp only [ownF, List.mem_cons]; exact .inl e)
  refine ⟨Fr.setCell (p := ⟨(lay' f.name).1, 1, none⟩) (Fr.setCell (p := ⟨a, 2, none⟩) (Fr.setCell (p := ⟨(lay' f.name).1, 0, none⟩) (Fr.refl _ _) (.inl (by simp)) _) (.inl (by simp)) _) (.inl (by simp)) _, ?_, ?_⟩
  · exact blk_far (blk_put (blk_far h.dk.head hne _) 2 _ rfl) hne _
  · exact blk_put (blk_far (blk_put hat.1 0 _ rfl) (fun e => hne e.symm) _) 1 _ rfl
theorem keep_head {S : List Nat} {w : World} {A : Option Addr} {k0 : Int} {kr : List Int} (h : Keeps S w A (k0 :: kr)) : ∃ ad, A = some ad ∧ w.cell? ad = some (.int .i64 k0) := by
  obtain ⟨ad, c, h1, h2, h3, h4⟩ := Kd.C_get (h w (Fr.refl _ _)) 0 0 (Int.le_refl _) (by simp)
  refine ⟨ad, h1, ?_⟩
  have h5 : c = [.int .i64 k0] := h3
  have h6 := h4 0 (.int .i64 k0) (by rw [h5]; rfl)
  have h7 : ad.add ((0 : Int).toNat * (Kd.int .i64).sz + 0) = ad := by simp [Addr.add]
  rw [h7] at h6
  exact h6
theorem keep_tail {S : List Nat} {w : World} {ad : Addr} {k0 : Int} {kr : List Int} {c : Nat} (h : Keeps S w (some ad) (k0 :: kr)) (hc : (k0 :: kr).length ≤ c) : Keeps S w (if c = 1 then some ad else some ⟨ad.block, ad.off + 1, none⟩) kr := fun w' hw' => by
  have h1 := Kd.C_drop (h w' hw') (m := 1) (by simp) hc
  have h2 : (if c = 1 then some ad else (some ad).map (·.add (1 * (Kd.int .i64).sz))) = (if c = 1 then some ad else some ⟨ad.block, ad.off + 1, none⟩) := by
    split
    · rfl
    · show some (ad.add 1) = _
      simp [Addr.add]
  rw [h2] at h1
  exact h1
theorem Crash_calls {w : World} {a m : Nat} {lay : Lay} {D : AD} (h : DK w a m lay D) (A : Option Addr) (c : Nat) (ks : List Int) (hk : Keeps (a :: m :: ownL lay D.L) w A ks) (hc : ks.length ≤ c) (hkl : ks.length ≤ 4611686018427387904) :
    Calls Tryd.prog 17 #[.pointer (some ⟨a, 0, none⟩), .slice A ks.length c] w fun e w' => e = .returned (.tuple #[]) ∧ Did w w' a m lay D (D.crash ks) := by
  obtain ⟨c0, c1, c2, c3, c4, c5⟩ := head_cells h.head
  have H := Aside0.mk h
  have HK := Aside0.mk hk
  have HC : Aside0 (ks.length ≤ c ∧ ks.length ≤ 4611686018427387904) := ⟨hc, hkl⟩
  have cK := keys_calls (some m) w
  have cS := sorted_calls h
  have hmany := Aside0.mk h.ok.many
  clear h c0 c2 c3 c4 c5 hk hc hkl
  go_enter Tryd.func17, Tryd.ntmps17
  go_wp2_with (first
    | (go_at_call 33; refine cK.mono ?_; rintro e w1 ⟨rfl, rfl⟩)
    | (go_at_call 32; refine cS.mono ?_; rintro e w2 ⟨v, rfl, hrow, hb⟩; obtain ⟨A0, cv, rfl⟩ := row_shape hrow; have HR := Aside0.mk hrow; have HB : Aside0 (Below w.heap.size w w2) := ⟨((Below.refl _ w).alloc (Nat.le_refl _) _).trans (hb.mono (Nat.le_succ _))⟩; clear hrow hb))
  go_loopg [1, 16] D.L.length (fun kq v1 v16 wr => ∃ (i : Nat) (P : List AF) (kr : List Int) (Ar : Option Addr) (cr : Nat) (lay' : Lay), v1 = .slice Ar kr.length cr ∧ v16 = .int .i64 i ∧ Aside0 (i + kq = D.L.length) ∧ Aside0 (CrAt w wr a m lay D ks i kr P lay') ∧ Aside0 (Keeps (a :: m :: ownL lay D.L) wr Ar kr) ∧ Aside0 (kr.length ≤ cr ∧ kr.length ≤ 4611686018427387904) ∧ Aside0 (wr.ownsRow w.heap.size 9 1 (.slice A0 D.L.length cv) D.L.length ((namesL D.L).map encStr)))
  case atStart =>
    have hfr := Fr.of_below HB.out (a :: m :: ownL lay D.L)
    exact ⟨0, [], ks, A, c, lay, rfl, rfl, ⟨by omega⟩, ⟨H.out.below HB.out, rfl, rfl, hfr, fun k hk => hk⟩, ⟨fun w' hw' => HK.out w' (hfr.trans hw' (fun x hx => .inl hx))⟩, HC, HR⟩
  case round =>
    obtain ⟨i, P, kr, Ar, cr, lay', rfl, rfl, h1, h2, h3, h4, h5⟩ := hrel
    by_cases hi : i < D.L.length
    · have e1 : decide ((i : Int) < (D.L.length : Int)) = true := decide_eq_true (by omega)
      have e2 : decide (i < D.L.length) = true := decide_eq_true hi
      have e5 : IntKind.i64.wrap ((i : Int) + 1) = ((i + 1 : Nat) : Int) := by have := hmany.out; rw [i64_w]; unfold wrap64; omega
      obtain ⟨g, rfl, hcn⟩ := row_cell h5.out (by simpa [namesL] using hi) (names_at hi)
      have hL : (P ++ D.L.drop i) = P ++ D.L[i] :: D.L.drop (i + 1) := by rw [drop_at hi]
      have cut := @cr_cut w wr
      have safe := @cr_safe w wr
      have H1 := h2.out.dk
      have hmem : D.L[i] ∈ P ++ D.L.drop i := by rw [hL]; exact List.mem_append_right _ (List.mem_cons_self ..)
      have hfe : ∃ f, D.L[i] = f := ⟨_, rfl⟩
      obtain ⟨f, hfe⟩ := hfe
      rw [hfe] at hcn hmem
      have c1r := (head_cells H1.head).2.1
      have c2r : wr.cell? ⟨a, 2, none⟩ = some (.int .i64 ({ D with L := P ++ D.L.drop i } : AD).used) := (head_cells H1.head).2.2.1
      have hf : findL f.name (P ++ D.L.drop i) = some f := findL_mem H1.ok.rising hmem
      have hat := H1.file f hmem
      obtain ⟨fp, fc, hv⟩ := hat.2.shape
      obtain ⟨d0, d1⟩ := file_cells hat
      rw [hv] at d0
      have hM : Aside0 (mapL lay' (P ++ D.L.drop i) f.name = some (some (lay' f.name).1)) := ⟨mapL_some hf⟩
      have MP := Aside0.mk H1.map
      have HN : Aside0 ((⟨f.name.toArray⟩ : ByteArray).size ≤ maxLen) := ⟨by have := H.out.ok.named _ (hfe ▸ List.getElem_mem hi); simp only [named, Bool.and_eq_true, decide_eq_true_eq] at this; show f.name.toArray.size ≤ _; simp only [List.size_toArray, maxLen]; omega⟩
      have hsafe := H1.ok.safe f hmem
      have husz : f.data.size ≤ 1048576 := by
        have h9 := mem_tot hmem; have h10 := H1.ok.used; have h11 := H1.ok.size1
        unfold AD.used at h10
        simp only at h10 h11
        omega
      have HI := Aside0.mk hi
      have HFE := Aside0.mk hfe
      have hub : 0 ≤ ({ D with L := P ++ D.L.drop i } : AD).used ∧ ({ D with L := P ++ D.L.drop i } : AD).used ≤ 1048576 := ⟨used_pos _, Int.le_trans H1.ok.used H1.ok.size1⟩
      have hne : a ≠ (lay' f.name).1 := fun e => H1.sep.afar f hmem (by simp only [ownF, List.mem_cons]; exact .inl e)
      have hne' : (lay' f.name).1 ≠ a := fun e => hne e.symm
      have hlow : Aside0 ((lay' f.name).1 ∈ a :: m :: ownL lay D.L) := ⟨h2.out.low hmem⟩
      have hcap : Aside0 (f.data.size ≤ fc ∧ fc ≤ maxLen) := ⟨(hat.2.cap hv).2⟩
      have HV := Aside0.mk hv
      have f1 := blk_frozen hat.1 1
      have f0 := blk_frozen hat.1 0
      have f2 := blk_frozen H1.head 2
      have ew : IntKind.i64.wrap ((f.data.size : Int) - f.safe) = (f.data.size : Int) - f.safe := by rw [i64_w]; unfold wrap64; omega
      obtain ⟨tl, htl⟩ : ∃ tl, (f.data.size : Int) - f.safe = tl := ⟨_, rfl⟩
      rw [show (IntKind.i64.wrap ((f.data.size : Int) - f.safe) = (f.data.size : Int) - f.safe) = (IntKind.i64.wrap ((f.data.size : Int) - f.safe) = tl) by rw [← htl]] at ew
      have HTL := Aside0.mk htl
      clear cut safe hL H1 hat hv hmem hf
      by_cases hs : f.safe < (f.data.size : Int)
      · have e6 : decide ((0 : Int) < tl) = true := decide_eq_true (by omega)
        have HS := Aside0.mk hs
        cases kr with
        | nil =>
          obtain ⟨kk, hkk⟩ : ∃ kk : Nat, f.safe = (kk : Int) := ⟨f.safe.toNat, by omega⟩
          have e8 : IntKind.i64.wrap f.safe = (kk : Int) := by rw [i64_w]; unfold wrap64; omega
          have e9 : kk ≤ fc := by have h9 := hcap.out; omega
          have e10 : IntKind.i64.wrap tl = tl := by rw [i64_w]; unfold wrap64; omega
          have e11 : IntKind.i64.wrap (({ D with L := P ++ D.L.drop i } : AD).used - tl) = ({ D with L := P ++ D.L.drop i } : AD).used - tl := by rw [i64_w]; unfold wrap64; omega
          have HKK := Aside0.mk hkk
          clear hs hsafe husz htl hkk hub
          go_upto_region 4 with (at_lookup; refine wp_look rfl MP.out _ _ rfl Tryd.underlying9 Tryd.underlying62 (Tryd.zeroValue65 wr) rfl ⟨f.name.toArray⟩ rfl HN.out ?_; simp only [List.toList_toArray]; rw [show mapL lay' ({ D with L := P ++ D.L.drop i } : AD).L f.name = _ from hM.out]; simp only [Option.getD, ptrVal])
          go_region
          go_upto_region 10 with fail
          go_region
          go_wp2
          go_roundg (D.L.length - (i + 1))
          case measure => have h9 := h1.out; have h10 := HI.out; omega
          case rel =>
            have hmem : f ∈ P ++ D.L.drop i := by rw [drop_at HI.out, HFE.out]; exact List.mem_append_right _ (List.mem_cons_self ..)
            obtain ⟨k1, k2, k3⟩ := cr_world h2.out hmem fp kk fc (({ D with L := P ++ D.L.drop i } : AD).used - tl)
            have hfr := (k1.mono (T := a :: m :: ownL lay D.L) (fun x hx => by simp at hx; rcases hx with rfl | rfl; simp; exact hlow.out)).drew.drew
            have htl := HTL.out
            have h11 := cr_cut h2.out HI.out (by rw [HFE.out]; have h9 := HS.out; omega) (by rw [HFE.out]; exact HV.out) 0 rfl (by rw [HFE.out]; exact k1.drew.drew) (by rw [HFE.out, htl, Int.sub_zero]; exact k2) (by rw [HFE.out, Int.add_zero, HKK.out]; exact k3)
            rw [HFE.out] at h11
            exact ⟨i + 1, P ++ [cutF f 0], [], Ar, cr, _, rfl, by simp, ⟨by have h9 := h1.out; have h10 := HI.out; omega⟩, ⟨h11⟩, ⟨h3.out.step hfr⟩, h4, ⟨row_fr h5.out hfr H.out.lt⟩⟩
        | cons k0 kr =>
          obtain ⟨ad, rfl, hc0⟩ := keep_head h3.out
          have hkt := keepN_b (k0 :: kr) (t := tl) (by omega)
          obtain ⟨t, ht⟩ : ∃ t, keepN (k0 :: kr) tl = t := ⟨_, rfl⟩
          have hmm : min (max k0 0) tl = t := ht
          obtain ⟨mx0, hmx⟩ : ∃ x, (if k0 < 0 then 0 else k0) = x := ⟨_, rfl⟩
          have hmm2 : (if tl < mx0 then tl else mx0) = t := by
            rw [← hmm, ← hmx]
            by_cases h7 : k0 < 0
            · simp only [if_pos h7]
              rw [Int.max_eq_right (by omega)]
              split <;> omega
            · simp only [if_neg h7]
              rw [Int.max_eq_left (by omega)]
              split <;> omega
          have hkt2 := keep_tail h3.out h4.out.1
          obtain ⟨A2, hA2⟩ : ∃ x, (if cr = 1 then some ad else some ⟨ad.block, ad.off + 1, none⟩) = x := ⟨_, rfl⟩
          rw [hA2] at hkt2
          have KT2 := Aside0.mk hkt2
          clear hkt2
          rw [ht] at hkt
          obtain ⟨kk, hkk⟩ : ∃ kk : Nat, f.safe + t = (kk : Int) := ⟨(f.safe + t).toNat, by omega⟩
          have e8 : IntKind.i64.wrap (f.safe + t) = (kk : Int) := by rw [i64_w]; unfold wrap64; omega
          have e9 : kk ≤ fc := by have h9 := hcap.out; omega
          have e10 : IntKind.i64.wrap (tl - t) = tl - t := by rw [i64_w]; unfold wrap64; omega
          have e11 : IntKind.i64.wrap (({ D with L := P ++ D.L.drop i } : AD).used - (tl - t)) = ({ D with L := P ++ D.L.drop i } : AD).used - (tl - t) := by rw [i64_w]; unfold wrap64; omega
          have HKK := Aside0.mk hkk
          have HKT := Aside0.mk ht
          clear hs hsafe husz htl hkk hub hkt hmm
          go_upto_region 4 with (at_lookup; refine wp_look rfl MP.out _ _ rfl Tryd.underlying9 Tryd.underlying62 (Tryd.zeroValue65 wr) rfl ⟨f.name.toArray⟩ rfl HN.out ?_; simp only [List.toList_toArray]; rw [show mapL lay' ({ D with L := P ++ D.L.drop i } : AD).L f.name = _ from hM.out]; simp only [Option.getD, ptrVal])
          go_region
          go_upto_region 10 with fail
          go_region
          go_wp2
          go_roundg (D.L.length - (i + 1))
          case measure => have h9 := h1.out; have h10 := HI.out; omega
          case rel =>
            have hmem : f ∈ P ++ D.L.drop i := by rw [drop_at HI.out, HFE.out]; exact List.mem_append_right _ (List.mem_cons_self ..)
            obtain ⟨k1, k2, k3⟩ := cr_world h2.out hmem fp kk fc (({ D with L := P ++ D.L.drop i } : AD).used - (tl - t))
            have hfr := (k1.mono (T := a :: m :: ownL lay D.L) (fun x hx => by simp at hx; rcases hx with rfl | rfl; simp; exact hlow.out)).drew.drew
            have htl := HTL.out
            have h11 := cr_cut h2.out HI.out (by rw [HFE.out]; have h9 := HS.out; omega) (by rw [HFE.out]; exact HV.out) t (by rw [HFE.out, htl]; exact HKT.out.symm) (by rw [HFE.out]; exact k1.drew.drew) (by rw [HFE.out, htl]; exact k2) (by rw [HFE.out, HKK.out]; exact k3)
            rw [HFE.out] at h11
            have h12 := h4.out
            simp only [List.length_cons] at h12
            exact ⟨i + 1, P ++ [cutF f t], kr, _, cr - 1, _, rfl, by simp, ⟨by have h9 := h1.out; have h10 := HI.out; omega⟩, ⟨h11⟩, ⟨KT2.out.step hfr⟩, ⟨by omega⟩, ⟨row_fr h5.out hfr H.out.lt⟩⟩
      · have e6 : decide ((0 : Int) < tl) = false := decide_eq_false (by omega)
        have HS := Aside0.mk hs
        clear hs hsafe husz htl hub
        go_upto_region 4 with (at_lookup; refine wp_look rfl MP.out _ _ rfl Tryd.underlying9 Tryd.underlying62 (Tryd.zeroValue65 wr) rfl ⟨f.name.toArray⟩ rfl HN.out ?_; simp only [List.toList_toArray]; rw [show mapL lay' ({ D with L := P ++ D.L.drop i } : AD).L f.name = _ from hM.out]; simp only [Option.getD, ptrVal])
        go_region
        go_wp2
        go_roundg (D.L.length - (i + 1))
        case measure => have h9 := h1.out; have h10 := HI.out; omega
        case rel =>
          have hfr : Fr (a :: m :: ownL lay D.L) wr (wr.drew.setCell ⟨(lay' f.name).1, 1, none⟩ (.int .i64 f.data.size)) := ((Fr.refl _ wr).drew).setCell (p := ⟨(lay' f.name).1, 1, none⟩) (.inl hlow.out) _
          refine ⟨i + 1, P ++ [safeF f], kr, Ar, cr, lay', rfl, by simp, ⟨by have h9 := h1.out; have h10 := HI.out; omega⟩, ⟨?_⟩, ⟨h3.out.step hfr⟩, h4, ⟨row_fr h5.out hfr H.out.lt⟩⟩
          have h11 := cr_safe (w2 := wr.drew.setCell ⟨(lay' f.name).1, 1, none⟩ (.int .i64 f.data.size)) h2.out.drew HI.out (by rw [HFE.out]; have h9 := HS.out; omega) (by rw [HFE.out])
          rw [HFE.out] at h11
          exact h11
    · have e1 : decide ((i : Int) < (D.L.length : Int)) = false := decide_eq_false (by omega)
      have e2 : decide (i < D.L.length) = false := decide_eq_false hi
      have hd : D.L.drop i = [] := List.drop_of_length_le (by omega)
      have H1 := h2.out.dk
      have f4 := blk_frozen H1.head 4
      have f3 := blk_frozen H1.head 3
      obtain ⟨d0, d1, d2, d3, d4, d5⟩ := head_cells H1.head
      have HD := Aside0.mk hd
      clear hi hd H1 d0 d1 d2 d5
      go_wp2
      go_end0
      refine ⟨rfl, lay', ?_, ?_, ?_⟩
      · have hrest := h2.out.rest
        have hdk := h2.out.dk
        rw [HD.out] at hrest hdk
        rw [List.append_nil] at hdk
        rw [crashL, List.append_nil] at hrest
        subst hrest
        refine hdk.turn (Fr.setCell (p := ⟨a, 3, none⟩) (Fr.setCell (p := ⟨a, 4, none⟩) (Fr.refl [a] wr) (.inl (by simp)) _) (.inl (by simp)) _) (blk_put (blk_put hdk.head 4 _ rfl) 3 _ rfl) rfl (H.out.ok.crash ks)
      · exact Fr.setCell (p := ⟨a, 3, none⟩) (Fr.setCell (p := ⟨a, 4, none⟩) h2.out.fr (.inl (by simp)) _) (.inl (by simp)) _
      · intro k hk
        have hrest := h2.out.rest
        have hsub := h2.out.sub
        rw [HD.out] at hrest hsub
        rw [crashL, List.append_nil] at hrest
        rw [List.append_nil] at hsub
        exact .inl (hsub k (by rw [hrest]; exact hk))
end Go.Proofs.YtakhnkkcllfbjaaDoorX
