/- Several texts in one: UI, UJ, UK; no conditions beyond those in each theorem's head. -/
import Derived.Test.YtmomohljnmopfaaMC
import Derived.Test.YtmomohljnmopfaaPK
section
namespace Go.Proofs.YtmomohljnmopfaaX
open Go.RowKit Go.Lib Go.Proofs.YtmomohljnmopfaaW.PrintWords Go.Proofs.YtmomohljnmopfaaW.PrintLast Go.Proofs.YtmomohljnmopfaaW.PrintMore
set_option linter.unusedVariables false
set_option linter.unusedSimpArgs false
theorem Turn.trans {e : TypeId} {W w2 w3 : World} {v v1 v2 : Value} {xs1 xs2 : List Value} (h : Turn e W w2 v v1 xs1) (k : Turn e w2 w3 v1 v2 xs2) : Turn e W w3 v v2 xs2 := by
  refine ⟨k.1, ⟨k.2.1.os.trans h.2.1.os, k.2.1.tape.trans h.2.1.tape, k.2.1.output.trans h.2.1.output, Nat.le_trans h.2.1.size k.2.1.size, fun q hq hn => ?_⟩, ?_⟩
  · have h1 : some q ≠ v1.ownBlock := fun e9 => by
      rcases h.2.2 with h8 | ⟨g, h8, h7⟩
      · exact hn (e9.trans h8)
      · rw [h8] at e9
        have := Option.some.inj e9
        omega
    rw [k.2.1.block q (Nat.lt_of_lt_of_le hq h.2.1.size) h1, h.2.1.block q hq hn]
  · rcases k.2.2 with h1 | ⟨g, h1, h2⟩
    · rcases h.2.2 with h3 | ⟨g, h3, h4⟩
      · exact .inl (h1.trans h3)
      · exact .inr ⟨g, h1.trans h3, h4⟩
    · exact .inr ⟨g, h1, Nat.le_trans h.2.1.size h2⟩
section
variable {leaf : Bool} {w w3 : World} {b lb rb : Nat} {kn cn kl xl kr xr : Value} {xsn ysn xsl ysl xsr ysr : List Value} {R : List Nat}
theorem Bt.turnN (h : Bt leaf w b lb rb kn cn kl xl kr xr xsn ysn xsl ysl xsr ysr R) {kn' cn' : Value} {xsn' ysn' : List Value} (dn : Done 9 70 w w3 b kn kn' xsn' cn cn' ysn' (oN lb kl xl ++ (oN rb kr xr ++ R))) :
    Bt leaf ((w3.setCell ⟨b, 0, none⟩ kn').setCell ⟨b, 2, none⟩ cn') b lb rb kn' cn' kl xl kr xr xsn' ysn' xsl ysl xsr ysr R ∧
      Mv (o3 b lb rb kn cn kl xl kr xr) w (o3 b lb rb kn' cn' kl xl kr xr) ((w3.setCell ⟨b, 0, none⟩ kn').setCell ⟨b, 2, none⟩ cn') := by
  obtain ⟨W, hW⟩ : ∃ W, (w3.setCell ⟨b, 0, none⟩ kn').setCell ⟨b, 2, none⟩ cn' = W := ⟨_, rfl⟩
  have hf : Fr [b] w3 W := by rw [← hW]; exact ((Fr.refl [b] w3).setCell (p := ⟨b, 0, none⟩) (.inl (by simp)) _).setCell (p := ⟨b, 2, none⟩) (.inl (by simp)) _
  have T := h.twoN
  have hB : W.heap[b]? = some (.cells (nc false kn' cn') 74 (0, 0)) := by rw [← hW, ← nc_put false kn cn kn' cn']; exact blk_put (blk_put (dn.blk T h.hn) 0 _ rfl) (ix false) _ rfl
  rw [hW]
  obtain ⟨r1, r2⟩ := dn.stored hf
  have hnd := dn.nd
  have hne : ∀ q ∈ oN lb kl xl ++ (oN rb kr xr ++ R), q ≠ b := fun q hq e => (List.nodup_cons.1 hnd).1 (by rw [← e]; exact List.mem_append_right _ (List.mem_append_right _ hq))
  have keep : ∀ q ∈ oN lb kl xl ++ (oN rb kr xr ++ R), W.heap[q]? = w.heap[q]? := fun q hq => (hf.block q (Nat.lt_of_lt_of_le (T.rlt q hq) dn.fr.size) (by simp only [List.mem_singleton]; exact hne q hq)).trans (dn.rest T q hq)
  have hsz : w.heap.size ≤ W.heap.size := Nat.le_trans dn.fr.size hf.size
  refine ⟨⟨hB, (keep lb (by simp [oN])).trans h.hl, (keep rb (by simp [oN])).trans h.hr, r1, r2, h.kl_.step (fun k hk => keep k (by simp only [oN, List.mem_append, List.mem_cons]; simp [hk])), h.xl_.step (fun k hk => keep k (by simp only [oN, List.mem_append, List.mem_cons]; simp [hk])), h.kr_.step (fun k hk => keep k (by simp only [oN, List.mem_append, List.mem_cons]; simp [hk])), h.xr_.step (fun k hk => keep k (by simp only [oN, List.mem_append, List.mem_cons]; simp [hk])), nd_perm hnd (fun a => by simp only [oN, List.count_append, List.count_cons]; omega), fun k hk => Nat.lt_of_lt_of_le (h.rlt k hk) hsz⟩, ?_, fun k hk => ?_⟩
  · refine (dn.fr.mono (T := o3 b lb rb kn cn kl xl kr xr) (fun q hq => ?_)).trans hf (fun y hy => .inl (by simp only [List.mem_singleton] at hy; rw [hy]; simp [o3, oN]))
    simp only [o3, oN, List.mem_append, List.mem_cons] at hq ⊢
    rcases hq with hq | hq <;> simp [hq]
  · simp only [o3, oN, List.mem_append, List.mem_cons] at hk ⊢
    rcases hk with (hk | hk | hk) | hk | hk
    · exact .inl (.inl (.inl hk))
    · exact (dn.sub1 k hk).imp (fun h9 => .inl (.inr (.inl h9))) id
    · exact (dn.sub2 k hk).imp (fun h9 => .inl (.inr (.inr h9))) id
    · exact .inl (.inr (.inl hk))
    · exact .inl (.inr (.inr hk))
end
end Go.Proofs.YtmomohljnmopfaaX
end
section
namespace Go.Proofs.YtmomohljnmopfaaX
open Go.RowKit Go.Lib Go.Proofs.YtmomohljnmopfaaW.PrintWords Go.Proofs.YtmomohljnmopfaaW.PrintLast Go.Proofs.YtmomohljnmopfaaW.PrintMore
set_option linter.unusedVariables false
set_option linter.unusedSimpArgs false
attribute [local go_sem high] eqlNil71 eqlNil72
set_option maxRecDepth 100000 in
set_option maxHeartbeats 8000000 in
theorem mer1 {w : World} {b lb rb i : Nat} {kn cn kl xl kr xr : Value} {xsn ysn xsl ysl xsr ysr : List Value} {R : List Nat} (bt : Bt true w b lb rb kn cn kl xl kr xr xsn ysn xsl ysl xsr ysr R) (hlb : ysn[i]? = some (encP lb)) (hrb : ysn[i + 1]? = some (encP rb)) (hs : i < xsn.length)
    (b0 : xsn.length ≤ 1000) (b1 : ysn.length ≤ 1000) (b2 : xsl.length ≤ 900) (b3 : ysl.length ≤ 900) (b4 : xsr.length ≤ 900) (b5 : ysr.length ≤ 900) :
    Calls Try.prog 52 #[.pointer (some ⟨b, 0, none⟩), .int .i64 i] w fun e w' => e = .returned (.tuple #[]) ∧ ∃ kn' cn' kl' xl', Bt true w' b lb rb kn' cn' kl' xl' kr xr (delAt i xsn) (delAt (i + 1) ysn) (xsl ++ xsr) (ysl ++ ysr) xsr ysr R ∧ Mv (o3 b lb rb kn cn kl xl kr xr) w (o3 b lb rb kn' cn' kl' xl' kr xr) w' := by
  obtain ⟨gn, ckn, rfl⟩ := row_some bt.kn_ (by omega)
  obtain ⟨gc, ccn, rfl⟩ := row_some bt.cn_ (by have := (List.getElem?_eq_some_iff.1 hlb).1; omega)
  obtain ⟨Al, ckl, rfl, -, -⟩ := bt.kl_.shape
  obtain ⟨Ax, cxl, rfl, -, -⟩ := bt.xl_.shape
  obtain ⟨Ar, ckr, rfl, -, -⟩ := bt.kr_.shape
  obtain ⟨Ay, cxr, rfl, -, -⟩ := bt.xr_.shape
  have BT := Aside0.mk bt
  have hil := (List.getElem?_eq_some_iff.1 hrb).1
  obtain ⟨c0, c1, c2⟩ := inner_cells (show w.heap[b]? = some (.cells #[_, .slice none 0 0, _] 74 (0, 0)) from bt.hn)
  obtain ⟨d0, d1, d2⟩ := leaf_cells (show w.heap[lb]? = some (.cells #[_, _, .slice none 0 0] 74 (0, 0)) from bt.hl)
  have k1 := (bt.cn_.cellAt hlb).1
  have k2 := (bt.cn_.cellAt hrb).1
  have hA1 := Aside0.mk (And.intro b0 (And.intro b1 (And.intro b2 (And.intro b3 (And.intro b4 b5)))))
  have hA2 := Aside0.mk (And.intro hil hs)
  have e3 : (i : Int) < (ysn.length : Int) := by omega
  have e4 : (i : Int) + 1 < (ysn.length : Int) := by omega
  have e5 : IntKind.i64.wrap ((i : Int) + 1) = (i : Int) + 1 := by rw [i64_w]; unfold wrap64; omega
  have e5' : IntKind.i64.wrap ((i : Int) + 2) = (i : Int) + 2 := by rw [i64_w]; unfold wrap64; omega
  have e6 : ((i : Int) + 1).toNat = i + 1 := by omega
  have e7 : (0 : Int) ≤ (i : Int) + 1 := by omega
  have e10 : (i : Int) < (xsn.length : Int) := by omega
  clear bt hlb hrb hs b0 b1 b2 b3 b4 b5 hil
  unfold encP at k1 k2
  go_enter Try.func52, Try.ntmps52
  go_upto_region 0 with fail
  go_quiet (fail)
  go_upto_region 2 with fail
  obtain ⟨W0, hW0⟩ : ∃ W0, w.drewN nq = W0 := ⟨_, rfl⟩
  have BT0 : Aside0 (Bt true W0 b lb rb (.slice (some ⟨gn, 0, none⟩) xsn.length ckn) (.slice (some ⟨gc, 0, none⟩) ysn.length ccn) (.slice Al xsl.length ckl) (.slice Ax ysl.length cxl) (.slice Ar xsr.length ckr) (.slice Ay ysr.length cxr) xsn ysn xsl ysl xsr ysr R) := ⟨BT.out.step (by rw [← hW0]; rfl)⟩
  have MV0 : Aside0 (Mv (o3 b lb rb (.slice (some ⟨gn, 0, none⟩) xsn.length ckn) (.slice (some ⟨gc, 0, none⟩) ysn.length ccn) (.slice Al xsl.length ckl) (.slice Ax ysl.length cxl) (.slice Ar xsr.length ckr) (.slice Ay ysr.length cxr)) w (o3 b lb rb (.slice (some ⟨gn, 0, none⟩) xsn.length ckn) (.slice (some ⟨gc, 0, none⟩) ysn.length ccn) (.slice Al xsl.length ckl) (.slice Ax ysl.length cxl) (.slice Ar xsr.length ckr) (.slice Ay ysr.length cxr)) W0) := ⟨by rw [← hW0]; exact Mv.drewN _ _ _⟩
  rw [hW0]
  have bt := BT0.out
  clear c0 c1 c2 d0 d1 d2 k1 k2 hW0 BT
  obtain ⟨d0, d1, d2⟩ := leaf_cells (show W0.heap[lb]? = some (.cells #[_, _, .slice none 0 0] 74 (0, 0)) from bt.hl)
  obtain ⟨r0, r1, r2⟩ := leaf_cells (show W0.heap[rb]? = some (.cells #[_, _, .slice none 0 0] 74 (0, 0)) from bt.hr)
  have TW := Aside0.mk bt.twoL
  have hN : Aside0 (∀ g ∈ [lb, rb] ++ ((Value.slice Ar xsr.length ckr).ownBlock.toList ++ (Value.slice Ay ysr.length cxr).ownBlock.toList), g ∉ (Value.slice Al xsl.length ckl).ownBlock.toList ++ (Value.slice Ax ysl.length cxl).ownBlock.toList) := ⟨fun g hg hx => by
    have h9 : (((Value.slice Al xsl.length ckl).ownBlock.toList ++ (Value.slice Ax ysl.length cxl).ownBlock.toList) ++ (([lb, rb] ++ ((Value.slice Ar xsr.length ckr).ownBlock.toList ++ (Value.slice Ay ysr.length cxr).ownBlock.toList)) ++ (b :: gn :: gc :: R))).Nodup := nd_perm bt.nd (fun a => by simp only [oN, Value.ownBlock, Option.toList_some, List.count_append, List.count_cons, List.count_nil]; omega)
    exact (List.nodup_append.1 h9).2.2 g hx g (List.mem_append_left _ hg) rfl⟩
  have aK : Aside0 (∀ W, Below W0.heap.size W0 W → ∃ v' w2, (Builtin.append_ #[71, 71] 71 #[(.slice Al xsl.length ckl), .slice Ar xsr.length ckr]).run Try.prog W = .ok v' w2 ∧ ∃ A c, v' = .slice A (xsl.length + xsr.length) c ∧ Step1 9 W0 W w2 (.slice Al xsl.length ckl) (.slice A (xsl.length + xsr.length) c) (xsl ++ xsr)) := ⟨fun W hW => by
    obtain ⟨A, c, w2, h1, h2⟩ := appRowS (BT0.out.kl_.below hW) (BT0.out.kr_.below hW) (by have := hA1.out; omega) (by have := hA1.out; omega)
    exact ⟨_, w2, h1, A, c, rfl, hW, h2⟩⟩
  have aV : Aside0 (∀ w2 A c W, Step1 9 W0 W w2 (.slice Al xsl.length ckl) (.slice A (xsl.length + xsr.length) c) (xsl ++ xsr) → ∃ v' w3, (Builtin.append_ #[71, 71] 71 #[(.slice Ax ysl.length cxl), .slice Ay ysr.length cxr]).run Try.prog w2 = .ok v' w3 ∧ ∃ A' c', v' = .slice A' (ysl.length + ysr.length) c' ∧ Done 9 9 W0 w3 lb (.slice Al xsl.length ckl) (.slice A (xsl.length + xsr.length) c) (xsl ++ xsr) (.slice Ax ysl.length cxl) (.slice A' (ysl.length + ysr.length) c') (ysl ++ ysr) (oN b (.slice (some ⟨gn, 0, none⟩) xsn.length ckn) (.slice (some ⟨gc, 0, none⟩) ysn.length ccn) ++ (oN rb (.slice Ar xsr.length ckr) (.slice Ay ysr.length cxr) ++ R))) := ⟨fun w2 A c W s1 => by
    obtain ⟨A', c', w3, h1, h2⟩ := appRowS (s1.row BT0.out.xl_ TW.out) (BT0.out.xr_.fr s1.fr (fun k hk h9 => hN.out k (List.mem_append_right _ (List.mem_append_right _ hk)) (List.mem_append_left _ h9))) (by have := hA1.out; omega) (by have := hA1.out; omega)
    exact ⟨_, w3, h1, A', c', rfl, Step2.done ⟨s1, Below.refl _ _, h2⟩ TW.out⟩⟩
  clear bt
  refine start_ (n := 26) (S := fun w' => w'.cell? ⟨lb, 0, none⟩ = some (.slice Al xsl.length ckl) ∧ w'.cell? ⟨lb, 1, none⟩ = some (.slice Ax ysl.length cxl) ∧ w'.cell? ⟨rb, 0, none⟩ = some (.slice Ar xsr.length ckr) ∧ w'.cell? ⟨rb, 1, none⟩ = some (.slice Ay ysr.length cxr)) (ds := [22, 25]) (mK 26 0) (by kernel_rfl) rfl rfl ⟨d0, d1, r0, r1⟩ (fun hHeld => ?_)
  refine with_tabW (T := (true, [([], []), ([], []), ([], []), ([2], [2]), ([3], [3]), ([4], [4]), ([], []), ([6], [6]), ([7], [7]), ([8], [8]), ([5, 9], [5, 9]), ([], []), ([11], [11]), ([12], [12]), ([13], [13]), ([], []), ([15], [15]), ([16], [16]), ([17], [17]), ([14, 18, 10], [14, 18]), ([0, 0, 2, 3, 4, 5, 6, 7, 8, 9, 10, 14, 18, 19], [0]), ([20, 0, 2, 3, 4, 5, 6, 7, 8, 9, 10, 14, 18, 19], [20]), ([21, 10, 19, 0, 2, 3, 4, 5, 6, 7, 8, 9, 10, 14, 18, 19], [10, 21]), ([1, 0, 1, 2, 3, 4, 5, 6, 7, 8, 9, 10, 11, 12, 13, 14, 15, 16, 17, 18, 19, 20, 21, 22], [1]), ([23, 0, 1, 2, 3, 4, 5, 6, 7, 8, 9, 10, 11, 12, 13, 14, 15, 16, 17, 18, 19, 20, 21, 22], [23]), ([24, 19, 22, 0, 1, 2, 3, 4, 5, 6, 7, 8, 9, 10, 11, 12, 13, 14, 15, 16, 17, 18, 19, 20, 21, 22], [19, 24])])) (B := [0, 0, 0, 4, 12, 28, 0, 64, 192, 448, 1020, 0, 2048, 6144, 14336, 0, 32768, 98304, 229376, 524284, 1048573, 2097149, 4194301, 8388607, 16777215, 33554431]) (by kernel_rfl) (by kernel_rfl) (fun HT_ HW_ => ?_)
  refine pK 0 26 (mK 26 1) rfl rfl HT_ ?_
  refine pK 1 27 (mK 26 3) rfl rfl HT_ ?_
  refine pK 2 28 (mK 26 7) rfl rfl HT_ ?_
  refine pK 3 29 (mK 26 15) rfl rfl HT_ ?_
  refine pK 4 30 (mK 26 31) rfl rfl HT_ ?_
  refine pK 6 32 (mK 26 95) rfl rfl HT_ ?_
  refine pK 7 33 (mK 26 223) rfl rfl HT_ ?_
  refine pK 8 34 (mK 26 479) rfl rfl HT_ ?_
  refine pK 11 37 (mK 26 2527) rfl rfl HT_ ?_
  refine pK 12 38 (mK 26 6623) rfl rfl HT_ ?_
  refine pK 13 39 (mK 26 14815) rfl rfl HT_ ?_
  refine pK 15 41 (mK 26 47583) rfl rfl HT_ ?_
  refine pK 16 42 (mK 26 113119) rfl rfl HT_ ?_
  refine pK 17 43 (mK 26 244191) rfl rfl HT_ ?_
  refine take_ (i := 5) (N := some 31) (v := ?_) (a' := ?_) (mK 26 244223) rfl rfl (take_ofW HT_.out HW_.out (by kernel_rfl)) (fun _ _ _ h => h) (Or.inl ⟨by rfl, ?_⟩) hHeld ?_ ?_
  rotate_left; focus (rintro w' ⟨s0, s1, s2, s3⟩; go_simp; with_reducible rfl; done)
  rotate_left; focus (first | (simp only [Act.put, List.setIfInBounds_toArray, List.set_cons_zero, List.set_cons_succ, i64_w, i32_w]; rfl; done) | (rfl; done))
  refine take_ (i := 9) (N := some 35) (v := ?_) (a' := ?_) (mK 26 244735) rfl rfl (take_ofW HT_.out HW_.out (by kernel_rfl)) (fun _ _ _ h => h) (Or.inl ⟨by rfl, ?_⟩) hHeld ?_ ?_
  rotate_left; focus (rintro w' ⟨s0, s1, s2, s3⟩; go_simp; with_reducible rfl; done)
  rotate_left; focus (first | (simp only [Act.put, List.setIfInBounds_toArray, List.set_cons_zero, List.set_cons_succ, i64_w, i32_w]; rfl; done) | (rfl; done))
  refine take_ (i := 14) (N := some 40) (v := ?_) (a' := ?_) (mK 26 261119) rfl rfl (take_ofW HT_.out HW_.out (by kernel_rfl)) (fun _ _ _ h => h) (Or.inl ⟨by rfl, ?_⟩) hHeld ?_ ?_
  rotate_left; focus (rintro w' ⟨s0, s1, s2, s3⟩; go_simp; with_reducible rfl; done)
  rotate_left; focus (first | (simp only [Act.put, List.setIfInBounds_toArray, List.set_cons_zero, List.set_cons_succ, i64_w, i32_w]; rfl; done) | (rfl; done))
  refine take_ (i := 18) (N := some 44) (v := ?_) (a' := ?_) (mK 26 523263) rfl rfl (take_ofW HT_.out HW_.out (by kernel_rfl)) (fun _ _ _ h => h) (Or.inl ⟨by rfl, ?_⟩) hHeld ?_ ?_
  rotate_left; focus (rintro w' ⟨s0, s1, s2, s3⟩; go_simp; with_reducible rfl; done)
  rotate_left; focus (first | (simp only [Act.put, List.setIfInBounds_toArray, List.set_cons_zero, List.set_cons_succ, i64_w, i32_w]; rfl; done) | (rfl; done))
  refine one_ (i := 10) (N := some 36) (mK 26 524287) rfl rfl (one_of HT_.out (by kernel_rfl)) (by decide) (fun K hK => ?_)
  focus
   refine step_appK rfl _ _ 71 71 rfl (.slice Al xsl.length ckl) _ (by simp [Act.eval, Act.put]) (by simp only [Act.eval, Act.put]; rfl) (aK.out _ ?_) ?_
   exact (by first | exact below_drew1 (Below.refl _ _) | exact Below.refl _ _)
   rintro _ w2 ⟨A2, c2, rfl, s1⟩
   have SA := Aside0.mk s1
   have FX : Aside0 (Fr ((Value.slice Al xsl.length ckl).ownBlock.toList ++ (Value.slice Ax ysl.length cxl).ownBlock.toList) W0 w2) := ⟨s1.fr.mono (fun x hx => by simp only [List.mem_append]; simp [hx])⟩; have h0_ := FX.out.cell d0 (hN.out lb (by simp)); have h1_ := FX.out.cell d1 (hN.out lb (by simp)); have h2_ := FX.out.cell r0 (hN.out rb (by simp)); have h3_ := FX.out.cell r1 (hN.out rb (by simp)); have SX := Aside0.mk (And.intro h0_ (And.intro h1_ (And.intro h2_ h3_))); clear s1 h0_ h1_ h2_ h3_ FX
   go_simp
   refine hK.out _ _ SX.out (fun hHeld => ?_)
   clear hK K
   refine one_ (i := 19) (N := some 45) (mK 26 1048575) rfl rfl (one_of HT_.out (by kernel_rfl)) (by decide) (fun K hK => ?_)
   focus
    refine step_appK rfl _ _ 71 71 rfl (.slice Ax ysl.length cxl) _ (by simp [Act.eval, Act.put]) (by simp only [Act.eval, Act.put]; rfl) (aV.out _ _ _ _ SA.out) ?_
    rintro _ w3 ⟨A3, c3, rfl, dn⟩
    have DN := Aside0.mk dn
    have FX := Aside0.mk dn.fr
    have h0_ := FX.out.cell d0 (hN.out lb (by simp)); have h1_ := FX.out.cell d1 (hN.out lb (by simp)); have h2_ := FX.out.cell r0 (hN.out rb (by simp)); have h3_ := FX.out.cell r1 (hN.out rb (by simp)); have SX := Aside0.mk (And.intro h0_ (And.intro h1_ (And.intro h2_ h3_))); have f0 := blk_frozen (dn.blk TW.out BT0.out.hl) 0; have f1 := blk_frozen (dn.blk TW.out BT0.out.hl) 1; have g0 := SX.out.1; have g1 := SX.out.2.1; clear dn h0_ h1_ h2_ h3_ FX
    go_simp
    refine hK.out _ _ SX.out (fun hHeld => ?_)
    clear hK K
    refine pK 20 46 (mK 26 2097151) rfl rfl HT_ ?_
    refine pK 21 47 (mK 26 4194303) rfl rfl HT_ ?_
    refine last_ (i := 22) (N := none) (mK 26 8388607) rfl rfl (one_of HT_.out (by kernel_rfl)) (by decide) (fun K hK => ?_)
    focus
     go_simp
     skip
     refine hK.out _ _ ?_
     clear hK K
     refine pK 23 48 (mK 26 16777215) rfl rfl HT_ ?_
     refine pK 24 49 (mK 26 33554431) rfl rfl HT_ ?_
     refine last_ (i := 25) (N := none) (mK 26 67108863) rfl rfl (one_of HT_.out (by kernel_rfl)) (by decide) (fun K hK => ?_)
     focus
      go_simp
      skip
      refine hK.out _ _ ?_
      clear hK K
      refine done_ (done_of HT_.out (by kernel_rfl)) ?_
  obtain ⟨W1, hW1⟩ : ∃ W1, (w3.setCell ⟨lb, 0, none⟩ (.slice A2 (xsl.length + xsr.length) c2)).setCell ⟨lb, 1, none⟩ (.slice A3 (ysl.length + ysr.length) c3) = W1 := ⟨_, rfl⟩
  have T1 := BT0.out.turnL DN.out
  have hW1' : (w3.setCell ⟨lb, 0, none⟩ (.slice A2 (xsl.length + xsr.length) c2)).setCell ⟨lb, ix true, none⟩ (.slice A3 (ysl.length + ysr.length) c3) = W1 := hW1
  rw [hW1'] at T1
  obtain ⟨bt, mv1⟩ := T1
  have MV1 := Aside0.mk (MV0.out.trans mv1)
  have BT1 := Aside0.mk bt
  rw [hW1]
  clear hW1 hW1' SA SX f0 f1 g0 g1 DN mv1 d0 d1 d2 r0 r1 r2 hHeld
  obtain ⟨n0, -, n2⟩ := inner_cells (show W1.heap[b]? = some (.cells #[_, .slice none 0 0, _] 74 (0, 0)) from bt.hn)
  have TN := Aside0.mk bt.twoN
  clear bt
  have cK : Aside0 (∀ W, Below W1.heap.size W1 W → Calls Try.prog 45 #[.slice (some ⟨gn, 0, none⟩) xsn.length ckn, .int .i64 i, .int .i64 ((i : Int) + 1)] W fun e w2 => ∃ A c, e = .returned (.slice A (xsn.length - 1) c) ∧ Step1 9 W1 W w2 (.slice (some ⟨gn, 0, none⟩) xsn.length ckn) (.slice A (xsn.length - 1) c) (delAt i xsn)) := ⟨fun W hW =>
    (delS' (BT1.out.kn_.below hW) hA2.out.2 hA1.out.1).mono (fun e w2 ⟨A, c, h1, h2⟩ => ⟨A, c, h1, hW, h2⟩)⟩
  have cV : Aside0 (∀ w2 A c W WQ, Step1 9 W1 W w2 (.slice (some ⟨gn, 0, none⟩) xsn.length ckn) (.slice A (xsn.length - 1) c) (delAt i xsn) → Below w2.heap.size w2 WQ → Calls Try.prog 58 #[.slice (some ⟨gc, 0, none⟩) ysn.length ccn, .int .i64 ((i : Int) + 1), .int .i64 ((i : Int) + 2)] WQ fun e w3 => ∃ g' c', e = .returned (.slice (some ⟨g', 0, none⟩) (ysn.length - 1) c') ∧ Done 9 70 W1 w3 b (.slice (some ⟨gn, 0, none⟩) xsn.length ckn) (.slice A (xsn.length - 1) c) (delAt i xsn) (.slice (some ⟨gc, 0, none⟩) ysn.length ccn) (.slice (some ⟨g', 0, none⟩) (ysn.length - 1) c') (delAt (i + 1) ysn) (oN lb (.slice A2 (xsl.length + xsr.length) c2) (.slice A3 (ysl.length + ysr.length) c3) ++ (oN rb (.slice Ar xsr.length ckr) (.slice Ay ysr.length cxr) ++ R))) := ⟨fun w2 A c W WQ s1 hW => by
    have e9 : (i : Int) + 2 = ((i + 1 : Nat) : Int) + 1 := by omega
    have e8 : (i : Int) + 1 = ((i + 1 : Nat) : Int) := by omega
    rw [e9, e8]
    exact (delN (i := i + 1) ((s1.row BT1.out.cn_ TN.out).below hW) hA2.out.1 (by have := hA2.out; omega) hA1.out.2.1).mono (fun e w3 ⟨g', c', h1, h2⟩ => ⟨g', c', h1, Step2.done ⟨s1, hW, h2⟩ TN.out⟩)⟩
  go_upto_region 4 with fail
  refine start_ (n := 25) (S := fun w' => w'.cell? ⟨b, 0, none⟩ = some (.slice (some ⟨gn, 0, none⟩) xsn.length ckn) ∧ w'.cell? ⟨b, 2, none⟩ = some (.slice (some ⟨gc, 0, none⟩) ysn.length ccn)) (ds := [21, 24]) (mK 25 0) (by kernel_rfl) rfl rfl ⟨n0, n2⟩ (fun hHeld => ?_)
  refine with_tabW (T := (true, [([], []), ([], []), ([], []), ([2], [2]), ([3], [3]), ([4], [4]), ([], []), ([], []), ([7], [7]), ([5, 6, 8], [5, 6, 8]), ([], []), ([10], [10]), ([11], [11]), ([12], [12]), ([], []), ([14], [14]), ([], []), ([16], [16]), ([13, 15, 17, 9], [13, 15, 17]), ([0, 0, 2, 3, 4, 5, 6, 7, 8, 9, 13, 18], [0]), ([19, 0, 2, 3, 4, 5, 6, 7, 8, 9, 13, 18], [19]), ([20, 9, 18, 0, 2, 3, 4, 5, 6, 7, 8, 9, 13, 18], [9, 20]), ([1, 0, 1, 2, 3, 4, 5, 6, 7, 8, 9, 10, 11, 12, 13, 14, 15, 16, 17, 18, 19, 20, 21], [1]), ([22, 0, 1, 2, 3, 4, 5, 6, 7, 8, 9, 10, 11, 12, 13, 14, 15, 16, 17, 18, 19, 20, 21], [22]), ([23, 18, 21, 0, 1, 2, 3, 4, 5, 6, 7, 8, 9, 10, 11, 12, 13, 14, 15, 16, 17, 18, 19, 20, 21], [18, 23])])) (B := [0, 0, 0, 4, 12, 28, 0, 0, 128, 508, 0, 1024, 3072, 7168, 0, 16384, 0, 65536, 262140, 524285, 1048573, 2097149, 4194303, 8388607, 16777215]) (by kernel_rfl) (by kernel_rfl) (fun HT_ HW_ => ?_)
  refine pK 0 83 (mK 25 1) rfl rfl HT_ ?_
  refine pK 1 84 (mK 25 3) rfl rfl HT_ ?_
  refine pK 2 85 (mK 25 7) rfl rfl HT_ ?_
  refine pK 3 86 (mK 25 15) rfl rfl HT_ ?_
  refine pK 4 87 (mK 25 31) rfl rfl HT_ ?_
  refine pK 6 89 (mK 25 95) rfl rfl HT_ ?_
  refine pK 7 90 (mK 25 223) rfl rfl HT_ ?_
  refine pK 8 91 (mK 25 479) rfl rfl HT_ ?_
  refine pK 10 93 (mK 25 1503) rfl rfl HT_ ?_
  refine pK 11 94 (mK 25 3551) rfl rfl HT_ ?_
  refine pK 12 95 (mK 25 7647) rfl rfl HT_ ?_
  refine pK 14 97 (mK 25 24031) rfl rfl HT_ ?_
  refine pK 15 98 (mK 25 56799) rfl rfl HT_ ?_
  refine pK 16 99 (mK 25 122335) rfl rfl HT_ ?_
  refine pK 17 100 (mK 25 253407) rfl rfl HT_ ?_
  refine take_ (i := 5) (N := some 88) (v := ?_) (a' := ?_) (mK 25 253439) rfl rfl (take_ofW HT_.out HW_.out (by kernel_rfl)) (fun _ _ _ h => h) (Or.inl ⟨by rfl, ?_⟩) hHeld ?_ ?_
  rotate_left; focus (rintro w' ⟨s0, s1⟩; go_simp; with_reducible rfl; done)
  rotate_left; focus (first | (simp only [Act.put, List.setIfInBounds_toArray, List.set_cons_zero, List.set_cons_succ, i64_w, i32_w]; rfl; done) | (rfl; done))
  refine take_ (i := 13) (N := some 96) (v := ?_) (a' := ?_) (mK 25 261631) rfl rfl (take_ofW HT_.out HW_.out (by kernel_rfl)) (fun _ _ _ h => h) (Or.inl ⟨by rfl, ?_⟩) hHeld ?_ ?_
  rotate_left; focus (rintro w' ⟨s0, s1⟩; go_simp; with_reducible rfl; done)
  rotate_left; focus (first | (simp only [Act.put, List.setIfInBounds_toArray, List.set_cons_zero, List.set_cons_succ, i64_w, i32_w]; rfl; done) | (rfl; done))
  refine one_ (i := 9) (N := some 92) (mK 25 262143) rfl rfl (one_of HT_.out (by kernel_rfl)) (by decide) (fun K hK => ?_)
  focus
   go_simp
   refine (cK.out _ ?_).mono ?_
   exact (by first | exact below_drew1 (Below.refl _ _) | exact Below.refl _ _)
   rintro e w2 ⟨A4, c4, rfl, s1⟩
   have S1 := Aside0.mk s1
   have HB2 := Aside0.mk (s1.blk BT1.out.hn TN.out)
   clear s1
   go_simp
   refine hK.out _ _ ⟨(inner_cells HB2.out).1, (inner_cells HB2.out).2.2⟩ (fun hHeld => ?_)
   clear hK K
   refine one_ (i := 18) (N := some 101) (mK 25 524287) rfl rfl (one_of HT_.out (by kernel_rfl)) (by decide) (fun K hK => ?_)
   focus
    go_simp
    refine (cV.out _ _ _ _ _ S1.out ?_).mono ?_
    exact Below.refl _ _
    rintro e w3 ⟨g5, c5, rfl, dn⟩
    have DN := Aside0.mk dn
    have HB3 := Aside0.mk (dn.blk TN.out BT1.out.hn)
    have f0 := blk_frozen HB3.out 0
    have f1 := blk_frozen HB3.out 2
    have g0 := (inner_cells HB3.out).1
    have g1 := (inner_cells HB3.out).2.2
    clear dn
    go_simp
    refine hK.out _ _ ⟨g0, g1⟩ (fun hHeld => ?_)
    clear hK K
    refine pK 19 102 (mK 25 1048575) rfl rfl HT_ ?_
    refine pK 20 103 (mK 25 2097151) rfl rfl HT_ ?_
    refine last_ (i := 21) (N := none) (mK 25 4194303) rfl rfl (one_of HT_.out (by kernel_rfl)) (by decide) (fun K hK => ?_)
    focus
     go_simp
     skip
     refine hK.out _ _ ?_
     clear hK K
     refine pK 22 104 (mK 25 8388607) rfl rfl HT_ ?_
     refine pK 23 105 (mK 25 16777215) rfl rfl HT_ ?_
     refine last_ (i := 24) (N := none) (mK 25 33554431) rfl rfl (one_of HT_.out (by kernel_rfl)) (by decide) (fun K hK => ?_)
     focus
      go_simp
      skip
      refine hK.out _ _ ?_
      clear hK K
      refine done_ (done_of HT_.out (by kernel_rfl)) ?_
  go_wp2
  go_end0
  have T3 := BT1.out.turnN DN.out
  exact ⟨rfl, _, _, _, _, T3.1, MV1.out.trans T3.2⟩
end Go.Proofs.YtmomohljnmopfaaX
end
section
namespace Go.Proofs.YtmomohljnmopfaaX
open Go.RowKit Go.Lib Go.Proofs.YtmomohljnmopfaaW.PrintWords Go.Proofs.YtmomohljnmopfaaW.PrintLast Go.Proofs.YtmomohljnmopfaaW.PrintMore
set_option linter.unusedVariables false
set_option linter.unusedSimpArgs false
attribute [local go_sem high] eqlNil71 eqlNil72
set_option maxRecDepth 100000 in
set_option maxHeartbeats 8000000 in
theorem mer2 {w : World} {b lb rb i : Nat} {kn cn kl xl kr xr : Value} {xsn ysn xsl ysl xsr ysr : List Value} {ss : ByteArray} {R : List Nat} (bt : Bt false w b lb rb kn cn kl xl kr xr xsn ysn xsl ysl xsr ysr R) (hlb : ysn[i]? = some (encP lb)) (hrb : ysn[i + 1]? = some (encP rb)) (hs : i < xsn.length) (hss : xsn[i]? = some (.string ss)) (hxl : 1 ≤ ysl.length)
    (b0 : xsn.length ≤ 1000) (b1 : ysn.length ≤ 1000) (b2 : xsl.length ≤ 900) (b3 : ysl.length ≤ 900) (b4 : xsr.length ≤ 900) (b5 : ysr.length ≤ 900) :
    Calls Try.prog 52 #[.pointer (some ⟨b, 0, none⟩), .int .i64 i] w fun e w' => e = .returned (.tuple #[]) ∧ ∃ kn' cn' kl' xl', Bt false w' b lb rb kn' cn' kl' xl' kr xr (delAt i xsn) (delAt (i + 1) ysn) (xsl ++ .string ss :: xsr) (ysl ++ ysr) xsr ysr R ∧ Mv (o3 b lb rb kn cn kl xl kr xr) w (o3 b lb rb kn' cn' kl' xl' kr xr) w' := by
  obtain ⟨gn, ckn, rfl⟩ := row_some bt.kn_ (by omega)
  obtain ⟨gc, ccn, rfl⟩ := row_some bt.cn_ (by have := (List.getElem?_eq_some_iff.1 hlb).1; omega)
  obtain ⟨Al, ckl, rfl, -, -⟩ := bt.kl_.shape
  obtain ⟨ax, cxl, hax⟩ := row_some bt.xl_ (by omega)
  subst hax
  obtain ⟨Ar, ckr, rfl, -, -⟩ := bt.kr_.shape
  obtain ⟨Ay, cxr, rfl, -, -⟩ := bt.xr_.shape
  have BT := Aside0.mk bt
  have hil := (List.getElem?_eq_some_iff.1 hrb).1
  obtain ⟨c0, c1, c2⟩ := inner_cells (show w.heap[b]? = some (.cells #[_, .slice none 0 0, _] 74 (0, 0)) from bt.hn)
  obtain ⟨d0, d1, d2⟩ := inner_cells (show w.heap[lb]? = some (.cells #[_, .slice none 0 0, _] 74 (0, 0)) from bt.hl)
  have k1 := (bt.cn_.cellAt hlb).1
  have k2 := (bt.cn_.cellAt hrb).1
  have hA1 := Aside0.mk (And.intro b0 (And.intro b1 (And.intro b2 (And.intro b3 (And.intro b4 b5)))))
  have hA2 := Aside0.mk (And.intro hil hs)
  have hA4 := Aside0.mk hss
  have e3 : (i : Int) < (ysn.length : Int) := by omega
  have e4 : (i : Int) + 1 < (ysn.length : Int) := by omega
  have e5 : IntKind.i64.wrap ((i : Int) + 1) = (i : Int) + 1 := by rw [i64_w]; unfold wrap64; omega
  have e5' : IntKind.i64.wrap ((i : Int) + 2) = (i : Int) + 2 := by rw [i64_w]; unfold wrap64; omega
  have e6 : ((i : Int) + 1).toNat = i + 1 := by omega
  have e7 : (0 : Int) ≤ (i : Int) + 1 := by omega
  have e10 : (i : Int) < (xsn.length : Int) := by omega
  clear bt hlb hrb hs b0 b1 b2 b3 b4 b5 hil hss hxl
  unfold encP at k1 k2
  go_enter Try.func52, Try.ntmps52
  go_upto_region 0 with fail
  go_quiet (fail)
  go_upto_region 3 with fail
  obtain ⟨W0, hW0⟩ : ∃ W0, w.drewN nq = W0 := ⟨_, rfl⟩
  have BT0 : Aside0 (Bt false W0 b lb rb (.slice (some ⟨gn, 0, none⟩) xsn.length ckn) (.slice (some ⟨gc, 0, none⟩) ysn.length ccn) (.slice Al xsl.length ckl) (.slice (some ⟨ax, 0, none⟩) ysl.length cxl) (.slice Ar xsr.length ckr) (.slice Ay ysr.length cxr) xsn ysn xsl ysl xsr ysr R) := ⟨BT.out.step (by rw [← hW0]; rfl)⟩
  have MV0 : Aside0 (Mv (o3 b lb rb (.slice (some ⟨gn, 0, none⟩) xsn.length ckn) (.slice (some ⟨gc, 0, none⟩) ysn.length ccn) (.slice Al xsl.length ckl) (.slice (some ⟨ax, 0, none⟩) ysl.length cxl) (.slice Ar xsr.length ckr) (.slice Ay ysr.length cxr)) w (o3 b lb rb (.slice (some ⟨gn, 0, none⟩) xsn.length ckn) (.slice (some ⟨gc, 0, none⟩) ysn.length ccn) (.slice Al xsl.length ckl) (.slice (some ⟨ax, 0, none⟩) ysl.length cxl) (.slice Ar xsr.length ckr) (.slice Ay ysr.length cxr)) W0) := ⟨by rw [← hW0]; exact Mv.drewN _ _ _⟩
  rw [hW0]
  have bt := BT0.out
  clear c0 c1 c2 d0 d1 d2 k1 k2 hW0 BT
  obtain ⟨d0, d1, d2⟩ := inner_cells (show W0.heap[lb]? = some (.cells #[_, .slice none 0 0, _] 74 (0, 0)) from bt.hl)
  obtain ⟨r0, r1, r2⟩ := inner_cells (show W0.heap[rb]? = some (.cells #[_, .slice none 0 0, _] 74 (0, 0)) from bt.hr)
  obtain ⟨n0, -, -⟩ := inner_cells (show W0.heap[b]? = some (.cells #[_, .slice none 0 0, _] 74 (0, 0)) from bt.hn)
  have l1 := (bt.kn_.cellAt hA4.out).1
  have TW := Aside0.mk bt.twoL
  have hN : Aside0 (∀ g ∈ [lb, rb, b, gn] ++ ((Value.slice Ar xsr.length ckr).ownBlock.toList ++ (Value.slice Ay ysr.length cxr).ownBlock.toList), g ∉ (Value.slice Al xsl.length ckl).ownBlock.toList ++ (Value.slice (some ⟨ax, 0, none⟩) ysl.length cxl).ownBlock.toList) := ⟨fun g hg hx => by
    have h9 : (((Value.slice Al xsl.length ckl).ownBlock.toList ++ (Value.slice (some ⟨ax, 0, none⟩) ysl.length cxl).ownBlock.toList) ++ (([lb, rb, b, gn] ++ ((Value.slice Ar xsr.length ckr).ownBlock.toList ++ (Value.slice Ay ysr.length cxr).ownBlock.toList)) ++ (gc :: R))).Nodup := nd_perm bt.nd (fun a => by simp only [oN, Value.ownBlock, Option.toList_some, List.count_append, List.count_cons, List.count_nil]; omega)
    exact (List.nodup_append.1 h9).2.2 g hx g (List.mem_append_left _ hg) rfl⟩
  have aK0 : Aside0 (∀ W vb, Below W0.heap.size W0 W → W.heap[vb]? = some (.cells #[.string ss] 9 (0, 0)) → ∃ v' w2, (Builtin.append_ #[71, 71] 71 #[(.slice Al xsl.length ckl), .slice (some ⟨vb, 0, none⟩) 1 1]).run Try.prog W = .ok v' w2 ∧ ∃ g c, v' = .slice (some ⟨g, 0, none⟩) (xsl.length + 1) c ∧ Step1 9 W0 W w2 (.slice Al xsl.length ckl) (.slice (some ⟨g, 0, none⟩) (xsl.length + 1) c) (xsl ++ [.string ss])) := ⟨fun W vb hW hvb => by
    obtain ⟨g, c, w2, h1, h2⟩ := appS (BT0.out.kl_.below hW) hvb (by have := hA1.out; omega)
    exact ⟨_, w2, h1, g, c, rfl, hW, h2⟩⟩
  have aK : Aside0 (∀ W w1 g c, Step1 9 W0 W w1 (.slice Al xsl.length ckl) (.slice (some ⟨g, 0, none⟩) (xsl.length + 1) c) (xsl ++ [.string ss]) → ∃ v' w2, (Builtin.append_ #[71, 71] 71 #[.slice (some ⟨g, 0, none⟩) (xsl.length + 1) c, .slice Ar xsr.length ckr]).run Try.prog w1 = .ok v' w2 ∧ ∃ A c, v' = .slice A (xsl.length + 1 + xsr.length) c ∧ Step1 9 W0 W w2 (.slice Al xsl.length ckl) (.slice A (xsl.length + 1 + xsr.length) c) ((xsl ++ [.string ss]) ++ xsr)) := ⟨fun W w1 g c s1 => by
    obtain ⟨A, c, w2, h1, h2⟩ := appRowS s1.2.1 (BT0.out.kr_.fr s1.fr (fun k hk h9 => hN.out k (List.mem_append_right _ (List.mem_append_left _ hk)) (List.mem_append_left _ h9))) (by have := hA1.out; omega) (by have := hA1.out; omega)
    exact ⟨_, w2, h1, A, c, rfl, s1.1, s1.2.trans h2⟩⟩
  have aV : Aside0 (∀ w2 A c W, Step1 9 W0 W w2 (.slice Al xsl.length ckl) (.slice A (xsl.length + 1 + xsr.length) c) ((xsl ++ [.string ss]) ++ xsr) → ∃ v' w3, (Builtin.append_ #[72, 72] 72 #[(.slice (some ⟨ax, 0, none⟩) ysl.length cxl), .slice Ay ysr.length cxr]).run Try.prog w2 = .ok v' w3 ∧ ∃ A' c', v' = .slice A' (ysl.length + ysr.length) c' ∧ Done 9 70 W0 w3 lb (.slice Al xsl.length ckl) (.slice A (xsl.length + 1 + xsr.length) c) ((xsl ++ [.string ss]) ++ xsr) (.slice (some ⟨ax, 0, none⟩) ysl.length cxl) (.slice A' (ysl.length + ysr.length) c') (ysl ++ ysr) (oN b (.slice (some ⟨gn, 0, none⟩) xsn.length ckn) (.slice (some ⟨gc, 0, none⟩) ysn.length ccn) ++ (oN rb (.slice Ar xsr.length ckr) (.slice Ay ysr.length cxr) ++ R))) := ⟨fun w2 A c W s1 => by
    obtain ⟨A', c', w3, h1, h2⟩ := appRowN (s1.row BT0.out.xl_ TW.out) (BT0.out.xr_.fr s1.fr (fun k hk h9 => hN.out k (List.mem_append_right _ (List.mem_append_right _ hk)) (List.mem_append_left _ h9))) (by have := hA1.out; omega) (by have := hA1.out; omega)
    exact ⟨_, w3, h1, A', c', rfl, Step2.done ⟨s1, Below.refl _ _, h2⟩ TW.out⟩⟩
  clear bt
  refine start_ (n := 35) (S := fun w' => w'.cell? ⟨lb, 0, none⟩ = some (.slice Al xsl.length ckl) ∧ w'.cell? ⟨lb, 2, none⟩ = some (.slice (some ⟨ax, 0, none⟩) ysl.length cxl) ∧ w'.cell? ⟨rb, 0, none⟩ = some (.slice Ar xsr.length ckr) ∧ w'.cell? ⟨rb, 2, none⟩ = some (.slice Ay ysr.length cxr) ∧ w'.cell? ⟨b, 0, none⟩ = some (.slice (some ⟨gn, 0, none⟩) xsn.length ckn) ∧ w'.cell? ⟨gn, i, none⟩ = some (.string ss)) (ds := [31, 34]) (mK 35 0) (by kernel_rfl) rfl rfl ⟨d0, d2, r0, r2, n0, l1⟩ (fun hHeld => ?_)
  refine with_tabW (T := (true, [([], []), ([], []), ([], []), ([2], [2]), ([3], [3]), ([4], [4]), ([], []), ([6], [6]), ([7], [7]), ([8], [8]), ([], []), ([9, 10], [9, 10]), ([11], [11]), ([12], [12]), ([5, 13], [5, 13]), ([], []), ([15], [15]), ([16], [16]), ([17], [17]), ([14, 18, 14], [14, 18]), ([], []), ([20], [20]), ([21], [21]), ([22], [22]), ([], []), ([24], [24]), ([25], [25]), ([26], [26]), ([23, 27, 19], [23, 27]), ([0, 0, 2, 3, 4, 5, 6, 7, 8, 9, 10, 11, 12, 13, 14, 15, 16, 17, 18, 19, 23, 27, 28], [0]), ([29, 0, 2, 3, 4, 5, 6, 7, 8, 9, 10, 11, 12, 13, 14, 15, 16, 17, 18, 19, 23, 27, 28], [29]), ([30, 19, 28, 0, 2, 3, 4, 5, 6, 7, 8, 9, 10, 11, 12, 13, 14, 15, 16, 17, 18, 19, 23, 27, 28], [19, 30]), ([1, 0, 1, 2, 3, 4, 5, 6, 7, 8, 9, 10, 11, 12, 13, 14, 15, 16, 17, 18, 19, 20, 21, 22, 23, 24, 25, 26, 27, 28, 29, 30, 31], [1]), ([32, 0, 1, 2, 3, 4, 5, 6, 7, 8, 9, 10, 11, 12, 13, 14, 15, 16, 17, 18, 19, 20, 21, 22, 23, 24, 25, 26, 27, 28, 29, 30, 31], [32]), ([33, 28, 31, 0, 1, 2, 3, 4, 5, 6, 7, 8, 9, 10, 11, 12, 13, 14, 15, 16, 17, 18, 19, 20, 21, 22, 23, 24, 25, 26, 27, 28, 29, 30, 31], [28, 33])])) (B := [0, 0, 0, 4, 12, 28, 0, 64, 192, 448, 0, 1984, 4032, 8128, 16380, 0, 32768, 98304, 229376, 524284, 0, 1048576, 3145728, 7340032, 0, 16777216, 50331648, 117440512, 268435452, 536870909, 1073741821, 2147483645, 4294967295, 8589934591, 17179869183]) (by kernel_rfl) (by kernel_rfl) (fun HT_ HW_ => ?_)
  refine pK 0 50 (mK 35 1) rfl rfl HT_ ?_
  refine pK 1 51 (mK 35 3) rfl rfl HT_ ?_
  refine pK 2 52 (mK 35 7) rfl rfl HT_ ?_
  refine pK 3 53 (mK 35 15) rfl rfl HT_ ?_
  refine pK 4 54 (mK 35 31) rfl rfl HT_ ?_
  refine pK 6 56 (mK 35 95) rfl rfl HT_ ?_
  refine pK 7 57 (mK 35 223) rfl rfl HT_ ?_
  refine pK 8 58 (mK 35 479) rfl rfl HT_ ?_
  refine pK 10 60 (mK 35 1503) rfl rfl HT_ ?_
  refine pK 15 65 (mK 35 34271) rfl rfl HT_ ?_
  refine pK 16 66 (mK 35 99807) rfl rfl HT_ ?_
  refine pK 17 67 (mK 35 230879) rfl rfl HT_ ?_
  refine pK 20 70 (mK 35 1279455) rfl rfl HT_ ?_
  refine pK 21 71 (mK 35 3376607) rfl rfl HT_ ?_
  refine pK 22 72 (mK 35 7570911) rfl rfl HT_ ?_
  refine pK 24 74 (mK 35 24348127) rfl rfl HT_ ?_
  refine pK 25 75 (mK 35 57902559) rfl rfl HT_ ?_
  refine pK 26 76 (mK 35 125011423) rfl rfl HT_ ?_
  refine take_ (i := 5) (N := some 55) (v := ?_) (a' := ?_) (mK 35 125011455) rfl rfl (take_ofW HT_.out HW_.out (by kernel_rfl)) (fun _ _ _ h => h) (Or.inl ⟨by rfl, ?_⟩) hHeld ?_ ?_
  rotate_left; focus (rintro w' ⟨s0, s1, s2, s3, s4, s5⟩; go_simp; with_reducible rfl; done)
  rotate_left; focus (first | (simp only [Act.put, List.setIfInBounds_toArray, List.set_cons_zero, List.set_cons_succ, i64_w, i32_w]; rfl; done) | (rfl; done))
  refine take_ (i := 9) (N := some 59) (v := ?_) (a' := ?_) (mK 35 125011967) rfl rfl (take_ofW HT_.out HW_.out (by kernel_rfl)) (fun _ _ _ h => h) (Or.inl ⟨by rfl, ?_⟩) hHeld ?_ ?_
  rotate_left; focus (rintro w' ⟨s0, s1, s2, s3, s4, s5⟩; go_simp; with_reducible rfl; done)
  rotate_left; focus (first | (simp only [Act.put, List.setIfInBounds_toArray, List.set_cons_zero, List.set_cons_succ, i64_w, i32_w]; rfl; done) | (rfl; done))
  refine pK 11 61 (mK 35 125014015) rfl rfl HT_ ?_
  refine take_ (i := 12) (N := some 62) (v := ?_) (a' := ?_) (mK 35 125018111) rfl rfl (take_ofW HT_.out HW_.out (by kernel_rfl)) (fun _ _ _ h => h) (Or.inl ⟨by rfl, ?_⟩) hHeld ?_ ?_
  rotate_left; focus (rintro w' ⟨s0, s1, s2, s3, s4, s5⟩; go_simp; with_reducible rfl; done)
  rotate_left; focus (first | (simp only [Act.put, List.setIfInBounds_toArray, List.set_cons_zero, List.set_cons_succ, i64_w, i32_w]; rfl; done) | (rfl; done))
  refine take_ (i := 18) (N := some 68) (v := ?_) (a' := ?_) (mK 35 125280255) rfl rfl (take_ofW HT_.out HW_.out (by kernel_rfl)) (fun _ _ _ h => h) (Or.inl ⟨by rfl, ?_⟩) hHeld ?_ ?_
  rotate_left; focus (rintro w' ⟨s0, s1, s2, s3, s4, s5⟩; go_simp; with_reducible rfl; done)
  rotate_left; focus (first | (simp only [Act.put, List.setIfInBounds_toArray, List.set_cons_zero, List.set_cons_succ, i64_w, i32_w]; rfl; done) | (rfl; done))
  refine take_ (i := 23) (N := some 73) (v := ?_) (a' := ?_) (mK 35 133668863) rfl rfl (take_ofW HT_.out HW_.out (by kernel_rfl)) (fun _ _ _ h => h) (Or.inl ⟨by rfl, ?_⟩) hHeld ?_ ?_
  rotate_left; focus (rintro w' ⟨s0, s1, s2, s3, s4, s5⟩; go_simp; with_reducible rfl; done)
  rotate_left; focus (first | (simp only [Act.put, List.setIfInBounds_toArray, List.set_cons_zero, List.set_cons_succ, i64_w, i32_w]; rfl; done) | (rfl; done))
  refine take_ (i := 27) (N := some 77) (v := ?_) (a' := ?_) (mK 35 267886591) rfl rfl (take_ofW HT_.out HW_.out (by kernel_rfl)) (fun _ _ _ h => h) (Or.inl ⟨by rfl, ?_⟩) hHeld ?_ ?_
  rotate_left; focus (rintro w' ⟨s0, s1, s2, s3, s4, s5⟩; go_simp; with_reducible rfl; done)
  rotate_left; focus (first | (simp only [Act.put, List.setIfInBounds_toArray, List.set_cons_zero, List.set_cons_succ, i64_w, i32_w]; rfl; done) | (rfl; done))
  refine one_ (i := 13) (N := some 63) (mK 35 267894783) rfl rfl (one_of HT_.out (by kernel_rfl)) (by decide) (fun K hK => ?_)
  focus
   go_simp
   refine hK.out _ _ ⟨cell_alloc hHeld.1 _, cell_alloc hHeld.2.1 _, cell_alloc hHeld.2.2.1 _, cell_alloc hHeld.2.2.2.1 _, cell_alloc hHeld.2.2.2.2.1 _, cell_alloc hHeld.2.2.2.2.2 _⟩ (fun hHeld => ?_)
   clear hK K
   refine one_ (i := 14) (N := some 64) (mK 35 267911167) rfl rfl (one_of HT_.out (by kernel_rfl)) (by decide) (fun K hK => ?_)
   focus
    refine step_appK rfl _ _ 71 71 rfl (.slice Al xsl.length ckl) _ (by simp [Act.eval, Act.put]) (by simp only [Act.eval, Act.put]; rfl) (aK0.out _ _ ?_ ?_) ?_
    exact below_drew1 (below_alloc (Below.refl _ _) _)
    exact blk_new _ _
    rintro _ w2 ⟨g1, c1, rfl, s1⟩
    have SA := Aside0.mk s1
    have FX : Aside0 (Fr ((Value.slice Al xsl.length ckl).ownBlock.toList ++ (Value.slice (some ⟨ax, 0, none⟩) ysl.length cxl).ownBlock.toList) W0 w2) := ⟨s1.fr.mono (fun x hx => by simp only [List.mem_append]; simp [hx])⟩; have h0_ := FX.out.cell d0 (hN.out lb (by simp)); have h1_ := FX.out.cell d2 (hN.out lb (by simp)); have h2_ := FX.out.cell r0 (hN.out rb (by simp)); have h3_ := FX.out.cell r2 (hN.out rb (by simp)); have h4_ := FX.out.cell n0 (hN.out b (by simp)); have h5_ := FX.out.cell l1 (hN.out gn (by simp)); have SX := Aside0.mk (And.intro h0_ (And.intro h1_ (And.intro h2_ (And.intro h3_ (And.intro h4_ h5_))))); clear s1 h0_ h1_ h2_ h3_ h4_ h5_ FX
    go_simp
    refine hK.out _ _ SX.out (fun hHeld => ?_)
    clear hK K
    refine one_ (i := 19) (N := some 69) (mK 35 268435455) rfl rfl (one_of HT_.out (by kernel_rfl)) (by decide) (fun K hK => ?_)
    focus
     refine step_appK rfl _ _ 71 71 rfl (.slice (some ⟨g1, 0, none⟩) (xsl.length + 1) c1) _ (by simp [Act.eval, Act.put]) (by simp only [Act.eval, Act.put]; rfl) (aK.out _ _ _ _ SA.out) ?_
     rintro _ w2 ⟨A2, c2, rfl, s1⟩
     have SA := Aside0.mk s1
     have FX : Aside0 (Fr ((Value.slice Al xsl.length ckl).ownBlock.toList ++ (Value.slice (some ⟨ax, 0, none⟩) ysl.length cxl).ownBlock.toList) W0 w2) := ⟨s1.fr.mono (fun x hx => by simp only [List.mem_append]; simp [hx])⟩; have h0_ := FX.out.cell d0 (hN.out lb (by simp)); have h1_ := FX.out.cell d2 (hN.out lb (by simp)); have h2_ := FX.out.cell r0 (hN.out rb (by simp)); have h3_ := FX.out.cell r2 (hN.out rb (by simp)); have h4_ := FX.out.cell n0 (hN.out b (by simp)); have h5_ := FX.out.cell l1 (hN.out gn (by simp)); have SX := Aside0.mk (And.intro h0_ (And.intro h1_ (And.intro h2_ (And.intro h3_ (And.intro h4_ h5_))))); clear s1 h0_ h1_ h2_ h3_ h4_ h5_ FX
     go_simp
     refine hK.out _ _ SX.out (fun hHeld => ?_)
     clear hK K
     refine one_ (i := 28) (N := some 78) (mK 35 536870911) rfl rfl (one_of HT_.out (by kernel_rfl)) (by decide) (fun K hK => ?_)
     focus
      refine step_appK rfl _ _ 72 72 rfl (.slice (some ⟨ax, 0, none⟩) ysl.length cxl) _ (by simp [Act.eval, Act.put]) (by simp only [Act.eval, Act.put]; rfl) (aV.out _ _ _ _ SA.out) ?_
      rintro _ w3 ⟨A3, c3, rfl, dn⟩
      have DN := Aside0.mk dn
      have FX := Aside0.mk dn.fr
      have h0_ := FX.out.cell d0 (hN.out lb (by simp)); have h1_ := FX.out.cell d2 (hN.out lb (by simp)); have h2_ := FX.out.cell r0 (hN.out rb (by simp)); have h3_ := FX.out.cell r2 (hN.out rb (by simp)); have h4_ := FX.out.cell n0 (hN.out b (by simp)); have h5_ := FX.out.cell l1 (hN.out gn (by simp)); have SX := Aside0.mk (And.intro h0_ (And.intro h1_ (And.intro h2_ (And.intro h3_ (And.intro h4_ h5_))))); have f0 := blk_frozen (dn.blk TW.out BT0.out.hl) 0; have f1 := blk_frozen (dn.blk TW.out BT0.out.hl) 2; have g0 := SX.out.1; have g1 := SX.out.2.1; clear dn h0_ h1_ h2_ h3_ h4_ h5_ FX
      go_simp
      refine hK.out _ _ SX.out (fun hHeld => ?_)
      clear hK K
      refine pK 29 79 (mK 35 1073741823) rfl rfl HT_ ?_
      refine pK 30 80 (mK 35 2147483647) rfl rfl HT_ ?_
      refine last_ (i := 31) (N := none) (mK 35 4294967295) rfl rfl (one_of HT_.out (by kernel_rfl)) (by decide) (fun K hK => ?_)
      focus
       go_simp
       skip
       refine hK.out _ _ ?_
       clear hK K
       refine pK 32 81 (mK 35 8589934591) rfl rfl HT_ ?_
       refine pK 33 82 (mK 35 17179869183) rfl rfl HT_ ?_
       refine last_ (i := 34) (N := none) (mK 35 34359738367) rfl rfl (one_of HT_.out (by kernel_rfl)) (by decide) (fun K hK => ?_)
       focus
        go_simp
        skip
        refine hK.out _ _ ?_
        clear hK K
        refine done_ (done_of HT_.out (by kernel_rfl)) ?_
  obtain ⟨W1, hW1⟩ : ∃ W1, (w3.setCell ⟨lb, 0, none⟩ (.slice A2 (xsl.length + 1 + xsr.length) c2)).setCell ⟨lb, 2, none⟩ (.slice A3 (ysl.length + ysr.length) c3) = W1 := ⟨_, rfl⟩
  have T1 := BT0.out.turnL DN.out
  have hW1' : (w3.setCell ⟨lb, 0, none⟩ (.slice A2 (xsl.length + 1 + xsr.length) c2)).setCell ⟨lb, ix false, none⟩ (.slice A3 (ysl.length + ysr.length) c3) = W1 := hW1
  rw [hW1'] at T1
  obtain ⟨bt, mv1⟩ := T1
  have MV1 := Aside0.mk (MV0.out.trans mv1)
  have BT1 := Aside0.mk bt
  rw [hW1]
  clear hW1 hW1' SA SX f0 f1 g0 g1 DN mv1 d0 d1 d2 r0 r1 r2 hHeld n0 l1
  obtain ⟨n0, -, n2⟩ := inner_cells (show W1.heap[b]? = some (.cells #[_, .slice none 0 0, _] 74 (0, 0)) from bt.hn)
  have TN := Aside0.mk bt.twoN
  clear bt
  have cK : Aside0 (∀ W, Below W1.heap.size W1 W → Calls Try.prog 45 #[.slice (some ⟨gn, 0, none⟩) xsn.length ckn, .int .i64 i, .int .i64 ((i : Int) + 1)] W fun e w2 => ∃ A c, e = .returned (.slice A (xsn.length - 1) c) ∧ Step1 9 W1 W w2 (.slice (some ⟨gn, 0, none⟩) xsn.length ckn) (.slice A (xsn.length - 1) c) (delAt i xsn)) := ⟨fun W hW =>
    (delS' (BT1.out.kn_.below hW) hA2.out.2 hA1.out.1).mono (fun e w2 ⟨A, c, h1, h2⟩ => ⟨A, c, h1, hW, h2⟩)⟩
  have cV : Aside0 (∀ w2 A c W WQ, Step1 9 W1 W w2 (.slice (some ⟨gn, 0, none⟩) xsn.length ckn) (.slice A (xsn.length - 1) c) (delAt i xsn) → Below w2.heap.size w2 WQ → Calls Try.prog 58 #[.slice (some ⟨gc, 0, none⟩) ysn.length ccn, .int .i64 ((i : Int) + 1), .int .i64 ((i : Int) + 2)] WQ fun e w3 => ∃ g' c', e = .returned (.slice (some ⟨g', 0, none⟩) (ysn.length - 1) c') ∧ Done 9 70 W1 w3 b (.slice (some ⟨gn, 0, none⟩) xsn.length ckn) (.slice A (xsn.length - 1) c) (delAt i xsn) (.slice (some ⟨gc, 0, none⟩) ysn.length ccn) (.slice (some ⟨g', 0, none⟩) (ysn.length - 1) c') (delAt (i + 1) ysn) (oN lb (.slice A2 (xsl.length + 1 + xsr.length) c2) (.slice A3 (ysl.length + ysr.length) c3) ++ (oN rb (.slice Ar xsr.length ckr) (.slice Ay ysr.length cxr) ++ R))) := ⟨fun w2 A c W WQ s1 hW => by
    have e9 : (i : Int) + 2 = ((i + 1 : Nat) : Int) + 1 := by omega
    have e8 : (i : Int) + 1 = ((i + 1 : Nat) : Int) := by omega
    rw [e9, e8]
    exact (delN (i := i + 1) ((s1.row BT1.out.cn_ TN.out).below hW) hA2.out.1 (by have := hA2.out; omega) hA1.out.2.1).mono (fun e w3 ⟨g', c', h1, h2⟩ => ⟨g', c', h1, Step2.done ⟨s1, hW, h2⟩ TN.out⟩)⟩
  go_upto_region 4 with fail
  refine start_ (n := 25) (S := fun w' => w'.cell? ⟨b, 0, none⟩ = some (.slice (some ⟨gn, 0, none⟩) xsn.length ckn) ∧ w'.cell? ⟨b, 2, none⟩ = some (.slice (some ⟨gc, 0, none⟩) ysn.length ccn)) (ds := [21, 24]) (mK 25 0) (by kernel_rfl) rfl rfl ⟨n0, n2⟩ (fun hHeld => ?_)
  refine with_tabW (T := (true, [([], []), ([], []), ([], []), ([2], [2]), ([3], [3]), ([4], [4]), ([], []), ([], []), ([7], [7]), ([5, 6, 8], [5, 6, 8]), ([], []), ([10], [10]), ([11], [11]), ([12], [12]), ([], []), ([14], [14]), ([], []), ([16], [16]), ([13, 15, 17, 9], [13, 15, 17]), ([0, 0, 2, 3, 4, 5, 6, 7, 8, 9, 13, 18], [0]), ([19, 0, 2, 3, 4, 5, 6, 7, 8, 9, 13, 18], [19]), ([20, 9, 18, 0, 2, 3, 4, 5, 6, 7, 8, 9, 13, 18], [9, 20]), ([1, 0, 1, 2, 3, 4, 5, 6, 7, 8, 9, 10, 11, 12, 13, 14, 15, 16, 17, 18, 19, 20, 21], [1]), ([22, 0, 1, 2, 3, 4, 5, 6, 7, 8, 9, 10, 11, 12, 13, 14, 15, 16, 17, 18, 19, 20, 21], [22]), ([23, 18, 21, 0, 1, 2, 3, 4, 5, 6, 7, 8, 9, 10, 11, 12, 13, 14, 15, 16, 17, 18, 19, 20, 21], [18, 23])])) (B := [0, 0, 0, 4, 12, 28, 0, 0, 128, 508, 0, 1024, 3072, 7168, 0, 16384, 0, 65536, 262140, 524285, 1048573, 2097149, 4194303, 8388607, 16777215]) (by kernel_rfl) (by kernel_rfl) (fun HT_ HW_ => ?_)
  refine pK 0 83 (mK 25 1) rfl rfl HT_ ?_
  refine pK 1 84 (mK 25 3) rfl rfl HT_ ?_
  refine pK 2 85 (mK 25 7) rfl rfl HT_ ?_
  refine pK 3 86 (mK 25 15) rfl rfl HT_ ?_
  refine pK 4 87 (mK 25 31) rfl rfl HT_ ?_
  refine pK 6 89 (mK 25 95) rfl rfl HT_ ?_
  refine pK 7 90 (mK 25 223) rfl rfl HT_ ?_
  refine pK 8 91 (mK 25 479) rfl rfl HT_ ?_
  refine pK 10 93 (mK 25 1503) rfl rfl HT_ ?_
  refine pK 11 94 (mK 25 3551) rfl rfl HT_ ?_
  refine pK 12 95 (mK 25 7647) rfl rfl HT_ ?_
  refine pK 14 97 (mK 25 24031) rfl rfl HT_ ?_
  refine pK 15 98 (mK 25 56799) rfl rfl HT_ ?_
  refine pK 16 99 (mK 25 122335) rfl rfl HT_ ?_
  refine pK 17 100 (mK 25 253407) rfl rfl HT_ ?_
  refine take_ (i := 5) (N := some 88) (v := ?_) (a' := ?_) (mK 25 253439) rfl rfl (take_ofW HT_.out HW_.out (by kernel_rfl)) (fun _ _ _ h => h) (Or.inl ⟨by rfl, ?_⟩) hHeld ?_ ?_
  rotate_left; focus (rintro w' ⟨s0, s1⟩; go_simp; with_reducible rfl; done)
  rotate_left; focus (first | (simp only [Act.put, List.setIfInBounds_toArray, List.set_cons_zero, List.set_cons_succ, i64_w, i32_w]; rfl; done) | (rfl; done))
  refine take_ (i := 13) (N := some 96) (v := ?_) (a' := ?_) (mK 25 261631) rfl rfl (take_ofW HT_.out HW_.out (by kernel_rfl)) (fun _ _ _ h => h) (Or.inl ⟨by rfl, ?_⟩) hHeld ?_ ?_
  rotate_left; focus (rintro w' ⟨s0, s1⟩; go_simp; with_reducible rfl; done)
  rotate_left; focus (first | (simp only [Act.put, List.setIfInBounds_toArray, List.set_cons_zero, List.set_cons_succ, i64_w, i32_w]; rfl; done) | (rfl; done))
  refine one_ (i := 9) (N := some 92) (mK 25 262143) rfl rfl (one_of HT_.out (by kernel_rfl)) (by decide) (fun K hK => ?_)
  focus
   go_simp
   refine (cK.out _ ?_).mono ?_
   exact (by first | exact below_drew1 (Below.refl _ _) | exact Below.refl _ _)
   rintro e w2 ⟨A4, c4, rfl, s1⟩
   have S1 := Aside0.mk s1
   have HB2 := Aside0.mk (s1.blk BT1.out.hn TN.out)
   clear s1
   go_simp
   refine hK.out _ _ ⟨(inner_cells HB2.out).1, (inner_cells HB2.out).2.2⟩ (fun hHeld => ?_)
   clear hK K
   refine one_ (i := 18) (N := some 101) (mK 25 524287) rfl rfl (one_of HT_.out (by kernel_rfl)) (by decide) (fun K hK => ?_)
   focus
    go_simp
    refine (cV.out _ _ _ _ _ S1.out ?_).mono ?_
    exact Below.refl _ _
    rintro e w3 ⟨g5, c5, rfl, dn⟩
    have DN := Aside0.mk dn
    have HB3 := Aside0.mk (dn.blk TN.out BT1.out.hn)
    have f0 := blk_frozen HB3.out 0
    have f1 := blk_frozen HB3.out 2
    have g0 := (inner_cells HB3.out).1
    have g1 := (inner_cells HB3.out).2.2
    clear dn
    go_simp
    refine hK.out _ _ ⟨g0, g1⟩ (fun hHeld => ?_)
    clear hK K
    refine pK 19 102 (mK 25 1048575) rfl rfl HT_ ?_
    refine pK 20 103 (mK 25 2097151) rfl rfl HT_ ?_
    refine last_ (i := 21) (N := none) (mK 25 4194303) rfl rfl (one_of HT_.out (by kernel_rfl)) (by decide) (fun K hK => ?_)
    focus
     go_simp
     skip
     refine hK.out _ _ ?_
     clear hK K
     refine pK 22 104 (mK 25 8388607) rfl rfl HT_ ?_
     refine pK 23 105 (mK 25 16777215) rfl rfl HT_ ?_
     refine last_ (i := 24) (N := none) (mK 25 33554431) rfl rfl (one_of HT_.out (by kernel_rfl)) (by decide) (fun K hK => ?_)
     focus
      go_simp
      skip
      refine hK.out _ _ ?_
      clear hK K
      refine done_ (done_of HT_.out (by kernel_rfl)) ?_
  go_wp2
  go_end0
  have T3 := BT1.out.turnN DN.out
  have T4 := T3.1
  rw [List.append_assoc] at T4
  exact ⟨rfl, _, _, _, _, T4, MV1.out.trans T3.2⟩
end Go.Proofs.YtmomohljnmopfaaX
end
