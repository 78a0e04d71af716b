/- Several texts in one: UH; no conditions beyond those in each theorem's head. -/
import Derived.Test.YtmomohljnmopfaaMC
import Derived.Test.YtmomohljnmopfaaPK
section
namespace Go.Proofs.YtmomohljnmopfaaX
open Go.RowKit Go.Lib Go.Proofs.YtmomohljnmopfaaW.PrintWords Go.Proofs.YtmomohljnmopfaaW.PrintLast Go.Proofs.YtmomohljnmopfaaW.PrintMore
set_option linter.unusedVariables false
set_option linter.unusedSimpArgs false
attribute [local go_sem high] eqlNil71 eqlNil72
set_option maxRecDepth 100000 in
set_option maxHeartbeats 8000000 in
theorem bor4 {w : World} {b lb rb i : Nat} {kn cn kl xl kr xr : Value} {xsn ysn xsl ysl xs2 ys2 : List Value} {us ss : ByteArray} {d : Nat} {R : List Nat} (bt : Bt false w b lb rb kn cn kl xl kr xr xsn ysn xsl ysl (.string us :: xs2) (encP d :: ys2) R) (hlb : ysn[i]? = some (encP lb)) (hrb : ysn[i + 1]? = some (encP rb)) (hs : xsn[i]? = some (.string ss)) (hx : 1 ≤ xs2.length) (hy : 1 ≤ ys2.length)
    (b1 : ysn.length ≤ 1000) (b2 : xsl.length ≤ 1000) (b3 : ysl.length ≤ 1000) (b4 : xs2.length ≤ 900) (b5 : ys2.length ≤ 900) (hxl : 1 ≤ ysl.length) :
    Calls Try.prog 51 #[.pointer (some ⟨b, 0, none⟩), .int .i64 i, .bool false] w fun e w' => e = .returned (.tuple #[]) ∧ ∃ kn' cn' kl' xl' kr' xr', Bt false w' b lb rb kn' cn' kl' xl' kr' xr' (xsn.set i (.string us)) ysn (xsl ++ [.string ss]) (ysl ++ [encP d]) xs2 ys2 R ∧ Mv (o3 b lb rb kn cn kl xl kr xr) w (o3 b lb rb kn' cn' kl' xl' kr' xr') w' := by
  have hi := (List.getElem?_eq_some_iff.1 hs).1
  obtain ⟨gn, ckn, rfl⟩ := row_some bt.kn_ (by omega)
  obtain ⟨gc, ccn, rfl⟩ := row_some bt.cn_ (by have := (List.getElem?_eq_some_iff.1 hlb).1; omega)
  obtain ⟨Al, ckl, rfl, -, -⟩ := bt.kl_.shape
  obtain ⟨ax, cxl, hax⟩ := row_some bt.xl_ (by omega)
  subst hax
  obtain ⟨gr, ckr, rfl⟩ := row_some bt.kr_ (by simp)
  obtain ⟨gy, cxr, rfl⟩ := row_some bt.xr_ (by simp)
  have hl1 : (Value.string us :: xs2).length = xs2.length + 1 := by simp
  have hl2 : (encP d :: ys2).length = ys2.length + 1 := by simp
  obtain ⟨n1, hn1⟩ : ∃ n1, (Value.string us :: xs2).length = n1 := ⟨_, rfl⟩
  obtain ⟨n2, hn2⟩ : ∃ n2, (encP d :: ys2).length = n2 := ⟨_, rfl⟩
  rw [hn1, hn2] at bt ⊢
  have BT := Aside0.mk bt
  have hil := (List.getElem?_eq_some_iff.1 hrb).1
  obtain ⟨c0, c1, c2⟩ := inner_cells (show w.heap[b]? = some (.cells #[_, .slice none 0 0, _] 74 (0, 0)) from bt.hn)
  obtain ⟨d0, d1, d2⟩ := inner_cells (show w.heap[lb]? = some (.cells #[_, .slice none 0 0, _] 74 (0, 0)) from bt.hl)
  have k1 := (bt.cn_.cellAt hlb).1
  have k2 := (bt.cn_.cellAt hrb).1
  have hA1 := Aside0.mk (And.intro b1 (And.intro b2 (And.intro b3 (And.intro b4 b5))))
  have hA2 := Aside0.mk (And.intro hlb (And.intro hrb (And.intro hi hy)))
  have hA3 := Aside0.mk (And.intro hn1 (And.intro hn2 (And.intro hl1 hl2)))
  have hA4 := Aside0.mk (And.intro hs hx)
  have e3 : (i : Int) < (ysn.length : Int) := by omega
  have e4 : (i : Int) + 1 < (ysn.length : Int) := by omega
  have e5 : IntKind.i64.wrap ((i : Int) + 1) = (i : Int) + 1 := by rw [i64_w]; unfold wrap64; omega
  have e6 : ((i : Int) + 1).toNat = i + 1 := by omega
  have e7 : (0 : Int) ≤ (i : Int) + 1 := by omega
  have e8 : (0 : Int) < (n1 : Int) := by omega
  have e9 : (0 : Int) < (n2 : Int) := by omega
  have e8' : 0 < n1 := by omega
  have e9' : 0 < n2 := by omega
  have e10 : (i : Int) < (xsn.length : Int) := by omega
  clear bt hlb hrb hi hy b1 b2 b3 b4 b5 hl1 hl2 hil hn1 hn2 hs hx hxl
  unfold encP at k1 k2
  go_enter Try.func51, Try.ntmps51
  go_upto_region 0 with fail
  go_quiet (fail)
  go_upto_region 1 with fail
  obtain ⟨W0, hW0⟩ : ∃ W0, w.drewN nq = W0 := ⟨_, rfl⟩
  have BT0 : Aside0 (Bt false W0 b lb rb (.slice (some ⟨gn, 0, none⟩) xsn.length ckn) (.slice (some ⟨gc, 0, none⟩) ysn.length ccn) (.slice Al xsl.length ckl) (.slice (some ⟨ax, 0, none⟩) ysl.length cxl) (.slice (some ⟨gr, 0, none⟩) n1 ckr) (.slice (some ⟨gy, 0, none⟩) n2 cxr) xsn ysn xsl ysl (.string us :: xs2) (encP d :: ys2) R) := ⟨BT.out.step (by rw [← hW0]; rfl)⟩
  have MV0 : Aside0 (Mv (o3 b lb rb (.slice (some ⟨gn, 0, none⟩) xsn.length ckn) (.slice (some ⟨gc, 0, none⟩) ysn.length ccn) (.slice Al xsl.length ckl) (.slice (some ⟨ax, 0, none⟩) ysl.length cxl) (.slice (some ⟨gr, 0, none⟩) n1 ckr) (.slice (some ⟨gy, 0, none⟩) n2 cxr)) w (o3 b lb rb (.slice (some ⟨gn, 0, none⟩) xsn.length ckn) (.slice (some ⟨gc, 0, none⟩) ysn.length ccn) (.slice Al xsl.length ckl) (.slice (some ⟨ax, 0, none⟩) ysl.length cxl) (.slice (some ⟨gr, 0, none⟩) n1 ckr) (.slice (some ⟨gy, 0, none⟩) n2 cxr)) W0) := ⟨by rw [← hW0]; exact Mv.drewN _ _ _⟩
  rw [hW0]
  have bt := BT0.out
  clear c0 c1 c2 d0 d1 d2 k1 k2 hW0 BT
  obtain ⟨d0, d1, d2⟩ := inner_cells (show W0.heap[lb]? = some (.cells #[_, .slice none 0 0, _] 74 (0, 0)) from bt.hl)
  obtain ⟨r0, r1, r2⟩ := inner_cells (show W0.heap[rb]? = some (.cells #[_, .slice none 0 0, _] 74 (0, 0)) from bt.hr)
  obtain ⟨n0, -, -⟩ := inner_cells (show W0.heap[b]? = some (.cells #[_, .slice none 0 0, _] 74 (0, 0)) from bt.hn)
  have l1 := (bt.kn_.cellAt hA4.out.1).1
  have l2 := (bt.xr_.cellAt (i := 0) (u := encP d) rfl).1
  unfold encP at l2
  have TW := Aside0.mk bt.twoL
  have hN : Aside0 (∀ g ∈ [lb, rb, gy, b, gn], g ∉ (Value.slice Al xsl.length ckl).ownBlock.toList ++ (Value.slice (some ⟨ax, 0, none⟩) ysl.length cxl).ownBlock.toList) := ⟨fun g hg hx => by
    have h9 : (((Value.slice Al xsl.length ckl).ownBlock.toList ++ (Value.slice (some ⟨ax, 0, none⟩) ysl.length cxl).ownBlock.toList) ++ ([lb, rb, gy, b, gn] ++ (gr :: gc :: R))).Nodup := nd_perm bt.nd (fun a => by simp only [oN, Value.ownBlock, Option.toList_some, List.count_append, List.count_cons, List.count_nil]; omega)
    exact (List.nodup_append.1 h9).2.2 g hx g (List.mem_append_left _ hg) rfl⟩
  have aK : Aside0 (∀ W vb, Below W0.heap.size W0 W → W.heap[vb]? = some (.cells #[.string ss] 9 (0, 0)) → ∃ v' w2, (Builtin.append_ #[71, 71] 71 #[(.slice Al xsl.length ckl), .slice (some ⟨vb, 0, none⟩) 1 1]).run Try.prog W = .ok v' w2 ∧ ∃ g c, v' = .slice (some ⟨g, 0, none⟩) (xsl.length + 1) c ∧ Step1 9 W0 W w2 (.slice Al xsl.length ckl) (.slice (some ⟨g, 0, none⟩) (xsl.length + 1) c) (xsl ++ [.string ss])) := ⟨fun W vb hW hvb => by
    obtain ⟨g, c, w2, h1, h2⟩ := appS (BT0.out.kl_.below hW) hvb hA1.out.2.1
    exact ⟨_, w2, h1, g, c, rfl, hW, h2⟩⟩
  have aV : Aside0 (∀ W vb, Below W0.heap.size W0 W → W.heap[vb]? = some (.cells #[.pointer (some ⟨d, 0, none⟩)] 70 (0, 0)) → ∃ v' w2, (Builtin.append_ #[72, 72] 72 #[(.slice (some ⟨ax, 0, none⟩) ysl.length cxl), .slice (some ⟨vb, 0, none⟩) 1 1]).run Try.prog W = .ok v' w2 ∧ ∃ g c, v' = .slice (some ⟨g, 0, none⟩) (ysl.length + 1) c ∧ Step1 70 W0 W w2 (.slice (some ⟨ax, 0, none⟩) ysl.length cxl) (.slice (some ⟨g, 0, none⟩) (ysl.length + 1) c) (ysl ++ [encP d])) := ⟨fun W vb hW hvb => by
    obtain ⟨g, c, w2, h1, h2⟩ := appN (BT0.out.xl_.below hW) hvb hA1.out.2.2.1
    exact ⟨_, w2, h1, g, c, rfl, hW, h2⟩⟩
  have aKV : Aside0 (∀ w2 g c W W2 vb, Step1 9 W0 W w2 (.slice Al xsl.length ckl) (.slice (some ⟨g, 0, none⟩) (xsl.length + 1) c) (xsl ++ [.string ss]) → Below w2.heap.size w2 W2 → W2.heap[vb]? = some (.cells #[.pointer (some ⟨d, 0, none⟩)] 70 (0, 0)) → ∃ v' w3, (Builtin.append_ #[72, 72] 72 #[(.slice (some ⟨ax, 0, none⟩) ysl.length cxl), .slice (some ⟨vb, 0, none⟩) 1 1]).run Try.prog W2 = .ok v' w3 ∧ ∃ g' c', v' = .slice (some ⟨g', 0, none⟩) (ysl.length + 1) c' ∧ Done 9 70 W0 w3 lb (.slice Al xsl.length ckl) (.slice (some ⟨g, 0, none⟩) (xsl.length + 1) c) (xsl ++ [.string ss]) (.slice (some ⟨ax, 0, none⟩) ysl.length cxl) (.slice (some ⟨g', 0, none⟩) (ysl.length + 1) c') (ysl ++ [encP d]) (oN b (.slice (some ⟨gn, 0, none⟩) xsn.length ckn) (.slice (some ⟨gc, 0, none⟩) ysn.length ccn) ++ (oN rb (.slice (some ⟨gr, 0, none⟩) n1 ckr) (.slice (some ⟨gy, 0, none⟩) n2 cxr) ++ R))) := ⟨fun w2 g c W W2 vb s1 hW hvb => by
    obtain ⟨g', c', w3, h1, h2⟩ := appN ((s1.row BT0.out.xl_ TW.out).below hW) hvb hA1.out.2.2.1
    exact ⟨_, w3, h1, g', c', rfl, Step2.done ⟨s1, hW, h2⟩ TW.out⟩⟩
  have aVK : Aside0 (∀ w2 g c W W2 vb, Step1 70 W0 W w2 (.slice (some ⟨ax, 0, none⟩) ysl.length cxl) (.slice (some ⟨g, 0, none⟩) (ysl.length + 1) c) (ysl ++ [encP d]) → Below w2.heap.size w2 W2 → W2.heap[vb]? = some (.cells #[.string ss] 9 (0, 0)) → ∃ v' w3, (Builtin.append_ #[71, 71] 71 #[(.slice Al xsl.length ckl), .slice (some ⟨vb, 0, none⟩) 1 1]).run Try.prog W2 = .ok v' w3 ∧ ∃ g' c', v' = .slice (some ⟨g', 0, none⟩) (xsl.length + 1) c' ∧ Done 9 70 W0 w3 lb (.slice Al xsl.length ckl) (.slice (some ⟨g', 0, none⟩) (xsl.length + 1) c') (xsl ++ [.string ss]) (.slice (some ⟨ax, 0, none⟩) ysl.length cxl) (.slice (some ⟨g, 0, none⟩) (ysl.length + 1) c) (ysl ++ [encP d]) (oN b (.slice (some ⟨gn, 0, none⟩) xsn.length ckn) (.slice (some ⟨gc, 0, none⟩) ysn.length ccn) ++ (oN rb (.slice (some ⟨gr, 0, none⟩) n1 ckr) (.slice (some ⟨gy, 0, none⟩) n2 cxr) ++ R))) := ⟨fun w2 g c W W2 vb s1 hW hvb => by
    obtain ⟨g', c', w3, h1, h2⟩ := appS ((s1.row BT0.out.kl_ TW.out.swap).below hW) hvb hA1.out.2.1
    exact ⟨_, w3, h1, g', c', rfl, (Step2.done ⟨s1, hW, h2⟩ TW.out.swap).swap⟩⟩
  clear bt
  refine start_ (n := 33) (S := fun w' => w'.cell? ⟨lb, 0, none⟩ = some (.slice Al xsl.length ckl) ∧ w'.cell? ⟨lb, 2, none⟩ = some (.slice (some ⟨ax, 0, none⟩) ysl.length cxl) ∧ w'.cell? ⟨b, 0, none⟩ = some (.slice (some ⟨gn, 0, none⟩) xsn.length ckn) ∧ w'.cell? ⟨rb, 2, none⟩ = some (.slice (some ⟨gy, 0, none⟩) n2 cxr) ∧ w'.cell? ⟨gn, i, none⟩ = some (.string ss) ∧ w'.cell? ⟨gy, 0, none⟩ = some (.pointer (some ⟨d, 0, none⟩))) (ds := [29, 32]) (mK 33 0) (by kernel_rfl) rfl rfl ⟨d0, d2, n0, r2, l1, l2⟩ (fun hHeld => ?_)
  refine with_tabW (T := (true, [([], []), ([], []), ([], []), ([2], [2]), ([3], [3]), ([4], [4]), ([], []), ([6], [6]), ([7], [7]), ([8], [8]), ([], []), ([9, 10], [9, 10]), ([11], [11]), ([12], [12]), ([5, 13], [5, 13]), ([], []), ([15], [15]), ([16], [16]), ([17], [17]), ([], []), ([19], [19]), ([20], [20]), ([21], [21]), ([22], [22]), ([23], [23]), ([24], [24]), ([18, 25, 14], [18, 25]), ([0, 0, 2, 3, 4, 5, 6, 7, 8, 9, 10, 11, 12, 13, 14, 18, 22, 24, 26], [0]), ([27, 0, 2, 3, 4, 5, 6, 7, 8, 9, 10, 11, 12, 13, 14, 18, 22, 24, 26], [27]), ([28, 14, 26, 0, 2, 3, 4, 5, 6, 7, 8, 9, 10, 11, 12, 13, 14, 18, 22, 24, 26], [14, 28]), ([1, 0, 1, 2, 3, 4, 5, 6, 7, 8, 9, 10, 11, 12, 13, 14, 15, 16, 17, 18, 19, 20, 21, 22, 23, 24, 25, 26, 27, 28, 29], [1]), ([30, 0, 1, 2, 3, 4, 5, 6, 7, 8, 9, 10, 11, 12, 13, 14, 15, 16, 17, 18, 19, 20, 21, 22, 23, 24, 25, 26, 27, 28, 29], [30]), ([31, 26, 29, 0, 1, 2, 3, 4, 5, 6, 7, 8, 9, 10, 11, 12, 13, 14, 15, 16, 17, 18, 19, 20, 21, 22, 23, 24, 25, 26, 27, 28, 29], [26, 31])])) (B := [0, 0, 0, 4, 12, 28, 0, 64, 192, 448, 0, 1984, 4032, 8128, 16380, 0, 32768, 98304, 229376, 0, 524288, 1572864, 3670016, 7864320, 16252928, 33030144, 67108860, 134217725, 268435453, 536870909, 1073741823, 2147483647, 4294967295]) (by kernel_rfl) (by kernel_rfl) (fun HT_ HW_ => ?_)
  refine pK 0 25 (mK 33 1) rfl rfl HT_ ?_
  refine pK 1 26 (mK 33 3) rfl rfl HT_ ?_
  refine pK 2 27 (mK 33 7) rfl rfl HT_ ?_
  refine pK 3 28 (mK 33 15) rfl rfl HT_ ?_
  refine pK 4 29 (mK 33 31) rfl rfl HT_ ?_
  refine pK 6 31 (mK 33 95) rfl rfl HT_ ?_
  refine pK 7 32 (mK 33 223) rfl rfl HT_ ?_
  refine pK 8 33 (mK 33 479) rfl rfl HT_ ?_
  refine pK 10 35 (mK 33 1503) rfl rfl HT_ ?_
  refine pK 15 40 (mK 33 34271) rfl rfl HT_ ?_
  refine pK 16 41 (mK 33 99807) rfl rfl HT_ ?_
  refine pK 17 42 (mK 33 230879) rfl rfl HT_ ?_
  refine pK 19 44 (mK 33 755167) rfl rfl HT_ ?_
  refine pK 20 45 (mK 33 1803743) rfl rfl HT_ ?_
  refine pK 21 46 (mK 33 3900895) rfl rfl HT_ ?_
  refine take_ (i := 5) (N := some 30) (v := ?_) (a' := ?_) (mK 33 3900927) rfl rfl (take_ofW HT_.out HW_.out (by kernel_rfl)) (fun _ _ _ h => h) (Or.inl ⟨by rfl, ?_⟩) hHeld ?_ ?_
  rotate_left; focus (rintro w' ⟨s0, s1, s2, s3, s4, s5⟩; go_simp; with_reducible rfl; done)
  rotate_left; focus (first | (simp only [Act.put, List.setIfInBounds_toArray, List.set_cons_zero, List.set_cons_succ, i64_w, i32_w]; rfl; done) | (rfl; done))
  refine take_ (i := 9) (N := some 34) (v := ?_) (a' := ?_) (mK 33 3901439) rfl rfl (take_ofW HT_.out HW_.out (by kernel_rfl)) (fun _ _ _ h => h) (Or.inl ⟨by rfl, ?_⟩) hHeld ?_ ?_
  rotate_left; focus (rintro w' ⟨s0, s1, s2, s3, s4, s5⟩; go_simp; with_reducible rfl; done)
  rotate_left; focus (first | (simp only [Act.put, List.setIfInBounds_toArray, List.set_cons_zero, List.set_cons_succ, i64_w, i32_w]; rfl; done) | (rfl; done))
  refine pK 11 36 (mK 33 3903487) rfl rfl HT_ ?_
  refine take_ (i := 12) (N := some 37) (v := ?_) (a' := ?_) (mK 33 3907583) rfl rfl (take_ofW HT_.out HW_.out (by kernel_rfl)) (fun _ _ _ h => h) (Or.inl ⟨by rfl, ?_⟩) hHeld ?_ ?_
  rotate_left; focus (rintro w' ⟨s0, s1, s2, s3, s4, s5⟩; go_simp; with_reducible rfl; done)
  rotate_left; focus (first | (simp only [Act.put, List.setIfInBounds_toArray, List.set_cons_zero, List.set_cons_succ, i64_w, i32_w]; rfl; done) | (rfl; done))
  refine take_ (i := 18) (N := some 43) (v := ?_) (a' := ?_) (mK 33 4169727) rfl rfl (take_ofW HT_.out HW_.out (by kernel_rfl)) (fun _ _ _ h => h) (Or.inl ⟨by rfl, ?_⟩) hHeld ?_ ?_
  rotate_left; focus (rintro w' ⟨s0, s1, s2, s3, s4, s5⟩; go_simp; with_reducible rfl; done)
  rotate_left; focus (first | (simp only [Act.put, List.setIfInBounds_toArray, List.set_cons_zero, List.set_cons_succ, i64_w, i32_w]; rfl; done) | (rfl; done))
  refine take_ (i := 22) (N := some 47) (v := ?_) (a' := ?_) (mK 33 8364031) rfl rfl (take_ofW HT_.out HW_.out (by kernel_rfl)) (fun _ _ _ h => h) (Or.inl ⟨by rfl, ?_⟩) hHeld ?_ ?_
  rotate_left; focus (rintro w' ⟨s0, s1, s2, s3, s4, s5⟩; go_simp; with_reducible rfl; done)
  rotate_left; focus (first | (simp only [Act.put, List.setIfInBounds_toArray, List.set_cons_zero, List.set_cons_succ, i64_w, i32_w]; rfl; done) | (rfl; done))
  refine pK 23 48 (mK 33 16752639) rfl rfl HT_ ?_
  refine take_ (i := 24) (N := some 49) (v := ?_) (a' := ?_) (mK 33 33529855) rfl rfl (take_ofW HT_.out HW_.out (by kernel_rfl)) (fun _ _ _ h => h) (Or.inl ⟨by rfl, ?_⟩) hHeld ?_ ?_
  rotate_left; focus (rintro w' ⟨s0, s1, s2, s3, s4, s5⟩; go_simp; with_reducible rfl; done)
  rotate_left; focus (first | (simp only [Act.put, List.setIfInBounds_toArray, List.set_cons_zero, List.set_cons_succ, i64_w, i32_w]; rfl; done) | (rfl; done))
  refine two_ (i := 13) (j := 25) (mK 33 33538047) (mK 33 67084287) rfl rfl rfl rfl (two_of HT_.out (by kernel_rfl)) (by decide) (by decide) (fun K hK => ?_) (fun K hK => ?_)
  focus
   go_simp
   refine hK.out _ _ ⟨cell_alloc hHeld.1 _, cell_alloc hHeld.2.1 _, cell_alloc hHeld.2.2.1 _, cell_alloc hHeld.2.2.2.1 _, cell_alloc hHeld.2.2.2.2.1 _, cell_alloc hHeld.2.2.2.2.2 _⟩ (fun hHeld => ?_)
   clear hK K
   refine two_ (i := 14) (j := 25) (mK 33 33554431) (mK 33 67092479) rfl rfl rfl rfl (two_of HT_.out (by kernel_rfl)) (by decide) (by decide) (fun K hK => ?_) (fun K hK => ?_)
   focus
    first
     | (refine step_appK rfl _ _ 71 71 rfl (.slice Al xsl.length ckl) _ (by simp [Act.eval, Act.put]) (by simp only [Act.eval, Act.put]; rfl)  (aVK.out _ _ _ _ _ _ SA.out ?_ ?_) ?_; exact (by first | exact Below.refl _ _ | exact below_alloc (Below.refl _ _) _); exact (by first | exact blk_new _ _ | exact SA.out.new (by first | exact blk_new _ _ | exact blk_new2 _ _ _ | exact blk_alloc (blk_new _ _) _) (by first | exact Nat.le_refl _ | exact Nat.le_succ _) TW.out.clt); rintro _ w3 ⟨g2, c2, rfl, dn⟩; have DN := Aside0.mk dn; have FX := Aside0.mk dn.fr; have h0_ := FX.out.cell d0 (hN.out lb (by simp)); have h1_ := FX.out.cell d2 (hN.out lb (by simp)); have h2_ := FX.out.cell n0 (hN.out b (by simp)); have h3_ := FX.out.cell r2 (hN.out rb (by simp)); have h4_ := FX.out.cell l1 (hN.out gn (by simp)); have h5_ := FX.out.cell l2 (hN.out gy (by simp)); have SX := Aside0.mk (And.intro h0_ (And.intro h1_ (And.intro h2_ (And.intro h3_ (And.intro h4_ h5_))))); have f0 := blk_frozen (dn.blk TW.out BT0.out.hl) 0; have f1 := blk_frozen (dn.blk TW.out BT0.out.hl) 2; have g0 := SX.out.1; have g1 := SX.out.2.1; clear dn h0_ h1_ h2_ h3_ h4_ h5_ FX)
     | (refine step_appK rfl _ _ 71 71 rfl (.slice Al xsl.length ckl) _ (by simp [Act.eval, Act.put]) (by simp only [Act.eval, Act.put]; rfl)  (aK.out _ _ ?_ ?_) ?_; exact (by first | exact below_drew1 (below_alloc (Below.refl _ _) _) | exact below_drew1 (below_alloc (below_alloc (Below.refl _ _) _) _)); exact (by first | exact blk_new _ _ | exact blk_new2 _ _ _ | exact blk_alloc (blk_new _ _) _); rintro _ w2 ⟨g2, c2, rfl, s1⟩; have SA := Aside0.mk s1; have FX : Aside0 (Fr ((Value.slice Al xsl.length ckl).ownBlock.toList ++ (Value.slice (some ⟨ax, 0, none⟩) ysl.length cxl).ownBlock.toList) W0 w2) := ⟨s1.fr.mono (fun x hx => by simp only [List.mem_append]; simp [hx])⟩; have h0_ := FX.out.cell d0 (hN.out lb (by simp)); have h1_ := FX.out.cell d2 (hN.out lb (by simp)); have h2_ := FX.out.cell n0 (hN.out b (by simp)); have h3_ := FX.out.cell r2 (hN.out rb (by simp)); have h4_ := FX.out.cell l1 (hN.out gn (by simp)); have h5_ := FX.out.cell l2 (hN.out gy (by simp)); have SX := Aside0.mk (And.intro h0_ (And.intro h1_ (And.intro h2_ (And.intro h3_ (And.intro h4_ h5_))))); clear s1 h0_ h1_ h2_ h3_ h4_ h5_ FX)
    go_simp
    refine hK.out _ _ SX.out (fun hHeld => ?_)
    clear hK K
    refine one_ (i := 25) (N := some 50) (mK 33 67108863) rfl rfl (one_of HT_.out (by kernel_rfl)) (by decide) (fun K hK => ?_)
    focus
     go_simp
     refine hK.out _ _ ⟨cell_alloc hHeld.1 _, cell_alloc hHeld.2.1 _, cell_alloc hHeld.2.2.1 _, cell_alloc hHeld.2.2.2.1 _, cell_alloc hHeld.2.2.2.2.1 _, cell_alloc hHeld.2.2.2.2.2 _⟩ (fun hHeld => ?_)
     clear hK K
     refine one_ (i := 26) (N := some 51) (mK 33 134217727) rfl rfl (one_of HT_.out (by kernel_rfl)) (by decide) (fun K hK => ?_)
     focus
      first
       | (refine step_appK rfl _ _ 72 72 rfl (.slice (some ⟨ax, 0, none⟩) ysl.length cxl) _ (by simp [Act.eval, Act.put]) (by simp only [Act.eval, Act.put]; rfl)  (aKV.out _ _ _ _ _ _ SA.out ?_ ?_) ?_; exact (by first | exact Below.refl _ _ | exact below_alloc (Below.refl _ _) _); exact (by first | exact blk_new _ _ | exact SA.out.new (by first | exact blk_new _ _ | exact blk_new2 _ _ _ | exact blk_alloc (blk_new _ _) _) (by first | exact Nat.le_refl _ | exact Nat.le_succ _) TW.out.klt); rintro _ w3 ⟨g3, c3, rfl, dn⟩; have DN := Aside0.mk dn; have FX := Aside0.mk dn.fr; have h0_ := FX.out.cell d0 (hN.out lb (by simp)); have h1_ := FX.out.cell d2 (hN.out lb (by simp)); have h2_ := FX.out.cell n0 (hN.out b (by simp)); have h3_ := FX.out.cell r2 (hN.out rb (by simp)); have h4_ := FX.out.cell l1 (hN.out gn (by simp)); have h5_ := FX.out.cell l2 (hN.out gy (by simp)); have SX := Aside0.mk (And.intro h0_ (And.intro h1_ (And.intro h2_ (And.intro h3_ (And.intro h4_ h5_))))); have f0 := blk_frozen (dn.blk TW.out BT0.out.hl) 0; have f1 := blk_frozen (dn.blk TW.out BT0.out.hl) 2; have g0 := SX.out.1; have g1 := SX.out.2.1; clear dn h0_ h1_ h2_ h3_ h4_ h5_ FX)
       | (refine step_appK rfl _ _ 72 72 rfl (.slice (some ⟨ax, 0, none⟩) ysl.length cxl) _ (by simp [Act.eval, Act.put]) (by simp only [Act.eval, Act.put]; rfl)  (aV.out _ _ ?_ ?_) ?_; exact (by first | exact below_drew1 (below_alloc (Below.refl _ _) _) | exact below_drew1 (below_alloc (below_alloc (Below.refl _ _) _) _)); exact (by first | exact blk_new _ _ | exact blk_new2 _ _ _ | exact blk_alloc (blk_new _ _) _); rintro _ w2 ⟨g3, c3, rfl, s1⟩; have SA := Aside0.mk s1; have FX : Aside0 (Fr ((Value.slice Al xsl.length ckl).ownBlock.toList ++ (Value.slice (some ⟨ax, 0, none⟩) ysl.length cxl).ownBlock.toList) W0 w2) := ⟨s1.fr.mono (fun x hx => by simp only [List.mem_append]; simp [hx])⟩; have h0_ := FX.out.cell d0 (hN.out lb (by simp)); have h1_ := FX.out.cell d2 (hN.out lb (by simp)); have h2_ := FX.out.cell n0 (hN.out b (by simp)); have h3_ := FX.out.cell r2 (hN.out rb (by simp)); have h4_ := FX.out.cell l1 (hN.out gn (by simp)); have h5_ := FX.out.cell l2 (hN.out gy (by simp)); have SX := Aside0.mk (And.intro h0_ (And.intro h1_ (And.intro h2_ (And.intro h3_ (And.intro h4_ h5_))))); clear s1 h0_ h1_ h2_ h3_ h4_ h5_ FX)
      go_simp
      refine hK.out _ _ SX.out (fun hHeld => ?_)
      clear hK K
      refine pK 27 52 (mK 33 268435455) rfl rfl HT_ ?_
      refine pK 28 53 (mK 33 536870911) rfl rfl HT_ ?_
      refine last_ (i := 29) (N := none) (mK 33 1073741823) rfl rfl (one_of HT_.out (by kernel_rfl)) (by decide) (fun K hK => ?_)
      focus
       go_simp
       (skip)
       refine hK.out _ _ ?_
       clear hK K
       refine pK 30 54 (mK 33 2147483647) rfl rfl HT_ ?_
       refine pK 31 55 (mK 33 4294967295) rfl rfl HT_ ?_
       refine last_ (i := 32) (N := none) (mK 33 8589934591) rfl rfl (one_of HT_.out (by kernel_rfl)) (by decide) (fun K hK => ?_)
       focus
        go_simp
        skip
        refine hK.out _ _ ?_
        clear hK K
        refine done_ (done_of HT_.out (by kernel_rfl)) ?_
   rotate_left 1
   focus
    go_simp
    refine hK.out _ _ ⟨cell_alloc hHeld.1 _, cell_alloc hHeld.2.1 _, cell_alloc hHeld.2.2.1 _, cell_alloc hHeld.2.2.2.1 _, cell_alloc hHeld.2.2.2.2.1 _, cell_alloc hHeld.2.2.2.2.2 _⟩ (fun hHeld => ?_)
    clear hK K
    refine one_ (i := 14) (N := some 39) (mK 33 67108863) rfl rfl (one_of HT_.out (by kernel_rfl)) (by decide) (fun K hK => ?_)
    focus
     first
      | (refine step_appK rfl _ _ 71 71 rfl (.slice Al xsl.length ckl) _ (by simp [Act.eval, Act.put]) (by simp only [Act.eval, Act.put]; rfl)  (aVK.out _ _ _ _ _ _ SA.out ?_ ?_) ?_; exact (by first | exact Below.refl _ _ | exact below_alloc (Below.refl _ _) _); exact (by first | exact blk_new _ _ | exact SA.out.new (by first | exact blk_new _ _ | exact blk_new2 _ _ _ | exact blk_alloc (blk_new _ _) _) (by first | exact Nat.le_refl _ | exact Nat.le_succ _) TW.out.clt); rintro _ w3 ⟨g2, c2, rfl, dn⟩; have DN := Aside0.mk dn; have FX := Aside0.mk dn.fr; have h0_ := FX.out.cell d0 (hN.out lb (by simp)); have h1_ := FX.out.cell d2 (hN.out lb (by simp)); have h2_ := FX.out.cell n0 (hN.out b (by simp)); have h3_ := FX.out.cell r2 (hN.out rb (by simp)); have h4_ := FX.out.cell l1 (hN.out gn (by simp)); have h5_ := FX.out.cell l2 (hN.out gy (by simp)); have SX := Aside0.mk (And.intro h0_ (And.intro h1_ (And.intro h2_ (And.intro h3_ (And.intro h4_ h5_))))); have f0 := blk_frozen (dn.blk TW.out BT0.out.hl) 0; have f1 := blk_frozen (dn.blk TW.out BT0.out.hl) 2; have g0 := SX.out.1; have g1 := SX.out.2.1; clear dn h0_ h1_ h2_ h3_ h4_ h5_ FX)
      | (refine step_appK rfl _ _ 71 71 rfl (.slice Al xsl.length ckl) _ (by simp [Act.eval, Act.put]) (by simp only [Act.eval, Act.put]; rfl)  (aK.out _ _ ?_ ?_) ?_; exact (by first | exact below_drew1 (below_alloc (Below.refl _ _) _) | exact below_drew1 (below_alloc (below_alloc (Below.refl _ _) _) _)); exact (by first | exact blk_new _ _ | exact blk_new2 _ _ _ | exact blk_alloc (blk_new _ _) _); rintro _ w2 ⟨g2, c2, rfl, s1⟩; have SA := Aside0.mk s1; have FX : Aside0 (Fr ((Value.slice Al xsl.length ckl).ownBlock.toList ++ (Value.slice (some ⟨ax, 0, none⟩) ysl.length cxl).ownBlock.toList) W0 w2) := ⟨s1.fr.mono (fun x hx => by simp only [List.mem_append]; simp [hx])⟩; have h0_ := FX.out.cell d0 (hN.out lb (by simp)); have h1_ := FX.out.cell d2 (hN.out lb (by simp)); have h2_ := FX.out.cell n0 (hN.out b (by simp)); have h3_ := FX.out.cell r2 (hN.out rb (by simp)); have h4_ := FX.out.cell l1 (hN.out gn (by simp)); have h5_ := FX.out.cell l2 (hN.out gy (by simp)); have SX := Aside0.mk (And.intro h0_ (And.intro h1_ (And.intro h2_ (And.intro h3_ (And.intro h4_ h5_))))); clear s1 h0_ h1_ h2_ h3_ h4_ h5_ FX)
     go_simp
     refine hK.out _ _ SX.out (fun hHeld => ?_)
     clear hK K
     refine one_ (i := 26) (N := some 51) (mK 33 134217727) rfl rfl (one_of HT_.out (by kernel_rfl)) (by decide) (fun K hK => ?_)
     focus
      first
       | (refine step_appK rfl _ _ 72 72 rfl (.slice (some ⟨ax, 0, none⟩) ysl.length cxl) _ (by simp [Act.eval, Act.put]) (by simp only [Act.eval, Act.put]; rfl)  (aKV.out _ _ _ _ _ _ SA.out ?_ ?_) ?_; exact (by first | exact Below.refl _ _ | exact below_alloc (Below.refl _ _) _); exact (by first | exact blk_new _ _ | exact SA.out.new (by first | exact blk_new _ _ | exact blk_new2 _ _ _ | exact blk_alloc (blk_new _ _) _) (by first | exact Nat.le_refl _ | exact Nat.le_succ _) TW.out.klt); rintro _ w3 ⟨g3, c3, rfl, dn⟩; have DN := Aside0.mk dn; have FX := Aside0.mk dn.fr; have h0_ := FX.out.cell d0 (hN.out lb (by simp)); have h1_ := FX.out.cell d2 (hN.out lb (by simp)); have h2_ := FX.out.cell n0 (hN.out b (by simp)); have h3_ := FX.out.cell r2 (hN.out rb (by simp)); have h4_ := FX.out.cell l1 (hN.out gn (by simp)); have h5_ := FX.out.cell l2 (hN.out gy (by simp)); have SX := Aside0.mk (And.intro h0_ (And.intro h1_ (And.intro h2_ (And.intro h3_ (And.intro h4_ h5_))))); have f0 := blk_frozen (dn.blk TW.out BT0.out.hl) 0; have f1 := blk_frozen (dn.blk TW.out BT0.out.hl) 2; have g0 := SX.out.1; have g1 := SX.out.2.1; clear dn h0_ h1_ h2_ h3_ h4_ h5_ FX)
       | (refine step_appK rfl _ _ 72 72 rfl (.slice (some ⟨ax, 0, none⟩) ysl.length cxl) _ (by simp [Act.eval, Act.put]) (by simp only [Act.eval, Act.put]; rfl)  (aV.out _ _ ?_ ?_) ?_; exact (by first | exact below_drew1 (below_alloc (Below.refl _ _) _) | exact below_drew1 (below_alloc (below_alloc (Below.refl _ _) _) _)); exact (by first | exact blk_new _ _ | exact blk_new2 _ _ _ | exact blk_alloc (blk_new _ _) _); rintro _ w2 ⟨g3, c3, rfl, s1⟩; have SA := Aside0.mk s1; have FX : Aside0 (Fr ((Value.slice Al xsl.length ckl).ownBlock.toList ++ (Value.slice (some ⟨ax, 0, none⟩) ysl.length cxl).ownBlock.toList) W0 w2) := ⟨s1.fr.mono (fun x hx => by simp only [List.mem_append]; simp [hx])⟩; have h0_ := FX.out.cell d0 (hN.out lb (by simp)); have h1_ := FX.out.cell d2 (hN.out lb (by simp)); have h2_ := FX.out.cell n0 (hN.out b (by simp)); have h3_ := FX.out.cell r2 (hN.out rb (by simp)); have h4_ := FX.out.cell l1 (hN.out gn (by simp)); have h5_ := FX.out.cell l2 (hN.out gy (by simp)); have SX := Aside0.mk (And.intro h0_ (And.intro h1_ (And.intro h2_ (And.intro h3_ (And.intro h4_ h5_))))); clear s1 h0_ h1_ h2_ h3_ h4_ h5_ FX)
      go_simp
      refine hK.out _ _ SX.out (fun hHeld => ?_)
      clear hK K
      refine pK 27 52 (mK 33 268435455) rfl rfl HT_ ?_
      refine pK 28 53 (mK 33 536870911) rfl rfl HT_ ?_
      refine last_ (i := 29) (N := none) (mK 33 1073741823) rfl rfl (one_of HT_.out (by kernel_rfl)) (by decide) (fun K hK => ?_)
      focus
       go_simp
       (skip)
       refine hK.out _ _ ?_
       clear hK K
       refine pK 30 54 (mK 33 2147483647) rfl rfl HT_ ?_
       refine pK 31 55 (mK 33 4294967295) rfl rfl HT_ ?_
       refine last_ (i := 32) (N := none) (mK 33 8589934591) rfl rfl (one_of HT_.out (by kernel_rfl)) (by decide) (fun K hK => ?_)
       focus
        go_simp
        skip
        refine hK.out _ _ ?_
        clear hK K
        refine done_ (done_of HT_.out (by kernel_rfl)) ?_
   rotate_left 1
  rotate_left 2
  focus
   go_simp
   refine hK.out _ _ ⟨cell_alloc hHeld.1 _, cell_alloc hHeld.2.1 _, cell_alloc hHeld.2.2.1 _, cell_alloc hHeld.2.2.2.1 _, cell_alloc hHeld.2.2.2.2.1 _, cell_alloc hHeld.2.2.2.2.2 _⟩ (fun hHeld => ?_)
   clear hK K
   refine one_ (i := 13) (N := some 38) (mK 33 67092479) rfl rfl (one_of HT_.out (by kernel_rfl)) (by decide) (fun K hK => ?_)
   focus
    go_simp
    refine hK.out _ _ ⟨cell_alloc hHeld.1 _, cell_alloc hHeld.2.1 _, cell_alloc hHeld.2.2.1 _, cell_alloc hHeld.2.2.2.1 _, cell_alloc hHeld.2.2.2.2.1 _, cell_alloc hHeld.2.2.2.2.2 _⟩ (fun hHeld => ?_)
    clear hK K
    refine one_ (i := 14) (N := some 39) (mK 33 67108863) rfl rfl (one_of HT_.out (by kernel_rfl)) (by decide) (fun K hK => ?_)
    focus
     first
      | (refine step_appK rfl _ _ 71 71 rfl (.slice Al xsl.length ckl) _ (by simp [Act.eval, Act.put]) (by simp only [Act.eval, Act.put]; rfl)  (aVK.out _ _ _ _ _ _ SA.out ?_ ?_) ?_; exact (by first | exact Below.refl _ _ | exact below_alloc (Below.refl _ _) _); exact (by first | exact blk_new _ _ | exact SA.out.new (by first | exact blk_new _ _ | exact blk_new2 _ _ _ | exact blk_alloc (blk_new _ _) _) (by first | exact Nat.le_refl _ | exact Nat.le_succ _) TW.out.clt); rintro _ w3 ⟨g2, c2, rfl, dn⟩; have DN := Aside0.mk dn; have FX := Aside0.mk dn.fr; have h0_ := FX.out.cell d0 (hN.out lb (by simp)); have h1_ := FX.out.cell d2 (hN.out lb (by simp)); have h2_ := FX.out.cell n0 (hN.out b (by simp)); have h3_ := FX.out.cell r2 (hN.out rb (by simp)); have h4_ := FX.out.cell l1 (hN.out gn (by simp)); have h5_ := FX.out.cell l2 (hN.out gy (by simp)); have SX := Aside0.mk (And.intro h0_ (And.intro h1_ (And.intro h2_ (And.intro h3_ (And.intro h4_ h5_))))); have f0 := blk_frozen (dn.blk TW.out BT0.out.hl) 0; have f1 := blk_frozen (dn.blk TW.out BT0.out.hl) 2; have g0 := SX.out.1; have g1 := SX.out.2.1; clear dn h0_ h1_ h2_ h3_ h4_ h5_ FX)
      | (refine step_appK rfl _ _ 71 71 rfl (.slice Al xsl.length ckl) _ (by simp [Act.eval, Act.put]) (by simp only [Act.eval, Act.put]; rfl)  (aK.out _ _ ?_ ?_) ?_; exact (by first | exact below_drew1 (below_alloc (Below.refl _ _) _) | exact below_drew1 (below_alloc (below_alloc (Below.refl _ _) _) _)); exact (by first | exact blk_new _ _ | exact blk_new2 _ _ _ | exact blk_alloc (blk_new _ _) _); rintro _ w2 ⟨g2, c2, rfl, s1⟩; have SA := Aside0.mk s1; have FX : Aside0 (Fr ((Value.slice Al xsl.length ckl).ownBlock.toList ++ (Value.slice (some ⟨ax, 0, none⟩) ysl.length cxl).ownBlock.toList) W0 w2) := ⟨s1.fr.mono (fun x hx => by simp only [List.mem_append]; simp [hx])⟩; have h0_ := FX.out.cell d0 (hN.out lb (by simp)); have h1_ := FX.out.cell d2 (hN.out lb (by simp)); have h2_ := FX.out.cell n0 (hN.out b (by simp)); have h3_ := FX.out.cell r2 (hN.out rb (by simp)); have h4_ := FX.out.cell l1 (hN.out gn (by simp)); have h5_ := FX.out.cell l2 (hN.out gy (by simp)); have SX := Aside0.mk (And.intro h0_ (And.intro h1_ (And.intro h2_ (And.intro h3_ (And.intro h4_ h5_))))); clear s1 h0_ h1_ h2_ h3_ h4_ h5_ FX)
     go_simp
     refine hK.out _ _ SX.out (fun hHeld => ?_)
     clear hK K
     refine one_ (i := 26) (N := some 51) (mK 33 134217727) rfl rfl (one_of HT_.out (by kernel_rfl)) (by decide) (fun K hK => ?_)
     focus
      first
       | (refine step_appK rfl _ _ 72 72 rfl (.slice (some ⟨ax, 0, none⟩) ysl.length cxl) _ (by simp [Act.eval, Act.put]) (by simp only [Act.eval, Act.put]; rfl)  (aKV.out _ _ _ _ _ _ SA.out ?_ ?_) ?_; exact (by first | exact Below.refl _ _ | exact below_alloc (Below.refl _ _) _); exact (by first | exact blk_new _ _ | exact SA.out.new (by first | exact blk_new _ _ | exact blk_new2 _ _ _ | exact blk_alloc (blk_new _ _) _) (by first | exact Nat.le_refl _ | exact Nat.le_succ _) TW.out.klt); rintro _ w3 ⟨g3, c3, rfl, dn⟩; have DN := Aside0.mk dn; have FX := Aside0.mk dn.fr; have h0_ := FX.out.cell d0 (hN.out lb (by simp)); have h1_ := FX.out.cell d2 (hN.out lb (by simp)); have h2_ := FX.out.cell n0 (hN.out b (by simp)); have h3_ := FX.out.cell r2 (hN.out rb (by simp)); have h4_ := FX.out.cell l1 (hN.out gn (by simp)); have h5_ := FX.out.cell l2 (hN.out gy (by simp)); have SX := Aside0.mk (And.intro h0_ (And.intro h1_ (And.intro h2_ (And.intro h3_ (And.intro h4_ h5_))))); have f0 := blk_frozen (dn.blk TW.out BT0.out.hl) 0; have f1 := blk_frozen (dn.blk TW.out BT0.out.hl) 2; have g0 := SX.out.1; have g1 := SX.out.2.1; clear dn h0_ h1_ h2_ h3_ h4_ h5_ FX)
       | (refine step_appK rfl _ _ 72 72 rfl (.slice (some ⟨ax, 0, none⟩) ysl.length cxl) _ (by simp [Act.eval, Act.put]) (by simp only [Act.eval, Act.put]; rfl)  (aV.out _ _ ?_ ?_) ?_; exact (by first | exact below_drew1 (below_alloc (Below.refl _ _) _) | exact below_drew1 (below_alloc (below_alloc (Below.refl _ _) _) _)); exact (by first | exact blk_new _ _ | exact blk_new2 _ _ _ | exact blk_alloc (blk_new _ _) _); rintro _ w2 ⟨g3, c3, rfl, s1⟩; have SA := Aside0.mk s1; have FX : Aside0 (Fr ((Value.slice Al xsl.length ckl).ownBlock.toList ++ (Value.slice (some ⟨ax, 0, none⟩) ysl.length cxl).ownBlock.toList) W0 w2) := ⟨s1.fr.mono (fun x hx => by simp only [List.mem_append]; simp [hx])⟩; have h0_ := FX.out.cell d0 (hN.out lb (by simp)); have h1_ := FX.out.cell d2 (hN.out lb (by simp)); have h2_ := FX.out.cell n0 (hN.out b (by simp)); have h3_ := FX.out.cell r2 (hN.out rb (by simp)); have h4_ := FX.out.cell l1 (hN.out gn (by simp)); have h5_ := FX.out.cell l2 (hN.out gy (by simp)); have SX := Aside0.mk (And.intro h0_ (And.intro h1_ (And.intro h2_ (And.intro h3_ (And.intro h4_ h5_))))); clear s1 h0_ h1_ h2_ h3_ h4_ h5_ FX)
      go_simp
      refine hK.out _ _ SX.out (fun hHeld => ?_)
      clear hK K
      refine pK 27 52 (mK 33 268435455) rfl rfl HT_ ?_
      refine pK 28 53 (mK 33 536870911) rfl rfl HT_ ?_
      refine last_ (i := 29) (N := none) (mK 33 1073741823) rfl rfl (one_of HT_.out (by kernel_rfl)) (by decide) (fun K hK => ?_)
      focus
       go_simp
       (skip)
       refine hK.out _ _ ?_
       clear hK K
       refine pK 30 54 (mK 33 2147483647) rfl rfl HT_ ?_
       refine pK 31 55 (mK 33 4294967295) rfl rfl HT_ ?_
       refine last_ (i := 32) (N := none) (mK 33 8589934591) rfl rfl (one_of HT_.out (by kernel_rfl)) (by decide) (fun K hK => ?_)
       focus
        go_simp
        skip
        refine hK.out _ _ ?_
        clear hK K
        refine done_ (done_of HT_.out (by kernel_rfl)) ?_
  rotate_left 1
  all_goals
    obtain ⟨W1, hW1⟩ : ∃ W1, (w3.setCell ⟨lb, 0, none⟩ (.slice (some ⟨g2, 0, none⟩) (xsl.length + 1) c2)).setCell ⟨lb, 2, none⟩ (.slice (some ⟨g3, 0, none⟩) (ysl.length + 1) c3) = W1 := ⟨_, rfl⟩
    have T1 := BT0.out.turnL DN.out
    have hW1' : (w3.setCell ⟨lb, 0, none⟩ (.slice (some ⟨g2, 0, none⟩) (xsl.length + 1) c2)).setCell ⟨lb, ix false, none⟩ (.slice (some ⟨g3, 0, none⟩) (ysl.length + 1) c3) = W1 := hW1
    rw [hW1'] at T1
    obtain ⟨bt1, mv1⟩ := T1
    have MV1 := Aside0.mk (MV0.out.trans mv1)
    have BT1 := Aside0.mk bt1
    rw [hW1]
    clear hW1 hW1' SA SX f0 f1 g0 g1 DN mv1 bt1 d0 d1 d2 r0 r1 r2 n0 l1 l2 hHeld
    have bt := BT1.out
    obtain ⟨c0, -, -⟩ := inner_cells (show W1.heap[b]? = some (.cells #[_, .slice none 0 0, _] 74 (0, 0)) from bt.hn)
    obtain ⟨r0, -, -⟩ := inner_cells (show W1.heap[rb]? = some (.cells #[_, .slice none 0 0, _] 74 (0, 0)) from bt.hr)
    have q0 := (bt.kr_.cellAt (i := 0) (u := .string us) rfl).1
    obtain ⟨oi, hoi⟩ : ∃ oi, xsn[i]? = some oi := ⟨_, List.getElem?_eq_getElem hA2.out.2.2.1⟩
    have n0 := (bt.kn_.cellAt hoi).1
    have nf := (bt.kn_.cellAt hoi).2
    clear bt hoi
    go_upto_region 2 with fail
    refine start_ (n := 13) (S := fun w' => w'.cell? ⟨b, 0, none⟩ = some (.slice (some ⟨gn, 0, none⟩) xsn.length ckn) ∧ w'.cell? ⟨rb, 0, none⟩ = some (.slice (some ⟨gr, 0, none⟩) n1 ckr) ∧ w'.cell? ⟨gr, 0, none⟩ = some (.string us)) (ds := [12]) (mK 13 0) (by kernel_rfl) rfl rfl ⟨c0, r0, q0⟩ (fun hHeld => ?_)
    refine with_tabW (T := (true, [([], []), ([0], [0]), ([1], [1]), ([2], [2]), ([], []), ([], []), ([5], [5]), ([6], [6]), ([7], [7]), ([8], [8]), ([9], [9]), ([3, 4, 0, 1, 2, 3, 4, 5, 6, 7, 8, 9, 10], [3, 4]), ([11, 10, 0, 1, 2, 3, 4, 5, 6, 7, 8, 9, 10], [10, 11])])) (B := [0, 1, 3, 7, 0, 0, 32, 96, 224, 480, 992, 2047, 4095]) (by kernel_rfl) (by kernel_rfl) (fun HT_ HW_ => ?_)
    refine pK 0 56 (mK 13 1) rfl rfl HT_ ?_
    refine pK 1 57 (mK 13 3) rfl rfl HT_ ?_
    refine pK 2 58 (mK 13 7) rfl rfl HT_ ?_
    refine pK 4 60 (mK 13 23) rfl rfl HT_ ?_
    refine pK 5 61 (mK 13 55) rfl rfl HT_ ?_
    refine pK 6 62 (mK 13 119) rfl rfl HT_ ?_
    refine pK 7 63 (mK 13 247) rfl rfl HT_ ?_
    refine take_ (i := 3) (N := some 59) (v := ?_) (a' := ?_) (mK 13 255) rfl rfl (take_ofW HT_.out HW_.out (by kernel_rfl)) (fun _ _ _ h => h) (Or.inl ⟨by rfl, ?_⟩) hHeld ?_ ?_
    rotate_left; focus (rintro w' ⟨s0, s1, s2⟩; go_simp; with_reducible rfl; done)
    rotate_left; focus (first | (simp only [Act.put, List.setIfInBounds_toArray, List.set_cons_zero, List.set_cons_succ, i64_w, i32_w]; rfl; done) | (rfl; done))
    refine take_ (i := 8) (N := some 64) (v := ?_) (a' := ?_) (mK 13 511) rfl rfl (take_ofW HT_.out HW_.out (by kernel_rfl)) (fun _ _ _ h => h) (Or.inl ⟨by rfl, ?_⟩) hHeld ?_ ?_
    rotate_left; focus (rintro w' ⟨s0, s1, s2⟩; go_simp; with_reducible rfl; done)
    rotate_left; focus (first | (simp only [Act.put, List.setIfInBounds_toArray, List.set_cons_zero, List.set_cons_succ, i64_w, i32_w]; rfl; done) | (rfl; done))
    refine pK 9 65 (mK 13 1023) rfl rfl HT_ ?_
    refine take_ (i := 10) (N := some 66) (v := ?_) (a' := ?_) (mK 13 2047) rfl rfl (take_ofW HT_.out HW_.out (by kernel_rfl)) (fun _ _ _ h => h) (Or.inl ⟨by rfl, ?_⟩) hHeld ?_ ?_
    rotate_left; focus (rintro w' ⟨s0, s1, s2⟩; go_simp; with_reducible rfl; done)
    rotate_left; focus (first | (simp only [Act.put, List.setIfInBounds_toArray, List.set_cons_zero, List.set_cons_succ, i64_w, i32_w]; rfl; done) | (rfl; done))
    refine pK 11 67 (mK 13 4095) rfl rfl HT_ ?_
    refine last_ (i := 12) (N := none) (mK 13 8191) rfl rfl (one_of HT_.out (by kernel_rfl)) (by decide) (fun K hK => ?_)
    focus
     go_simp
     skip
     refine hK.out _ _ ?_
     clear hK K
     refine done_ (done_of HT_.out (by kernel_rfl)) ?_
    have T2 := BT1.out.setN (i := i) (u := .string us) hA2.out.2.2.1 rfl
    obtain ⟨W2, hW2⟩ : ∃ W2, (W1.setCell ⟨gn, i, none⟩ (.string us)).drew = W2 := ⟨_, rfl⟩
    have BT2 : Aside0 (Bt false W2 b lb rb (.slice (some ⟨gn, 0, none⟩) xsn.length ckn) (.slice (some ⟨gc, 0, none⟩) ysn.length ccn) (.slice (some ⟨g2, 0, none⟩) (xsl.length + 1) c2) (.slice (some ⟨g3, 0, none⟩) (ysl.length + 1) c3) (.slice (some ⟨gr, 0, none⟩) n1 ckr) (.slice (some ⟨gy, 0, none⟩) n2 cxr) (xsn.set i (.string us)) ysn (xsl ++ [.string ss]) (ysl ++ [encP d]) (.string us :: xs2) (encP d :: ys2) R) := ⟨by rw [← hW2]; exact T2.1.step rfl⟩
    have MV2 : Aside0 (Mv (o3 b lb rb (.slice (some ⟨gn, 0, none⟩) xsn.length ckn) (.slice (some ⟨gc, 0, none⟩) ysn.length ccn) (.slice Al xsl.length ckl) (.slice (some ⟨ax, 0, none⟩) ysl.length cxl) (.slice (some ⟨gr, 0, none⟩) n1 ckr) (.slice (some ⟨gy, 0, none⟩) n2 cxr)) w (o3 b lb rb (.slice (some ⟨gn, 0, none⟩) xsn.length ckn) (.slice (some ⟨gc, 0, none⟩) ysn.length ccn) (.slice (some ⟨g2, 0, none⟩) (xsl.length + 1) c2) (.slice (some ⟨g3, 0, none⟩) (ysl.length + 1) c3) (.slice (some ⟨gr, 0, none⟩) n1 ckr) (.slice (some ⟨gy, 0, none⟩) n2 cxr)) W2) := ⟨by rw [← hW2]; exact MV1.out.trans (T2.2.trans ⟨(Fr.refl _ _).drew, fun k hk => .inl hk⟩)⟩
    rw [hW2]
    clear T2 hW2 c0 r0 q0 n0 nf hHeld
    have bt := BT2.out
    obtain ⟨r0, r1, r2⟩ := inner_cells (show W2.heap[rb]? = some (.cells #[_, .slice none 0 0, _] 74 (0, 0)) from bt.hr)
    have TW2 := Aside0.mk bt.twoR
    clear bt
    have cK : Aside0 (∀ W, Below W2.heap.size W2 W → Calls Try.prog 45 #[.slice (some ⟨gr, 0, none⟩) n1 ckr, .int .i64 0, .int .i64 1] W fun e w2 => ∃ g c, e = .returned (.slice (some ⟨g, 0, none⟩) (n1 - 1) c) ∧ Step1 9 W2 W w2 (.slice (some ⟨gr, 0, none⟩) n1 ckr) (.slice (some ⟨g, 0, none⟩) (n1 - 1) c) xs2) := ⟨fun W hW =>
      (delS (i := 0) (BT2.out.kr_.below hW) (by have := hA3.out; omega) (by have := hA3.out; have := hA4.out.2; omega) (by have := hA3.out; have := hA1.out; omega)).mono (fun e w2 ⟨g, c, h1, h2⟩ => ⟨g, c, h1, hW, h2⟩)⟩
    have cV : Aside0 (∀ w2 g c W WQ, Step1 9 W2 W w2 (.slice (some ⟨gr, 0, none⟩) n1 ckr) (.slice (some ⟨g, 0, none⟩) (n1 - 1) c) xs2 → Below w2.heap.size w2 WQ → Calls Try.prog 58 #[.slice (some ⟨gy, 0, none⟩) n2 cxr, .int .i64 0, .int .i64 1] WQ fun e w3 => ∃ g' c', e = .returned (.slice (some ⟨g', 0, none⟩) (n2 - 1) c') ∧ Done 9 70 W2 w3 rb (.slice (some ⟨gr, 0, none⟩) n1 ckr) (.slice (some ⟨g, 0, none⟩) (n1 - 1) c) xs2 (.slice (some ⟨gy, 0, none⟩) n2 cxr) (.slice (some ⟨g', 0, none⟩) (n2 - 1) c') ys2 (oN b (.slice (some ⟨gn, 0, none⟩) xsn.length ckn) (.slice (some ⟨gc, 0, none⟩) ysn.length ccn) ++ (oN lb (.slice (some ⟨g2, 0, none⟩) (xsl.length + 1) c2) (.slice (some ⟨g3, 0, none⟩) (ysl.length + 1) c3) ++ R)))   := ⟨fun w2 g c W WQ s1 hW =>
      (delN (i := 0) ((s1.row BT2.out.xr_ TW2.out).below hW) (by have := hA3.out; omega) (by have := hA3.out; have := hA2.out.2.2.2; omega) (by have := hA3.out; have := hA1.out; omega)).mono (fun e w3 ⟨g', c', h1, h2⟩ => ⟨g', c', h1, Step2.done ⟨s1, hW, h2⟩ TW2.out⟩)⟩
    go_upto_region 3 with fail
    refine start_ (n := 18) (S := fun w' => w'.cell? ⟨rb, 0, none⟩ = some (.slice (some ⟨gr, 0, none⟩) n1 ckr) ∧ w'.cell? ⟨rb, 2, none⟩ = some (.slice (some ⟨gy, 0, none⟩) n2 cxr)) (ds := [14, 17]) (mK 18 0) (by kernel_rfl) rfl rfl ⟨r0, r2⟩ (fun hHeld => ?_)
    refine with_tabW (T := (true, [([], []), ([], []), ([], []), ([2], [2]), ([3], [3]), ([4], [4]), ([5], [5]), ([], []), ([7], [7]), ([8], [8]), ([9], [9]), ([10, 6], [10]), ([0, 0, 2, 3, 4, 5, 6, 10, 11], [0]), ([12, 0, 2, 3, 4, 5, 6, 10, 11], [12]), ([13, 6, 11, 0, 2, 3, 4, 5, 6, 10, 11], [6, 13]), ([1, 0, 1, 2, 3, 4, 5, 6, 7, 8, 9, 10, 11, 12, 13, 14], [1]), ([15, 0, 1, 2, 3, 4, 5, 6, 7, 8, 9, 10, 11, 12, 13, 14], [15]), ([16, 11, 14, 0, 1, 2, 3, 4, 5, 6, 7, 8, 9, 10, 11, 12, 13, 14], [11, 16])])) (B := [0, 0, 0, 4, 12, 28, 60, 0, 128, 384, 896, 2044, 4093, 8189, 16381, 32767, 65535, 131071]) (by kernel_rfl) (by kernel_rfl) (fun HT_ HW_ => ?_)
    refine pK 0 68 (mK 18 1) rfl rfl HT_ ?_
    refine pK 1 69 (mK 18 3) rfl rfl HT_ ?_
    refine pK 2 70 (mK 18 7) rfl rfl HT_ ?_
    refine pK 3 71 (mK 18 15) rfl rfl HT_ ?_
    refine pK 4 72 (mK 18 31) rfl rfl HT_ ?_
    refine pK 7 75 (mK 18 159) rfl rfl HT_ ?_
    refine pK 8 76 (mK 18 415) rfl rfl HT_ ?_
    refine pK 9 77 (mK 18 927) rfl rfl HT_ ?_
    refine take_ (i := 5) (N := some 73) (v := ?_) (a' := ?_) (mK 18 959) rfl rfl (take_ofW HT_.out HW_.out (by kernel_rfl)) (fun _ _ _ h => h) (Or.inl ⟨by rfl, ?_⟩) hHeld ?_ ?_
    rotate_left; focus (rintro w' ⟨s0, s1⟩; go_simp; with_reducible rfl; done)
    rotate_left; focus (first | (simp only [Act.put, List.setIfInBounds_toArray, List.set_cons_zero, List.set_cons_succ, i64_w, i32_w]; rfl; done) | (rfl; done))
    refine take_ (i := 10) (N := some 78) (v := ?_) (a' := ?_) (mK 18 1983) rfl rfl (take_ofW HT_.out HW_.out (by kernel_rfl)) (fun _ _ _ h => h) (Or.inl ⟨by rfl, ?_⟩) hHeld ?_ ?_
    rotate_left; focus (rintro w' ⟨s0, s1⟩; go_simp; with_reducible rfl; done)
    rotate_left; focus (first | (simp only [Act.put, List.setIfInBounds_toArray, List.set_cons_zero, List.set_cons_succ, i64_w, i32_w]; rfl; done) | (rfl; done))
    refine one_ (i := 6) (N := some 74) (mK 18 2047) rfl rfl (one_of HT_.out (by kernel_rfl)) (by decide) (fun K hK => ?_)
    focus
     go_simp
     refine (cK.out _ ?_).mono ?_
     exact (by first | exact below_drew1 (Below.refl _ _) | exact Below.refl _ _)
     rintro e w2 ⟨g4, c4, rfl, s1⟩
     have S1 := Aside0.mk s1
     have HB2 := Aside0.mk (s1.blk BT2.out.hr TW2.out)
     clear s1
     go_simp
     refine hK.out _ _ ⟨(inner_cells HB2.out).1, (inner_cells HB2.out).2.2⟩ (fun hHeld => ?_)
     clear hK K
     refine one_ (i := 11) (N := some 79) (mK 18 4095) rfl rfl (one_of HT_.out (by kernel_rfl)) (by decide) (fun K hK => ?_)
     focus
      go_simp
      refine (cV.out _ _ _ _ _ S1.out ?_).mono ?_
      exact Below.refl _ _
      rintro e w3 ⟨g5, c5, rfl, dn⟩
      have DN := Aside0.mk dn
      have HB3 := Aside0.mk (dn.blk TW2.out BT2.out.hr)
      have f0 := blk_frozen HB3.out 0
      have f1 := blk_frozen HB3.out 2
      have g0 := (inner_cells HB3.out).1
      have g1 := (inner_cells HB3.out).2.2
      clear dn
      go_simp
      refine hK.out _ _ ⟨g0, g1⟩ (fun hHeld => ?_)
      clear hK K
      refine pK 12 80 (mK 18 8191) rfl rfl HT_ ?_
      refine pK 13 81 (mK 18 16383) rfl rfl HT_ ?_
      refine last_ (i := 14) (N := none) (mK 18 32767) rfl rfl (one_of HT_.out (by kernel_rfl)) (by decide) (fun K hK => ?_)
      focus
       go_simp
       skip
       refine hK.out _ _ ?_
       clear hK K
       refine pK 15 82 (mK 18 65535) rfl rfl HT_ ?_
       refine pK 16 83 (mK 18 131071) rfl rfl HT_ ?_
       refine last_ (i := 17) (N := none) (mK 18 262143) rfl rfl (one_of HT_.out (by kernel_rfl)) (by decide) (fun K hK => ?_)
       focus
        go_simp
        skip
        refine hK.out _ _ ?_
        clear hK K
        refine done_ (done_of HT_.out (by kernel_rfl)) ?_
    obtain ⟨W3, hW1⟩ : ∃ W2, (w3.setCell ⟨rb, 0, none⟩ (.slice (some ⟨g4, 0, none⟩) (n1 - 1) c4)).setCell ⟨rb, 2, none⟩ (.slice (some ⟨g5, 0, none⟩) (n2 - 1) c5) = W2 := ⟨_, rfl⟩
    have T1 := BT2.out.turnR DN.out
    have hW1' : (w3.setCell ⟨rb, 0, none⟩ (.slice (some ⟨g4, 0, none⟩) (n1 - 1) c4)).setCell ⟨rb, ix false, none⟩ (.slice (some ⟨g5, 0, none⟩) (n2 - 1) c5) = W3 := hW1
    rw [hW1'] at T1
    obtain ⟨bt1, mv1⟩ := T1
    have MV3 := Aside0.mk (MV2.out.trans mv1)
    have BT3 := Aside0.mk bt1
    rw [hW1]
    go_wp2
    go_end0
    exact ⟨rfl, _, _, _, _, _, _, BT3.out, MV3.out⟩
end Go.Proofs.YtmomohljnmopfaaX
end
