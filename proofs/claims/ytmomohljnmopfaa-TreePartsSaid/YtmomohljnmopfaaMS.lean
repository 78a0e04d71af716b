/- Several texts in one: UE; no conditions beyond those in each theorem's head. -/
import Derived.Test.YtmomohljnmopfaaMC
import Derived.Test.YtmomohljnmopfaaPK
section
namespace Go.Proofs.YtmomohljnmopfaaX
open Go.RowKit Go.Lib Go.Proofs.YtmomohljnmopfaaW.PrintWords Go.Proofs.YtmomohljnmopfaaW.PrintLast Go.Proofs.YtmomohljnmopfaaW.PrintMore
set_option linter.unusedVariables false
set_option linter.unusedSimpArgs false
attribute [local go_sem high] eqlNil71 eqlNil72
set_option maxRecDepth 100000 in
set_option maxHeartbeats 8000000 in
theorem bor3 {w : World} {b lb rb i d : Nat} {kn cn kl xl kr xr : Value} {xsn ysn xsl ysl xsr ysr : List Value} {us ss : ByteArray} {R : List Nat} (bt : Bt false w b lb rb kn cn kl xl kr xr xsn ysn (xsl ++ [.string us]) (ysl ++ [encP d]) xsr ysr R) (hlb : ysn[i]? = some (encP lb)) (hrb : ysn[i + 1]? = some (encP rb)) (hs : xsn[i]? = some (.string ss))
    (hxy : xsl.length + 1 = ysl.length) (b1 : ysn.length ≤ 1000) (b2 : ysl.length ≤ 1000) (b3 : xsr.length ≤ 1000) (b4 : ysr.length ≤ 1000) :
    Calls Try.prog 51 #[.pointer (some ⟨b, 0, none⟩), .int .i64 i, .bool true] w fun e w' => e = .returned (.tuple #[]) ∧ ∃ kn' cn' kl' xl' kr' xr', Bt false w' b lb rb kn' cn' kl' xl' kr' xr' (xsn.set i (.string us)) ysn xsl ysl (.string ss :: xsr) (encP d :: ysr) R ∧ Mv (o3 b lb rb kn cn kl xl kr xr) w (o3 b lb rb kn' cn' kl' xl' kr' xr') w' := by
  have hi := (List.getElem?_eq_some_iff.1 hs).1
  obtain ⟨gn, ckn, rfl⟩ := row_some bt.kn_ (by omega)
  obtain ⟨gc, ccn, rfl⟩ := row_some bt.cn_ (by have := (List.getElem?_eq_some_iff.1 hlb).1; omega)
  obtain ⟨gl, ckl, rfl⟩ := row_some bt.kl_ (by simp)
  obtain ⟨gx, cxl, rfl⟩ := row_some bt.xl_ (by simp)
  obtain ⟨Ak, ckr, rfl, hckr, -⟩ := bt.kr_.shape
  obtain ⟨Ax, cxr, rfl, hcxr, -⟩ := bt.xr_.shape
  have hl1 : (xsl ++ [Value.string us]).length = xsl.length + 1 := by simp
  have hl2 : (ysl ++ [encP d]).length = ysl.length + 1 := by simp
  obtain ⟨n1, hn1⟩ : ∃ n1, (xsl ++ [Value.string us]).length = n1 := ⟨_, rfl⟩
  obtain ⟨n2, hn2⟩ : ∃ n2, (ysl ++ [encP d]).length = n2 := ⟨_, rfl⟩
  rw [hn1, hn2] at bt ⊢
  have BT := Aside0.mk bt
  have hil := (List.getElem?_eq_some_iff.1 hrb).1
  obtain ⟨c0, c1, c2⟩ := inner_cells (show w.heap[b]? = some (.cells #[_, .slice none 0 0, _] 74 (0, 0)) from bt.hn)
  obtain ⟨d0, d1, d2⟩ := inner_cells (show w.heap[lb]? = some (.cells #[_, .slice none 0 0, _] 74 (0, 0)) from bt.hl)
  have k1 := (bt.cn_.cellAt hlb).1
  have k2 := (bt.cn_.cellAt hrb).1
  have hA1 := Aside0.mk (And.intro hxy (And.intro b1 (And.intro b2 (And.intro b3 b4))))
  have hA2 := Aside0.mk (And.intro hlb (And.intro hrb (And.intro hi hs)))
  have hA3 := Aside0.mk (And.intro hn1 hn2)
  have e3 : (i : Int) < (ysn.length : Int) := by omega
  have e4 : (i : Int) + 1 < (ysn.length : Int) := by omega
  have e5 : IntKind.i64.wrap ((i : Int) + 1) = (i : Int) + 1 := by rw [i64_w]; unfold wrap64; omega
  have e6 : ((i : Int) + 1).toNat = i + 1 := by omega
  have e7 : (0 : Int) ≤ (i : Int) + 1 := by omega
  have e8 : IntKind.i64.wrap ((n2 : Int) - 1) = (ysl.length : Int) := by rw [i64_w]; unfold wrap64; omega
  have e9 : (ysl.length : Int) < (n2 : Int) := by omega
  have e12 : IntKind.i64.wrap ((ysl.length : Int) - 1) = (xsl.length : Int) := by rw [i64_w]; unfold wrap64; omega
  have e13 : (xsl.length : Int) < (n1 : Int) := by omega
  have e10 : (i : Int) < (xsn.length : Int) := by omega
  have q1 : (xsl.length : Int) ≤ (ckl : Int) := by have h9 := bt.kl_.cap; omega
  have q2 : (ysl.length : Int) ≤ (cxl : Int) := by have h9 := bt.xl_.cap; omega
  clear bt hlb hrb hi hs hxy b1 b2 b3 b4 hl1 hl2 hil hckr hcxr hn1 hn2
  unfold encP at k1 k2
  go_enter Try.func51, Try.ntmps51
  go_upto_region 0 with fail
  go_quiet (fail)
  go_upto_region 15 with fail
  obtain ⟨W0, hW0⟩ : ∃ W0, w.drewN nq = W0 := ⟨_, rfl⟩
  have BT0 : Aside0 (Bt false W0 b lb rb (.slice (some ⟨gn, 0, none⟩) xsn.length ckn) (.slice (some ⟨gc, 0, none⟩) ysn.length ccn) (.slice (some ⟨gl, 0, none⟩) n1 ckl) (.slice (some ⟨gx, 0, none⟩) n2 cxl) (.slice Ak xsr.length ckr) (.slice Ax ysr.length cxr) xsn ysn (xsl ++ [.string us]) (ysl ++ [encP d]) xsr ysr R) := ⟨BT.out.step (by rw [← hW0]; rfl)⟩
  have MV0 : Aside0 (Mv (o3 b lb rb (.slice (some ⟨gn, 0, none⟩) xsn.length ckn) (.slice (some ⟨gc, 0, none⟩) ysn.length ccn) (.slice (some ⟨gl, 0, none⟩) n1 ckl) (.slice (some ⟨gx, 0, none⟩) n2 cxl) (.slice Ak xsr.length ckr) (.slice Ax ysr.length cxr)) w (o3 b lb rb (.slice (some ⟨gn, 0, none⟩) xsn.length ckn) (.slice (some ⟨gc, 0, none⟩) ysn.length ccn) (.slice (some ⟨gl, 0, none⟩) n1 ckl) (.slice (some ⟨gx, 0, none⟩) n2 cxl) (.slice Ak xsr.length ckr) (.slice Ax ysr.length cxr)) W0) := ⟨by rw [← hW0]; exact Mv.drewN _ _ _⟩
  rw [hW0]
  have bt := BT0.out
  clear c0 c1 c2 d0 d1 d2 k1 k2 hW0 BT
  obtain ⟨c0, -, -⟩ := inner_cells (show W0.heap[b]? = some (.cells #[_, .slice none 0 0, _] 74 (0, 0)) from bt.hn)
  obtain ⟨-, -, d2⟩ := inner_cells (show W0.heap[lb]? = some (.cells #[_, .slice none 0 0, _] 74 (0, 0)) from bt.hl)
  obtain ⟨r0, -, r2⟩ := inner_cells (show W0.heap[rb]? = some (.cells #[_, .slice none 0 0, _] 74 (0, 0)) from bt.hr)
  have l1 := (bt.kn_.cellAt hA2.out.2.2.2).1
  have l2 := (bt.xl_.cellAt (i := ysl.length) (u := encP d) (by simp)).1
  unfold encP at l2
  have TW := Aside0.mk bt.twoR
  have hN : Aside0 (∀ g ∈ [rb, lb, b, gn, gx], g ∉ (Value.slice Ak xsr.length ckr).ownBlock.toList ++ (Value.slice Ax ysr.length cxr).ownBlock.toList) := ⟨fun g hg hx => by
    have h9 : (((Value.slice Ak xsr.length ckr).ownBlock.toList ++ (Value.slice Ax ysr.length cxr).ownBlock.toList) ++ ([rb, lb, b, gn, gx] ++ (gl :: gc :: R))).Nodup := nd_perm bt.nd (fun a => by simp only [oN, Value.ownBlock, Option.toList_some, List.count_append, List.count_cons, List.count_nil]; omega)
    exact (List.nodup_append.1 h9).2.2 g hx g (List.mem_append_left _ hg) rfl⟩
  have cK : Aside0 (∀ W vb, Below W0.heap.size W0 W → W.heap[vb]? = some (.cells #[.string ss] 9 (0, 0)) → W0.heap.size ≤ vb → Calls Try.prog 47 #[.slice Ak xsr.length ckr, .int .i64 0, .slice (some ⟨vb, 0, none⟩) 1 1] W fun e w2 => ∃ g c, e = .returned (.slice (some ⟨g, 0, none⟩) (xsr.length + 1) c) ∧ Step1 9 W0 W w2 (.slice Ak xsr.length ckr) (.slice (some ⟨g, 0, none⟩) (xsr.length + 1) c) (.string ss :: xsr)) := ⟨fun W vb hW hvb hvl =>
    (ins0S (BT0.out.kr_.below hW) hvb hvl TW.out.klt hA1.out.2.2.2.1).mono (fun e w2 ⟨g, c, h1, h2⟩ => ⟨g, c, h1, hW, h2⟩)⟩
  have cV : Aside0 (∀ w2 g c W W2 vb, Step1 9 W0 W w2 (.slice Ak xsr.length ckr) (.slice (some ⟨g, 0, none⟩) (xsr.length + 1) c) (.string ss :: xsr) → Below w2.heap.size w2 W2 → W2.heap[vb]? = some (.cells #[.pointer (some ⟨d, 0, none⟩)] 70 (0, 0)) → W0.heap.size ≤ vb → Calls Try.prog 48 #[.slice Ax ysr.length cxr, .int .i64 0, .slice (some ⟨vb, 0, none⟩) 1 1] W2 fun e w3 => ∃ g' c', e = .returned (.slice (some ⟨g', 0, none⟩) (ysr.length + 1) c') ∧ Done 9 70 W0 w3 rb (.slice Ak xsr.length ckr) (.slice (some ⟨g, 0, none⟩) (xsr.length + 1) c) (.string ss :: xsr) (.slice Ax ysr.length cxr) (.slice (some ⟨g', 0, none⟩) (ysr.length + 1) c') (encP d :: ysr) (oN b (.slice (some ⟨gn, 0, none⟩) xsn.length ckn) (.slice (some ⟨gc, 0, none⟩) ysn.length ccn) ++ (oN lb (.slice (some ⟨gl, 0, none⟩) n1 ckl) (.slice (some ⟨gx, 0, none⟩) n2 cxl) ++ R))) := ⟨fun w2 g c W W2 vb s1 hW hvb hvl =>
    (ins0N (w := W0) ((s1.row BT0.out.xr_ TW.out).below hW) hvb hvl TW.out.clt hA1.out.2.2.2.2).mono (fun e w3 ⟨g', c', h1, h2⟩ => ⟨g', c', h1, Step2.done ⟨s1, hW, h2⟩ TW.out⟩)⟩
  clear bt
  refine start_ (n := 34) (S := fun w' => w'.cell? ⟨rb, 0, none⟩ = some (.slice Ak xsr.length ckr) ∧ w'.cell? ⟨rb, 2, none⟩ = some (.slice Ax ysr.length cxr) ∧ w'.cell? ⟨b, 0, none⟩ = some (.slice (some ⟨gn, 0, none⟩) xsn.length ckn) ∧ w'.cell? ⟨lb, 2, none⟩ = some (.slice (some ⟨gx, 0, none⟩) n2 cxl) ∧ w'.cell? ⟨gn, i, none⟩ = some (.string ss) ∧ w'.cell? ⟨gx, ysl.length, none⟩ = some (.pointer (some ⟨d, 0, none⟩))) (ds := [30, 33]) (mK 34 0) (by kernel_rfl) rfl rfl ⟨r0, r2, c0, d2, l1, l2⟩ (fun hHeld => ?_)
  refine with_tabW (T := (true, [([], []), ([], []), ([], []), ([2], [2]), ([3], [3]), ([4], [4]), ([], []), ([6], [6]), ([7], [7]), ([8], [8]), ([], []), ([9, 10], [9, 10]), ([11], [11]), ([12], [12]), ([5, 13], [5, 13]), ([], []), ([15], [15]), ([16], [16]), ([17], [17]), ([], []), ([19], [19]), ([20], [20]), ([21], [21]), ([], []), ([22, 23], [22, 23]), ([24], [24]), ([25], [25]), ([18, 26, 14], [18, 26]), ([0, 0, 2, 3, 4, 5, 6, 7, 8, 9, 10, 11, 12, 13, 14, 18, 22, 25, 27], [0]), ([28, 0, 2, 3, 4, 5, 6, 7, 8, 9, 10, 11, 12, 13, 14, 18, 22, 25, 27], [28]), ([29, 14, 27, 0, 2, 3, 4, 5, 6, 7, 8, 9, 10, 11, 12, 13, 14, 18, 22, 25, 27], [14, 29]), ([1, 0, 1, 2, 3, 4, 5, 6, 7, 8, 9, 10, 11, 12, 13, 14, 15, 16, 17, 18, 19, 20, 21, 22, 23, 24, 25, 26, 27, 28, 29, 30], [1]), ([31, 0, 1, 2, 3, 4, 5, 6, 7, 8, 9, 10, 11, 12, 13, 14, 15, 16, 17, 18, 19, 20, 21, 22, 23, 24, 25, 26, 27, 28, 29, 30], [31]), ([32, 27, 30, 0, 1, 2, 3, 4, 5, 6, 7, 8, 9, 10, 11, 12, 13, 14, 15, 16, 17, 18, 19, 20, 21, 22, 23, 24, 25, 26, 27, 28, 29, 30], [27, 32])])) (B := [0, 0, 0, 4, 12, 28, 0, 64, 192, 448, 0, 1984, 4032, 8128, 16380, 0, 32768, 98304, 229376, 0, 524288, 1572864, 3670016, 0, 16252928, 33030144, 66584576, 134217724, 268435453, 536870909, 1073741821, 2147483647, 4294967295, 8589934591]) (by kernel_rfl) (by kernel_rfl) (fun HT_ HW_ => ?_)
  refine pK 0 233 (mK 34 1) rfl rfl HT_ ?_
  refine pK 1 234 (mK 34 3) rfl rfl HT_ ?_
  refine pK 2 235 (mK 34 7) rfl rfl HT_ ?_
  refine pK 3 236 (mK 34 15) rfl rfl HT_ ?_
  refine pK 4 237 (mK 34 31) rfl rfl HT_ ?_
  refine pK 6 239 (mK 34 95) rfl rfl HT_ ?_
  refine pK 7 240 (mK 34 223) rfl rfl HT_ ?_
  refine pK 8 241 (mK 34 479) rfl rfl HT_ ?_
  refine pK 10 243 (mK 34 1503) rfl rfl HT_ ?_
  refine pK 15 248 (mK 34 34271) rfl rfl HT_ ?_
  refine pK 16 249 (mK 34 99807) rfl rfl HT_ ?_
  refine pK 17 250 (mK 34 230879) rfl rfl HT_ ?_
  refine pK 19 252 (mK 34 755167) rfl rfl HT_ ?_
  refine pK 20 253 (mK 34 1803743) rfl rfl HT_ ?_
  refine pK 21 254 (mK 34 3900895) rfl rfl HT_ ?_
  refine pK 23 256 (mK 34 12289503) rfl rfl HT_ ?_
  refine take_ (i := 5) (N := some 238) (v := ?_) (a' := ?_) (mK 34 12289535) rfl rfl (take_ofW HT_.out HW_.out (by kernel_rfl)) (fun _ _ _ h => h) (Or.inl ⟨by rfl, ?_⟩) hHeld ?_ ?_
  rotate_left; focus (rintro w' ⟨s0, s1, s2, s3, s4, s5⟩; go_simp; with_reducible rfl; done)
  rotate_left; focus (first | (simp only [Act.put, List.setIfInBounds_toArray, List.set_cons_zero, List.set_cons_succ, i64_w, i32_w]; rfl; done) | (rfl; done))
  refine take_ (i := 9) (N := some 242) (v := ?_) (a' := ?_) (mK 34 12290047) rfl rfl (take_ofW HT_.out HW_.out (by kernel_rfl)) (fun _ _ _ h => h) (Or.inl ⟨by rfl, ?_⟩) hHeld ?_ ?_
  rotate_left; focus (rintro w' ⟨s0, s1, s2, s3, s4, s5⟩; go_simp; with_reducible rfl; done)
  rotate_left; focus (first | (simp only [Act.put, List.setIfInBounds_toArray, List.set_cons_zero, List.set_cons_succ, i64_w, i32_w]; rfl; done) | (rfl; done))
  refine pK 11 244 (mK 34 12292095) rfl rfl HT_ ?_
  refine take_ (i := 12) (N := some 245) (v := ?_) (a' := ?_) (mK 34 12296191) rfl rfl (take_ofW HT_.out HW_.out (by kernel_rfl)) (fun _ _ _ h => h) (Or.inl ⟨by rfl, ?_⟩) hHeld ?_ ?_
  rotate_left; focus (rintro w' ⟨s0, s1, s2, s3, s4, s5⟩; go_simp; with_reducible rfl; done)
  rotate_left; focus (first | (simp only [Act.put, List.setIfInBounds_toArray, List.set_cons_zero, List.set_cons_succ, i64_w, i32_w]; rfl; done) | (rfl; done))
  refine take_ (i := 18) (N := some 251) (v := ?_) (a' := ?_) (mK 34 12558335) rfl rfl (take_ofW HT_.out HW_.out (by kernel_rfl)) (fun _ _ _ h => h) (Or.inl ⟨by rfl, ?_⟩) hHeld ?_ ?_
  rotate_left; focus (rintro w' ⟨s0, s1, s2, s3, s4, s5⟩; go_simp; with_reducible rfl; done)
  rotate_left; focus (first | (simp only [Act.put, List.setIfInBounds_toArray, List.set_cons_zero, List.set_cons_succ, i64_w, i32_w]; rfl; done) | (rfl; done))
  refine take_ (i := 22) (N := some 255) (v := ?_) (a' := ?_) (mK 34 16752639) rfl rfl (take_ofW HT_.out HW_.out (by kernel_rfl)) (fun _ _ _ h => h) (Or.inl ⟨by rfl, ?_⟩) hHeld ?_ ?_
  rotate_left; focus (rintro w' ⟨s0, s1, s2, s3, s4, s5⟩; go_simp; with_reducible rfl; done)
  rotate_left; focus (first | (simp only [Act.put, List.setIfInBounds_toArray, List.set_cons_zero, List.set_cons_succ, i64_w, i32_w]; rfl; done) | (rfl; done))
  refine pK 24 257 (mK 34 33529855) rfl rfl HT_ ?_
  refine take_ (i := 25) (N := some 258) (v := ?_) (a' := ?_) (mK 34 67084287) rfl rfl (take_ofW HT_.out HW_.out (by kernel_rfl)) (fun _ _ _ h => h) (Or.inl ⟨by rfl, ?_⟩) hHeld ?_ ?_
  rotate_left; focus (rintro w' ⟨s0, s1, s2, s3, s4, s5⟩; go_simp; with_reducible rfl; done)
  rotate_left; focus (first | (simp only [Act.put, List.setIfInBounds_toArray, List.set_cons_zero, List.set_cons_succ, i64_w, i32_w]; rfl; done) | (rfl; done))
  refine two_ (i := 13) (j := 26) (mK 34 67092479) (mK 34 134193151) rfl rfl rfl rfl (two_of HT_.out (by kernel_rfl)) (by decide) (by decide) (fun K hK => ?_) (fun K hK => ?_)
  focus
   go_simp
   refine hK.out _ _ ⟨cell_alloc hHeld.1 _, cell_alloc hHeld.2.1 _, cell_alloc hHeld.2.2.1 _, cell_alloc hHeld.2.2.2.1 _, cell_alloc hHeld.2.2.2.2.1 _, cell_alloc hHeld.2.2.2.2.2 _⟩ (fun hHeld => ?_)
   clear hK K
   refine two_ (i := 14) (j := 26) (mK 34 67108863) (mK 34 134201343) rfl rfl rfl rfl (two_of HT_.out (by kernel_rfl)) (by decide) (by decide) (fun K hK => ?_) (fun K hK => ?_)
   focus
    go_simp
    refine (cK.out _ _ ?_ ?_ ?_).mono ?_
    exact (by first | exact below_drew1 (below_alloc (Below.refl _ _) _) | exact below_drew1 (below_alloc (below_alloc (Below.refl _ _) _) _))
    exact (by first | exact blk_new _ _ | exact blk_new2 _ _ _ | exact blk_alloc (blk_new _ _) _)
    exact (by first | exact Nat.le_refl _ | exact Nat.le_succ _)
    rintro e w2 ⟨g2, c2, rfl, s1⟩
    have S1 := Aside0.mk s1
    have h20 := s1.fr.cell r0 (fun h9 => hN.out rb (by simp) (List.mem_append_left _ h9))
    have h21 := s1.fr.cell r2 (fun h9 => hN.out rb (by simp) (List.mem_append_left _ h9))
    have h22 := s1.fr.cell c0 (fun h9 => hN.out b (by simp) (List.mem_append_left _ h9))
    have h23 := s1.fr.cell d2 (fun h9 => hN.out lb (by simp) (List.mem_append_left _ h9))
    have h24 := s1.fr.cell l1 (fun h9 => hN.out gn (by simp) (List.mem_append_left _ h9))
    have h25 := s1.fr.cell l2 (fun h9 => hN.out gx (by simp) (List.mem_append_left _ h9))
    have S20 := Aside0.mk (And.intro h20 (And.intro h21 (And.intro h22 (And.intro h23 (And.intro h24 h25)))))
    clear s1 h20 h21 h22 h23 h24 h25
    go_simp
    refine hK.out _ _ S20.out (fun hHeld => ?_)
    clear hK K
    refine one_ (i := 26) (N := some 259) (mK 34 134217727) rfl rfl (one_of HT_.out (by kernel_rfl)) (by decide) (fun K hK => ?_)
    focus
     go_simp
     refine hK.out _ _ ⟨cell_alloc hHeld.1 _, cell_alloc hHeld.2.1 _, cell_alloc hHeld.2.2.1 _, cell_alloc hHeld.2.2.2.1 _, cell_alloc hHeld.2.2.2.2.1 _, cell_alloc hHeld.2.2.2.2.2 _⟩ (fun hHeld => ?_)
     clear hK K
     refine one_ (i := 27) (N := some 260) (mK 34 268435455) rfl rfl (one_of HT_.out (by kernel_rfl)) (by decide) (fun K hK => ?_)
     focus
      go_simp
      refine (cV.out _ _ _ _ _ _ S1.out ?_ ?_ ?_).mono ?_
      exact (by first | exact Below.refl _ _ | exact below_alloc (Below.refl _ _) _)
      exact (by first | exact blk_new _ _ | exact S1.out.new (by first | exact blk_new _ _ | exact blk_new2 _ _ _ | exact blk_alloc (blk_new _ _) _) (by first | exact Nat.le_refl _ | exact Nat.le_succ _) TW.out.klt)
      exact (by first | exact Nat.le_refl _ | exact Nat.le_succ _ | exact S1.out.size)
      rintro e w3 ⟨g3, c3, rfl, dn⟩
      have DN := Aside0.mk dn
      have h30 := dn.fr.cell r0 (hN.out rb (by simp))
      have h31 := dn.fr.cell r2 (hN.out rb (by simp))
      have h32 := dn.fr.cell c0 (hN.out b (by simp))
      have h33 := dn.fr.cell d2 (hN.out lb (by simp))
      have h34 := dn.fr.cell l1 (hN.out gn (by simp))
      have h35 := dn.fr.cell l2 (hN.out gx (by simp))
      have S30 := Aside0.mk (And.intro h30 (And.intro h31 (And.intro h32 (And.intro h33 (And.intro h34 h35)))))
      have f0 := blk_frozen (dn.blk TW.out BT0.out.hr) 0
      have f1 := blk_frozen (dn.blk TW.out BT0.out.hr) 2
      clear dn h32 h33 h34 h35
      go_simp
      refine hK.out _ _ S30.out (fun hHeld => ?_)
      clear hK K
      refine pK 28 261 (mK 34 536870911) rfl rfl HT_ ?_
      refine pK 29 262 (mK 34 1073741823) rfl rfl HT_ ?_
      refine last_ (i := 30) (N := none) (mK 34 2147483647) rfl rfl (one_of HT_.out (by kernel_rfl)) (by decide) (fun K hK => ?_)
      focus
       go_simp
       skip
       refine hK.out _ _ ?_
       clear hK K
       refine pK 31 263 (mK 34 4294967295) rfl rfl HT_ ?_
       refine pK 32 264 (mK 34 8589934591) rfl rfl HT_ ?_
       refine last_ (i := 33) (N := none) (mK 34 17179869183) rfl rfl (one_of HT_.out (by kernel_rfl)) (by decide) (fun K hK => ?_)
       focus
        go_simp
        skip
        refine hK.out _ _ ?_
        clear hK K
        refine done_ (done_of HT_.out (by kernel_rfl)) ?_
   rotate_left 1
   focus
    go_simp
    refine hK.out _ _ ⟨cell_alloc hHeld.1 _, cell_alloc hHeld.2.1 _, cell_alloc hHeld.2.2.1 _, cell_alloc hHeld.2.2.2.1 _, cell_alloc hHeld.2.2.2.2.1 _, cell_alloc hHeld.2.2.2.2.2 _⟩ (fun hHeld => ?_)
    clear hK K
    refine one_ (i := 14) (N := some 247) (mK 34 134217727) rfl rfl (one_of HT_.out (by kernel_rfl)) (by decide) (fun K hK => ?_)
    focus
     go_simp
     refine (cK.out _ _ ?_ ?_ ?_).mono ?_
     exact (by first | exact below_drew1 (below_alloc (Below.refl _ _) _) | exact below_drew1 (below_alloc (below_alloc (Below.refl _ _) _) _))
     exact (by first | exact blk_new _ _ | exact blk_new2 _ _ _ | exact blk_alloc (blk_new _ _) _)
     exact (by first | exact Nat.le_refl _ | exact Nat.le_succ _)
     rintro e w2 ⟨g2, c2, rfl, s1⟩
     have S1 := Aside0.mk s1
     have h20 := s1.fr.cell r0 (fun h9 => hN.out rb (by simp) (List.mem_append_left _ h9))
     have h21 := s1.fr.cell r2 (fun h9 => hN.out rb (by simp) (List.mem_append_left _ h9))
     have h22 := s1.fr.cell c0 (fun h9 => hN.out b (by simp) (List.mem_append_left _ h9))
     have h23 := s1.fr.cell d2 (fun h9 => hN.out lb (by simp) (List.mem_append_left _ h9))
     have h24 := s1.fr.cell l1 (fun h9 => hN.out gn (by simp) (List.mem_append_left _ h9))
     have h25 := s1.fr.cell l2 (fun h9 => hN.out gx (by simp) (List.mem_append_left _ h9))
     have S20 := Aside0.mk (And.intro h20 (And.intro h21 (And.intro h22 (And.intro h23 (And.intro h24 h25)))))
     clear s1 h20 h21 h22 h23 h24 h25
     go_simp
     refine hK.out _ _ S20.out (fun hHeld => ?_)
     clear hK K
     refine one_ (i := 27) (N := some 260) (mK 34 268435455) rfl rfl (one_of HT_.out (by kernel_rfl)) (by decide) (fun K hK => ?_)
     focus
      go_simp
      refine (cV.out _ _ _ _ _ _ S1.out ?_ ?_ ?_).mono ?_
      exact (by first | exact Below.refl _ _ | exact below_alloc (Below.refl _ _) _)
      exact (by first | exact blk_new _ _ | exact S1.out.new (by first | exact blk_new _ _ | exact blk_new2 _ _ _ | exact blk_alloc (blk_new _ _) _) (by first | exact Nat.le_refl _ | exact Nat.le_succ _) TW.out.klt)
      exact (by first | exact Nat.le_refl _ | exact Nat.le_succ _ | exact S1.out.size)
      rintro e w3 ⟨g3, c3, rfl, dn⟩
      have DN := Aside0.mk dn
      have h30 := dn.fr.cell r0 (hN.out rb (by simp))
      have h31 := dn.fr.cell r2 (hN.out rb (by simp))
      have h32 := dn.fr.cell c0 (hN.out b (by simp))
      have h33 := dn.fr.cell d2 (hN.out lb (by simp))
      have h34 := dn.fr.cell l1 (hN.out gn (by simp))
      have h35 := dn.fr.cell l2 (hN.out gx (by simp))
      have S30 := Aside0.mk (And.intro h30 (And.intro h31 (And.intro h32 (And.intro h33 (And.intro h34 h35)))))
      have f0 := blk_frozen (dn.blk TW.out BT0.out.hr) 0
      have f1 := blk_frozen (dn.blk TW.out BT0.out.hr) 2
      clear dn h32 h33 h34 h35
      go_simp
      refine hK.out _ _ S30.out (fun hHeld => ?_)
      clear hK K
      refine pK 28 261 (mK 34 536870911) rfl rfl HT_ ?_
      refine pK 29 262 (mK 34 1073741823) rfl rfl HT_ ?_
      refine last_ (i := 30) (N := none) (mK 34 2147483647) rfl rfl (one_of HT_.out (by kernel_rfl)) (by decide) (fun K hK => ?_)
      focus
       go_simp
       skip
       refine hK.out _ _ ?_
       clear hK K
       refine pK 31 263 (mK 34 4294967295) rfl rfl HT_ ?_
       refine pK 32 264 (mK 34 8589934591) rfl rfl HT_ ?_
       refine last_ (i := 33) (N := none) (mK 34 17179869183) rfl rfl (one_of HT_.out (by kernel_rfl)) (by decide) (fun K hK => ?_)
       focus
        go_simp
        skip
        refine hK.out _ _ ?_
        clear hK K
        refine done_ (done_of HT_.out (by kernel_rfl)) ?_
   rotate_left 1
  rotate_left 2
  focus
   go_simp
   refine hK.out _ _ ⟨cell_alloc hHeld.1 _, cell_alloc hHeld.2.1 _, cell_alloc hHeld.2.2.1 _, cell_alloc hHeld.2.2.2.1 _, cell_alloc hHeld.2.2.2.2.1 _, cell_alloc hHeld.2.2.2.2.2 _⟩ (fun hHeld => ?_)
   clear hK K
   refine one_ (i := 13) (N := some 246) (mK 34 134201343) rfl rfl (one_of HT_.out (by kernel_rfl)) (by decide) (fun K hK => ?_)
   focus
    go_simp
    refine hK.out _ _ ⟨cell_alloc hHeld.1 _, cell_alloc hHeld.2.1 _, cell_alloc hHeld.2.2.1 _, cell_alloc hHeld.2.2.2.1 _, cell_alloc hHeld.2.2.2.2.1 _, cell_alloc hHeld.2.2.2.2.2 _⟩ (fun hHeld => ?_)
    clear hK K
    refine one_ (i := 14) (N := some 247) (mK 34 134217727) rfl rfl (one_of HT_.out (by kernel_rfl)) (by decide) (fun K hK => ?_)
    focus
     go_simp
     refine (cK.out _ _ ?_ ?_ ?_).mono ?_
     exact (by first | exact below_drew1 (below_alloc (Below.refl _ _) _) | exact below_drew1 (below_alloc (below_alloc (Below.refl _ _) _) _))
     exact (by first | exact blk_new _ _ | exact blk_new2 _ _ _ | exact blk_alloc (blk_new _ _) _)
     exact (by first | exact Nat.le_refl _ | exact Nat.le_succ _)
     rintro e w2 ⟨g2, c2, rfl, s1⟩
     have S1 := Aside0.mk s1
     have h20 := s1.fr.cell r0 (fun h9 => hN.out rb (by simp) (List.mem_append_left _ h9))
     have h21 := s1.fr.cell r2 (fun h9 => hN.out rb (by simp) (List.mem_append_left _ h9))
     have h22 := s1.fr.cell c0 (fun h9 => hN.out b (by simp) (List.mem_append_left _ h9))
     have h23 := s1.fr.cell d2 (fun h9 => hN.out lb (by simp) (List.mem_append_left _ h9))
     have h24 := s1.fr.cell l1 (fun h9 => hN.out gn (by simp) (List.mem_append_left _ h9))
     have h25 := s1.fr.cell l2 (fun h9 => hN.out gx (by simp) (List.mem_append_left _ h9))
     have S20 := Aside0.mk (And.intro h20 (And.intro h21 (And.intro h22 (And.intro h23 (And.intro h24 h25)))))
     clear s1 h20 h21 h22 h23 h24 h25
     go_simp
     refine hK.out _ _ S20.out (fun hHeld => ?_)
     clear hK K
     refine one_ (i := 27) (N := some 260) (mK 34 268435455) rfl rfl (one_of HT_.out (by kernel_rfl)) (by decide) (fun K hK => ?_)
     focus
      go_simp
      refine (cV.out _ _ _ _ _ _ S1.out ?_ ?_ ?_).mono ?_
      exact (by first | exact Below.refl _ _ | exact below_alloc (Below.refl _ _) _)
      exact (by first | exact blk_new _ _ | exact S1.out.new (by first | exact blk_new _ _ | exact blk_new2 _ _ _ | exact blk_alloc (blk_new _ _) _) (by first | exact Nat.le_refl _ | exact Nat.le_succ _) TW.out.klt)
      exact (by first | exact Nat.le_refl _ | exact Nat.le_succ _ | exact S1.out.size)
      rintro e w3 ⟨g3, c3, rfl, dn⟩
      have DN := Aside0.mk dn
      have h30 := dn.fr.cell r0 (hN.out rb (by simp))
      have h31 := dn.fr.cell r2 (hN.out rb (by simp))
      have h32 := dn.fr.cell c0 (hN.out b (by simp))
      have h33 := dn.fr.cell d2 (hN.out lb (by simp))
      have h34 := dn.fr.cell l1 (hN.out gn (by simp))
      have h35 := dn.fr.cell l2 (hN.out gx (by simp))
      have S30 := Aside0.mk (And.intro h30 (And.intro h31 (And.intro h32 (And.intro h33 (And.intro h34 h35)))))
      have f0 := blk_frozen (dn.blk TW.out BT0.out.hr) 0
      have f1 := blk_frozen (dn.blk TW.out BT0.out.hr) 2
      clear dn h32 h33 h34 h35
      go_simp
      refine hK.out _ _ S30.out (fun hHeld => ?_)
      clear hK K
      refine pK 28 261 (mK 34 536870911) rfl rfl HT_ ?_
      refine pK 29 262 (mK 34 1073741823) rfl rfl HT_ ?_
      refine last_ (i := 30) (N := none) (mK 34 2147483647) rfl rfl (one_of HT_.out (by kernel_rfl)) (by decide) (fun K hK => ?_)
      focus
       go_simp
       skip
       refine hK.out _ _ ?_
       clear hK K
       refine pK 31 263 (mK 34 4294967295) rfl rfl HT_ ?_
       refine pK 32 264 (mK 34 8589934591) rfl rfl HT_ ?_
       refine last_ (i := 33) (N := none) (mK 34 17179869183) rfl rfl (one_of HT_.out (by kernel_rfl)) (by decide) (fun K hK => ?_)
       focus
        go_simp
        skip
        refine hK.out _ _ ?_
        clear hK K
        refine done_ (done_of HT_.out (by kernel_rfl)) ?_
  rotate_left 1
  all_goals
    obtain ⟨W1, hW1⟩ : ∃ W1, (w3.setCell ⟨rb, 0, none⟩ (.slice (some ⟨g2, 0, none⟩) (xsr.length + 1) c2)).setCell ⟨rb, 2, none⟩ (.slice (some ⟨g3, 0, none⟩) (ysr.length + 1) c3) = W1 := ⟨_, rfl⟩
    have T1 := BT0.out.turnR DN.out
    have hW1' : (w3.setCell ⟨rb, 0, none⟩ (.slice (some ⟨g2, 0, none⟩) (xsr.length + 1) c2)).setCell ⟨rb, ix false, none⟩ (.slice (some ⟨g3, 0, none⟩) (ysr.length + 1) c3) = W1 := hW1
    rw [hW1'] at T1
    obtain ⟨bt1, mv1⟩ := T1
    have MV1 := Aside0.mk (MV0.out.trans mv1)
    have BT1 := Aside0.mk bt1
    rw [hW1]
    clear hW1 hW1' S1 S20 S30 h30 h31 f0 f1 DN cK cV mv1 r0 r2 c0 d2 l1 l2 hHeld
    obtain ⟨c0, -, -⟩ := inner_cells (show W1.heap[b]? = some (.cells #[_, .slice none 0 0, _] 74 (0, 0)) from bt1.hn)
    obtain ⟨d0, -, -⟩ := inner_cells (show W1.heap[lb]? = some (.cells #[_, .slice none 0 0, _] 74 (0, 0)) from bt1.hl)
    have q0 := (bt1.kl_.cellAt (i := xsl.length) (u := .string us) (by simp)).1
    have n0 := (bt1.kn_.cellAt hA2.out.2.2.2).1
    have nf := (bt1.kn_.cellAt hA2.out.2.2.2).2
    clear bt1
    go_upto_region 16 with fail
    refine start_ (n := 15) (S := fun w' => w'.cell? ⟨b, 0, none⟩ = some (.slice (some ⟨gn, 0, none⟩) xsn.length ckn) ∧ w'.cell? ⟨lb, 0, none⟩ = some (.slice (some ⟨gl, 0, none⟩) n1 ckl) ∧ w'.cell? ⟨gl, xsl.length, none⟩ = some (.string us)) (ds := [14]) (mK 15 0) (by kernel_rfl) rfl rfl ⟨c0, d0, q0⟩ (fun hHeld => ?_)
    refine with_tabW (T := (true, [([], []), ([0], [0]), ([1], [1]), ([2], [2]), ([], []), ([], []), ([5], [5]), ([6], [6]), ([7], [7]), ([], []), ([9], [9]), ([8, 10], [8, 10]), ([11], [11]), ([3, 4, 0, 1, 2, 3, 4, 5, 6, 7, 8, 9, 10, 11, 12], [3, 4]), ([13, 12, 0, 1, 2, 3, 4, 5, 6, 7, 8, 9, 10, 11, 12], [12, 13])])) (B := [0, 1, 3, 7, 0, 0, 32, 96, 224, 0, 512, 2016, 4064, 8191, 16383]) (by kernel_rfl) (by kernel_rfl) (fun HT_ HW_ => ?_)
    refine pK 0 265 (mK 15 1) rfl rfl HT_ ?_
    refine pK 1 266 (mK 15 3) rfl rfl HT_ ?_
    refine pK 2 267 (mK 15 7) rfl rfl HT_ ?_
    refine pK 4 269 (mK 15 23) rfl rfl HT_ ?_
    refine pK 5 270 (mK 15 55) rfl rfl HT_ ?_
    refine pK 6 271 (mK 15 119) rfl rfl HT_ ?_
    refine pK 7 272 (mK 15 247) rfl rfl HT_ ?_
    refine pK 9 274 (mK 15 759) rfl rfl HT_ ?_
    refine pK 10 275 (mK 15 1783) rfl rfl HT_ ?_
    refine take_ (i := 3) (N := some 268) (v := ?_) (a' := ?_) (mK 15 1791) rfl rfl (take_ofW HT_.out HW_.out (by kernel_rfl)) (fun _ _ _ h => h) (Or.inl ⟨by rfl, ?_⟩) hHeld ?_ ?_
    rotate_left; focus (rintro w' ⟨s0, s1, s2⟩; go_simp; with_reducible rfl; done)
    rotate_left; focus (first | (simp only [Act.put, List.setIfInBounds_toArray, List.set_cons_zero, List.set_cons_succ, i64_w, i32_w]; rfl; done) | (rfl; done))
    refine take_ (i := 8) (N := some 273) (v := ?_) (a' := ?_) (mK 15 2047) rfl rfl (take_ofW HT_.out HW_.out (by kernel_rfl)) (fun _ _ _ h => h) (Or.inl ⟨by rfl, ?_⟩) hHeld ?_ ?_
    rotate_left; focus (rintro w' ⟨s0, s1, s2⟩; go_simp; with_reducible rfl; done)
    rotate_left; focus (first | (simp only [Act.put, List.setIfInBounds_toArray, List.set_cons_zero, List.set_cons_succ, i64_w, i32_w]; rfl; done) | (rfl; done))
    refine pK 11 276 (mK 15 4095) rfl rfl HT_ ?_
    refine take_ (i := 12) (N := some 277) (v := ?_) (a' := ?_) (mK 15 8191) rfl rfl (take_ofW HT_.out HW_.out (by kernel_rfl)) (fun _ _ _ h => h) (Or.inl ⟨by rfl, ?_⟩) hHeld ?_ ?_
    rotate_left; focus (rintro w' ⟨s0, s1, s2⟩; go_simp; with_reducible rfl; done)
    rotate_left; focus (first | (simp only [Act.put, List.setIfInBounds_toArray, List.set_cons_zero, List.set_cons_succ, i64_w, i32_w]; rfl; done) | (rfl; done))
    refine pK 13 278 (mK 15 16383) rfl rfl HT_ ?_
    refine last_ (i := 14) (N := none) (mK 15 32767) rfl rfl (one_of HT_.out (by kernel_rfl)) (by decide) (fun K hK => ?_)
    focus
     go_simp
     skip
     refine hK.out _ _ ?_
     clear hK K
     refine done_ (done_of HT_.out (by kernel_rfl)) ?_
    obtain ⟨W2, hW2⟩ : ∃ W2, (W1.setCell ⟨gn, i, none⟩ (.string us)).drew = W2 := ⟨_, rfl⟩
    have T2 := BT1.out.setN (i := i) (u := .string us) hA2.out.2.2.1 rfl
    have BT2 : Aside0 (Bt false W2 b lb rb (.slice (some ⟨gn, 0, none⟩) xsn.length ckn) (.slice (some ⟨gc, 0, none⟩) ysn.length ccn) (.slice (some ⟨gl, 0, none⟩) n1 ckl) (.slice (some ⟨gx, 0, none⟩) n2 cxl) (.slice (some ⟨g2, 0, none⟩) (xsr.length + 1) c2) (.slice (some ⟨g3, 0, none⟩) (ysr.length + 1) c3) (xsn.set i (.string us)) ysn (xsl ++ [.string us]) (ysl ++ [encP d]) (.string ss :: xsr) (encP d :: ysr) R) := ⟨by rw [← hW2]; exact T2.1.step rfl⟩
    have MV2 : Aside0 (Mv (o3 b lb rb (.slice (some ⟨gn, 0, none⟩) xsn.length ckn) (.slice (some ⟨gc, 0, none⟩) ysn.length ccn) (.slice (some ⟨gl, 0, none⟩) n1 ckl) (.slice (some ⟨gx, 0, none⟩) n2 cxl) (.slice Ak xsr.length ckr) (.slice Ax ysr.length cxr)) w (o3 b lb rb (.slice (some ⟨gn, 0, none⟩) xsn.length ckn) (.slice (some ⟨gc, 0, none⟩) ysn.length ccn) (.slice (some ⟨gl, 0, none⟩) n1 ckl) (.slice (some ⟨gx, 0, none⟩) n2 cxl) (.slice (some ⟨g2, 0, none⟩) (xsr.length + 1) c2) (.slice (some ⟨g3, 0, none⟩) (ysr.length + 1) c3)) W2) := ⟨by rw [← hW2]; exact MV1.out.trans (T2.2.trans ⟨(Fr.refl _ _).drew, fun k hk => .inl hk⟩)⟩
    rw [hW2]
    clear T2 hW2 c0 d0 q0 n0 nf hHeld
    have bt2 := BT2.out
    obtain ⟨d0, -, d2⟩ := inner_cells (show W2.heap[lb]? = some (.cells #[_, .slice none 0 0, _] 74 (0, 0)) from bt2.hl)
    have f0 := blk_frozen bt2.hl 0
    have f1 := blk_frozen bt2.hl 2
    clear bt2
    go_upto_region 17 with fail
    refine start_ (n := 21) (S := fun w' => w'.cell? ⟨lb, 0, none⟩ = some (.slice (some ⟨gl, 0, none⟩) n1 ckl) ∧ w'.cell? ⟨lb, 2, none⟩ = some (.slice (some ⟨gx, 0, none⟩) n2 cxl)) (ds := [17, 20]) (mK 21 0) (by kernel_rfl) rfl rfl ⟨d0, d2⟩ (fun hHeld => ?_)
    refine with_tabW (T := (true, [([], []), ([], []), ([], []), ([2], [2]), ([3], [3]), ([4], [4]), ([], []), ([6], [6]), ([5, 7], [5, 7]), ([], []), ([9], [9]), ([10], [10]), ([11], [11]), ([], []), ([12, 13], [12, 13]), ([0, 0, 2, 3, 4, 5, 6, 7, 8, 12], [0]), ([15, 0, 2, 3, 4, 5, 6, 7, 8, 12], [15]), ([16, 8, 0, 2, 3, 4, 5, 6, 7, 8, 12], [8, 16]), ([1, 0, 1, 2, 3, 4, 5, 6, 7, 8, 9, 10, 11, 12, 13, 14, 15, 16, 17], [1]), ([18, 0, 1, 2, 3, 4, 5, 6, 7, 8, 9, 10, 11, 12, 13, 14, 15, 16, 17], [18]), ([19, 14, 17, 0, 1, 2, 3, 4, 5, 6, 7, 8, 9, 10, 11, 12, 13, 14, 15, 16, 17], [14, 19])])) (B := [0, 0, 0, 4, 12, 28, 0, 64, 252, 0, 512, 1536, 3584, 0, 15872, 8189, 40957, 106493, 262143, 524287, 1048575]) (by kernel_rfl) (by kernel_rfl) (fun HT_ HW_ => ?_)
    refine pK 0 279 (mK 21 1) rfl rfl HT_ ?_
    refine pK 1 280 (mK 21 3) rfl rfl HT_ ?_
    refine pK 2 281 (mK 21 7) rfl rfl HT_ ?_
    refine pK 3 282 (mK 21 15) rfl rfl HT_ ?_
    refine pK 4 283 (mK 21 31) rfl rfl HT_ ?_
    refine pK 6 285 (mK 21 95) rfl rfl HT_ ?_
    refine pK 7 286 (mK 21 223) rfl rfl HT_ ?_
    refine pK 9 288 (mK 21 735) rfl rfl HT_ ?_
    refine pK 10 289 (mK 21 1759) rfl rfl HT_ ?_
    refine pK 11 290 (mK 21 3807) rfl rfl HT_ ?_
    refine pK 13 292 (mK 21 11999) rfl rfl HT_ ?_
    refine take_ (i := 5) (N := some 284) (v := ?_) (a' := ?_) (mK 21 12031) rfl rfl (take_ofW HT_.out HW_.out (by kernel_rfl)) (fun _ _ _ h => h) (Or.inl ⟨by rfl, ?_⟩) hHeld ?_ ?_
    rotate_left; focus (rintro w' ⟨s0, s1⟩; go_simp; with_reducible rfl; done)
    rotate_left; focus (first | (simp only [Act.put, List.setIfInBounds_toArray, List.set_cons_zero, List.set_cons_succ, i64_w, i32_w]; rfl; done) | (rfl; done))
    refine pK 8 287 (mK 21 12287) rfl rfl HT_ ?_
    refine take_ (i := 12) (N := some 291) (v := ?_) (a' := ?_) (mK 21 16383) rfl rfl (take_ofW HT_.out HW_.out (by kernel_rfl)) (fun _ _ _ h => h) (Or.inl ⟨by rfl, ?_⟩) hHeld ?_ ?_
    rotate_left; focus (rintro w' ⟨s0, s1⟩; go_simp; with_reducible rfl; done)
    rotate_left; focus (first | (simp only [Act.put, List.setIfInBounds_toArray, List.set_cons_zero, List.set_cons_succ, i64_w, i32_w]; rfl; done) | (rfl; done))
    refine pK 14 293 (mK 21 32767) rfl rfl HT_ ?_
    refine pK 15 294 (mK 21 65535) rfl rfl HT_ ?_
    refine pK 16 295 (mK 21 131071) rfl rfl HT_ ?_
    refine last_ (i := 17) (N := none) (mK 21 262143) rfl rfl (one_of HT_.out (by kernel_rfl)) (by decide) (fun K hK => ?_)
    focus
     go_simp
     skip
     refine hK.out _ _ ?_
     clear hK K
     refine pK 18 296 (mK 21 524287) rfl rfl HT_ ?_
     refine pK 19 297 (mK 21 1048575) rfl rfl HT_ ?_
     refine last_ (i := 20) (N := none) (mK 21 2097151) rfl rfl (one_of HT_.out (by kernel_rfl)) (by decide) (fun K hK => ?_)
     focus
      go_simp
      skip
      refine hK.out _ _ ?_
      clear hK K
      refine done_ (done_of HT_.out (by kernel_rfl)) ?_
    go_wp2
    go_end0
    have T3 : Bt false ((W2.setCell ⟨lb, 0, none⟩ (.slice (some ⟨gl, 0, none⟩) xsl.length ckl)).setCell ⟨lb, 2, none⟩ (.slice (some ⟨gx, 0, none⟩) ysl.length cxl)) b lb rb (.slice (some ⟨gn, 0, none⟩) xsn.length ckn) (.slice (some ⟨gc, 0, none⟩) ysn.length ccn) (.slice (some ⟨gl, 0, none⟩) xsl.length ckl) (.slice (some ⟨gx, 0, none⟩) ysl.length cxl) (.slice (some ⟨g2, 0, none⟩) (xsr.length + 1) c2) (.slice (some ⟨g3, 0, none⟩) (ysr.length + 1) c3) (xsn.set i (.string us)) ysn xsl ysl (.string ss :: xsr) (encP d :: ysr) R ∧ Mv (o3 b lb rb (.slice (some ⟨gn, 0, none⟩) xsn.length ckn) (.slice (some ⟨gc, 0, none⟩) ysn.length ccn) (.slice (some ⟨gl, 0, none⟩) n1 ckl) (.slice (some ⟨gx, 0, none⟩) n2 cxl) (.slice (some ⟨g2, 0, none⟩) (xsr.length + 1) c2) (.slice (some ⟨g3, 0, none⟩) (ysr.length + 1) c3)) W2 (o3 b lb rb (.slice (some ⟨gn, 0, none⟩) xsn.length ckn) (.slice (some ⟨gc, 0, none⟩) ysn.length ccn) (.slice (some ⟨gl, 0, none⟩) xsl.length ckl) (.slice (some ⟨gx, 0, none⟩) ysl.length cxl) (.slice (some ⟨g2, 0, none⟩) (xsr.length + 1) c2) (.slice (some ⟨g3, 0, none⟩) (ysr.length + 1) c3)) ((W2.setCell ⟨lb, 0, none⟩ (.slice (some ⟨gl, 0, none⟩) xsl.length ckl)).setCell ⟨lb, 2, none⟩ (.slice (some ⟨gx, 0, none⟩) ysl.length cxl)) := by
      have btd := BT2.out
      have h1 := btd.kl_.cut rfl (k := xsl.length) (c' := ckl) (by simp) (.inl rfl)
      have h2 := btd.xl_.cut rfl (k := ysl.length) (c' := cxl) (by simp) (.inl rfl)
      rw [List.take_left] at h1 h2
      exact btd.turnL (cut_done btd.twoL h1 h2 rfl rfl)
    exact ⟨rfl, _, _, _, _, _, _, T3.1.step rfl, MV2.out.trans (T3.2.trans ⟨(Fr.refl _ _).drew, fun k hk => .inl hk⟩)⟩
end Go.Proofs.YtmomohljnmopfaaX
end
