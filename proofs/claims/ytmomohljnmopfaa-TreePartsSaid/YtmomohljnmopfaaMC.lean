/- Several texts in one: UD, UF; no conditions beyond those in each theorem's head. -/
import Derived.Test.YtmomohljnmopfaaMB
import Derived.Test.YtmomohljnmopfaaWTab
import Derived.Tactics
import Derived.Test.YtmomohljnmopfaaPK
section
namespace Go.Proofs.YtmomohljnmopfaaX
open Go.RowKit Go.Lib Go.Proofs.YtmomohljnmopfaaW.PrintWords Go.Proofs.YtmomohljnmopfaaW.PrintLast Go.Proofs.YtmomohljnmopfaaW.PrintMore
set_option linter.unusedVariables false
set_option linter.unusedSimpArgs false
attribute [local go_sem high] eqlNil71 eqlNil72
section
variable {leaf : Bool} {w w' w3 : World} {b lb rb : Nat} {kn cn kl xl kr xr kn' cn' kl' xl' kr' xr' : Value} {xsn ysn xsl ysl xsr ysr : List Value} {R S S' : List Nat}
theorem Bt.step (h : Bt leaf w b lb rb kn cn kl xl kr xr xsn ysn xsl ysl xsr ysr R) (hb : w'.heap = w.heap) : Bt leaf w' b lb rb kn cn kl xl kr xr xsn ysn xsl ysl xsr ysr R :=
  ⟨by rw [hb]; exact h.hn, by rw [hb]; exact h.hl, by rw [hb]; exact h.hr, h.kn_.step (fun _ _ => by rw [hb]), h.cn_.step (fun _ _ => by rw [hb]), h.kl_.step (fun _ _ => by rw [hb]), h.xl_.step (fun _ _ => by rw [hb]), h.kr_.step (fun _ _ => by rw [hb]), h.xr_.step (fun _ _ => by rw [hb]), h.nd, fun k hk => by rw [hb]; exact h.rlt k hk⟩
theorem ndid_of {h : Nat} {t' : T h} {o o' : List Nat} (hS : ∀ k, k ∈ S ↔ k ∈ o ++ R) (mv : Mv o w o' w') (hn : ∃ S', NodeAt h w' b t' S' ∧ ∀ k, k ∈ S' ↔ k ∈ o' ++ R) : NDid h w w' b S t' := by
  obtain ⟨S', h1, h2⟩ := hn
  refine ⟨S', h1, mv.fr.mono (fun x hx => (hS x).2 (List.mem_append_left _ hx)), fun k hk => ?_⟩
  rcases List.mem_append.1 ((h2 k).1 hk) with h9 | h9
  · exact (mv.sub k h9).imp (fun h8 => (hS k).2 (List.mem_append_left _ h8)) id
  · exact .inl ((hS k).2 (List.mem_append_right _ h9))
/-- What lies around is as it was. -/
theorem Bt.rest (h : Bt leaf w b lb rb kn cn kl xl kr xr xsn ysn xsl ysl xsr ysr R) {o' : List Nat} (mv : Mv (o3 b lb rb kn cn kl xl kr xr) w o' w') : ∀ k ∈ R, w'.heap[k]? = w.heap[k]? := fun k hk => mv.fr.block k (h.rlt k hk) (fun hx => by
  have hnd : (o3 b lb rb kn cn kl xl kr xr ++ R).Nodup := nd_perm h.nd (fun a => by simp only [o3, oN, List.count_append, List.count_cons]; omega)
  exact (List.nodup_append.1 hnd).2.2 k hx k hk rfl)
theorem Mv.drewN (O : List Nat) (w : World) (n : Nat) : Mv O w O (w.drewN n) := ⟨(Fr.refl O w).drewN n, fun k hk => .inl hk⟩
end
theorem mid_get {α : Type} {A B : List α} {s : α} : (A ++ s :: B)[A.length]? = some s := at_mid
theorem mid_set {α : Type} {A B : List α} {s u : α} : (A ++ s :: B).set A.length u = A ++ u :: B := set_mid
theorem encKs_mid (A B : List Nm) (s : Nm) : encKs (A ++ s :: B) = encKs A ++ .string ⟨s.toArray⟩ :: encKs B := by simp [encKs, encN]
theorem ins0S {w W : World} {Ak : Option Addr} {n c vb : Nat} {xs : List Value} {us : ByteArray} (hk : RowV 9 W (.slice Ak n c) xs) (hvb : W.heap[vb]? = some (.cells #[.string us] 9 (0, 0))) (hv : w.heap.size ≤ vb) (hlt : ∀ k ∈ (Value.slice Ak n c).ownBlock.toList, k < w.heap.size) (hn : n ≤ 1000) :
    Calls Try.prog 47 #[.slice Ak n c, .int .i64 0, .slice (some ⟨vb, 0, none⟩) 1 1] W fun e w2 => ∃ A c', e = .returned (.slice (some ⟨A, 0, none⟩) (n + 1) c') ∧ Turn 9 W w2 (.slice Ak n c) (.slice (some ⟨A, 0, none⟩) (n + 1) c') (.string us :: xs) := by
  have hl := hk.cap.1
  subst hl
  exact (insertS (i := 0) hk (Nat.zero_le _) rfl hvb (fun e => by have := hlt vb (own_mem.2 e); omega) (by omega)).mono (by
    rintro e w2 ⟨v', rfl, ht⟩
    obtain ⟨A, c', rfl⟩ := row_some ht.1 (by rw [insAt_len (Nat.zero_le _)]; omega)
    have e9 : (insAt 0 (Value.string us) xs).length = xs.length + 1 := insAt_len (Nat.zero_le _)
    rw [e9] at ht ⊢
    exact ⟨A, c', rfl, ht⟩)
theorem ins0N {w W : World} {Ak : Option Addr} {n c vb : Nat} {xs : List Value} {d : Nat} (hk : RowV 70 W (.slice Ak n c) xs) (hvb : W.heap[vb]? = some (.cells #[.pointer (some ⟨d, 0, none⟩)] 70 (0, 0))) (hv : w.heap.size ≤ vb) (hlt : ∀ k ∈ (Value.slice Ak n c).ownBlock.toList, k < w.heap.size) (hn : n ≤ 1000) :
    Calls Try.prog 48 #[.slice Ak n c, .int .i64 0, .slice (some ⟨vb, 0, none⟩) 1 1] W fun e w2 => ∃ A c', e = .returned (.slice (some ⟨A, 0, none⟩) (n + 1) c') ∧ Turn 70 W w2 (.slice Ak n c) (.slice (some ⟨A, 0, none⟩) (n + 1) c') (encP d :: xs) := by
  have hl := hk.cap.1
  subst hl
  exact (insertN (i := 0) hk (Nat.zero_le _) rfl hvb (fun e => by have := hlt vb (own_mem.2 e); omega) (by omega)).mono (by
    rintro e w2 ⟨v', rfl, ht⟩
    obtain ⟨A, c', rfl⟩ := row_some ht.1 (by rw [insAt_len (Nat.zero_le _)]; omega)
    have e9 : (insAt 0 (Value.pointer (some ⟨d, 0, none⟩)) xs).length = xs.length + 1 := insAt_len (Nat.zero_le _)
    rw [e9] at ht ⊢
    exact ⟨A, c', rfl, ht⟩)
theorem cell_alloc {w : World} {a : Addr} {u : Value} (h : w.cell? a = some u) (o : Obj) : (w.alloc o).cell? a = some u := ((below_alloc (Below.refl w.heap.size w) o).cell (World.block_lt_of_cell? _ _ h)).trans h
/-- The cell of a row at its place. -/
theorem RowV.cellAt {e : TypeId} {w : World} {g n c i : Nat} {xs : List Value} {u : Value} (h : RowV e w (.slice (some ⟨g, 0, none⟩) n c) xs) (hi : xs[i]? = some u) : w.cell? ⟨g, i, none⟩ = some u ∧ w.frozen? ⟨g, i, none⟩ = false := by
  obtain ⟨g', c', hv, h1, h2, -⟩ := h.at hi
  simp only [Value.slice.injEq, Option.some.injEq, Addr.mk.injEq] at hv
  rw [hv.1.1]
  exact ⟨h1, h2 i⟩
set_option maxRecDepth 100000 in
set_option maxHeartbeats 8000000 in
theorem bor1 {w : World} {b lb rb i : Nat} {kn cn kl xl kr xr : Value} {xsn ysn xsl ysl xsr ysr : List Value} {us qs : ByteArray} {R : List Nat} (bt : Bt true w b lb rb kn cn kl xl kr xr xsn ysn (xsl ++ [.string us]) (ysl ++ [.string qs]) xsr ysr R) (hlb : ysn[i]? = some (encP lb)) (hrb : ysn[i + 1]? = some (encP rb)) (hi : i < xsn.length)
    (hxy : xsl.length = ysl.length) (hxr : xsr.length = ysr.length) (b1 : ysn.length ≤ 1000) (b2 : xsl.length ≤ 1000) (b3 : xsr.length ≤ 1000) :
    Calls Try.prog 51 #[.pointer (some ⟨b, 0, none⟩), .int .i64 i, .bool true] w fun e w' => e = .returned (.tuple #[]) ∧ ∃ kn' cn' kl' xl' kr' xr', Bt true w' b lb rb kn' cn' kl' xl' kr' xr' (xsn.set i (.string us)) ysn xsl ysl (.string us :: xsr) (.string qs :: ysr) R ∧ Mv (o3 b lb rb kn cn kl xl kr xr) w (o3 b lb rb kn' cn' kl' xl' kr' xr') w' := by
  obtain ⟨gn, ckn, rfl⟩ := row_some bt.kn_ (by omega)
  obtain ⟨gc, ccn, rfl⟩ := row_some bt.cn_ (by have := (List.getElem?_eq_some_iff.1 hlb).1; omega)
  obtain ⟨gl, ckl, rfl⟩ := row_some bt.kl_ (by simp)
  obtain ⟨gx, cxl, rfl⟩ := row_some bt.xl_ (by simp)
  obtain ⟨Ak, ckr, rfl, hckr, -⟩ := bt.kr_.shape
  obtain ⟨Ax, cxr, rfl, hcxr, -⟩ := bt.xr_.shape
  have el1 : (xsl ++ [Value.string us]).length = xsl.length + 1 := by simp
  have el2 : (ysl ++ [Value.string qs]).length = xsl.length + 1 := by simp [hxy]
  rw [el1, el2, ← hxr] at bt ⊢
  have BT := Aside0.mk bt
  have hil := (List.getElem?_eq_some_iff.1 hrb).1
  obtain ⟨c0, c1, c2⟩ := inner_cells (show w.heap[b]? = some (.cells #[_, .slice none 0 0, _] 74 (0, 0)) from bt.hn)
  obtain ⟨d0, d1, d2⟩ := leaf_cells (show w.heap[lb]? = some (.cells #[_, _, .slice none 0 0] 74 (0, 0)) from bt.hl)
  obtain ⟨r0, r1, r2⟩ := leaf_cells (show w.heap[rb]? = some (.cells #[_, _, .slice none 0 0] 74 (0, 0)) from bt.hr)
  have k1 := (bt.cn_.cellAt hlb).1
  have k2 := (bt.cn_.cellAt hrb).1
  have hA1 := Aside0.mk (And.intro hxy (And.intro hxr (And.intro b1 (And.intro b2 b3))))
  have hA2 := Aside0.mk (And.intro hlb (And.intro hrb hi))
  have e3 : (i : Int) < (ysn.length : Int) := by omega
  have e4 : (i : Int) + 1 < (ysn.length : Int) := by omega
  have e5 : IntKind.i64.wrap ((i : Int) + 1) = (i : Int) + 1 := by rw [i64_w]; unfold wrap64; omega
  have e6 : ((i : Int) + 1).toNat = i + 1 := by omega
  have e7 : (0 : Int) ≤ (i : Int) + 1 := by omega
  have e9 : (xsl.length : Int) < (xsl.length : Int) + 1 := by omega
  have e8 : wrap64 (xsl.length : Int) = (xsl.length : Int) := by unfold wrap64; omega
  clear bt hlb hrb hi hxy hxr b1 b2 b3 el1 el2 hil hckr hcxr
  unfold encP at k1 k2
  go_enter Try.func51, Try.ntmps51
  go_upto_region 0 with fail
  go_quiet (fail)
  go_upto_region 6 with fail
  obtain ⟨W0, hW0⟩ : ∃ W0, w.drewN nq = W0 := ⟨_, rfl⟩
  have BT0 : Aside0 (Bt true W0 b lb rb (.slice (some ⟨gn, 0, none⟩) xsn.length ckn) (.slice (some ⟨gc, 0, none⟩) ysn.length ccn) (.slice (some ⟨gl, 0, none⟩) (xsl.length + 1) ckl) (.slice (some ⟨gx, 0, none⟩) (xsl.length + 1) cxl) (.slice Ak xsr.length ckr) (.slice Ax xsr.length cxr) xsn ysn (xsl ++ [.string us]) (ysl ++ [.string qs]) xsr ysr R) := ⟨BT.out.step (by rw [← hW0]; rfl)⟩
  have MV0 : Aside0 (Mv (o3 b lb rb (.slice (some ⟨gn, 0, none⟩) xsn.length ckn) (.slice (some ⟨gc, 0, none⟩) ysn.length ccn) (.slice (some ⟨gl, 0, none⟩) (xsl.length + 1) ckl) (.slice (some ⟨gx, 0, none⟩) (xsl.length + 1) cxl) (.slice Ak xsr.length ckr) (.slice Ax xsr.length cxr)) w (o3 b lb rb (.slice (some ⟨gn, 0, none⟩) xsn.length ckn) (.slice (some ⟨gc, 0, none⟩) ysn.length ccn) (.slice (some ⟨gl, 0, none⟩) (xsl.length + 1) ckl) (.slice (some ⟨gx, 0, none⟩) (xsl.length + 1) cxl) (.slice Ak xsr.length ckr) (.slice Ax xsr.length cxr)) W0) := ⟨by rw [← hW0]; exact Mv.drewN _ _ _⟩
  rw [hW0]
  have bt := BT0.out
  clear c0 c1 c2 d0 d1 d2 r0 r1 r2 k1 k2 hW0 BT
  obtain ⟨d0, d1, d2⟩ := leaf_cells (show W0.heap[lb]? = some (.cells #[_, _, .slice none 0 0] 74 (0, 0)) from bt.hl)
  obtain ⟨r0, r1, r2⟩ := leaf_cells (show W0.heap[rb]? = some (.cells #[_, _, .slice none 0 0] 74 (0, 0)) from bt.hr)
  have l1 := (bt.kl_.cellAt (i := xsl.length) (u := .string us) (by simp)).1
  have l2 := (bt.xl_.cellAt (i := xsl.length) (u := .string qs) (by rw [hA1.out.1]; simp)).1
  have TW := Aside0.mk bt.twoR
  have hN : Aside0 (∀ g ∈ [rb, lb, gl, gx], g ∉ (Value.slice Ak xsr.length ckr).ownBlock.toList ++ (Value.slice Ax xsr.length cxr).ownBlock.toList) := ⟨fun g hg hx => by
    have h9 : (((Value.slice Ak xsr.length ckr).ownBlock.toList ++ (Value.slice Ax xsr.length cxr).ownBlock.toList) ++ ([rb, lb, gl, gx] ++ (b :: gn :: gc :: R))).Nodup := nd_perm bt.nd (fun a => by simp only [oN, Value.ownBlock, Option.toList_some, List.count_append, List.count_cons, List.count_nil]; omega)
    exact (List.nodup_append.1 h9).2.2 g hx g (List.mem_append_left _ hg) rfl⟩
  have cK : Aside0 (∀ W vb, Below W0.heap.size W0 W → W.heap[vb]? = some (.cells #[.string us] 9 (0, 0)) → W0.heap.size ≤ vb → Calls Try.prog 47 #[.slice Ak xsr.length ckr, .int .i64 0, .slice (some ⟨vb, 0, none⟩) 1 1] W fun e w2 => ∃ g c, e = .returned (.slice (some ⟨g, 0, none⟩) (xsr.length + 1) c) ∧ Step1 9 W0 W w2 (.slice Ak xsr.length ckr) (.slice (some ⟨g, 0, none⟩) (xsr.length + 1) c) (.string us :: xsr)) := ⟨fun W vb hW hvb hvl =>
    (ins0S (BT0.out.kr_.below hW) hvb hvl TW.out.klt hA1.out.2.2.2.2).mono (fun e w2 ⟨g, c, h1, h2⟩ => ⟨g, c, h1, hW, h2⟩)⟩
  have cV : Aside0 (∀ w2 g c W W2 vb, Step1 9 W0 W w2 (.slice Ak xsr.length ckr) (.slice (some ⟨g, 0, none⟩) (xsr.length + 1) c) (.string us :: xsr) → Below w2.heap.size w2 W2 → W2.heap[vb]? = some (.cells #[.string qs] 9 (0, 0)) → W0.heap.size ≤ vb → Calls Try.prog 47 #[.slice Ax xsr.length cxr, .int .i64 0, .slice (some ⟨vb, 0, none⟩) 1 1] W2 fun e w3 => ∃ g' c', e = .returned (.slice (some ⟨g', 0, none⟩) (xsr.length + 1) c') ∧ Done 9 9 W0 w3 rb (.slice Ak xsr.length ckr) (.slice (some ⟨g, 0, none⟩) (xsr.length + 1) c) (.string us :: xsr) (.slice Ax xsr.length cxr) (.slice (some ⟨g', 0, none⟩) (xsr.length + 1) c') (.string qs :: ysr) (oN b (.slice (some ⟨gn, 0, none⟩) xsn.length ckn) (.slice (some ⟨gc, 0, none⟩) ysn.length ccn) ++ (oN lb (.slice (some ⟨gl, 0, none⟩) (xsl.length + 1) ckl) (.slice (some ⟨gx, 0, none⟩) (xsl.length + 1) cxl) ++ R))) := ⟨fun w2 g c W W2 vb s1 hW hvb hvl =>
    (ins0S (w := W0) ((s1.row BT0.out.xr_ TW.out).below hW) hvb hvl TW.out.clt hA1.out.2.2.2.2).mono (fun e w3 ⟨g', c', h1, h2⟩ => ⟨g', c', h1, Step2.done ⟨s1, hW, h2⟩ TW.out⟩)⟩
  clear bt r2 d2
  refine start_ (n := 34) (S := fun w' => w'.cell? ⟨rb, 0, none⟩ = some (.slice Ak xsr.length ckr) ∧ w'.cell? ⟨rb, 1, none⟩ = some (.slice Ax xsr.length cxr) ∧ w'.cell? ⟨lb, 0, none⟩ = some (.slice (some ⟨gl, 0, none⟩) (xsl.length + 1) ckl) ∧ w'.cell? ⟨lb, 1, none⟩ = some (.slice (some ⟨gx, 0, none⟩) (xsl.length + 1) cxl) ∧ w'.cell? ⟨gl, xsl.length, none⟩ = some (.string us) ∧ w'.cell? ⟨gx, xsl.length, none⟩ = some (.string qs)) (ds := [30, 33]) (mK 34 0) (by kernel_rfl) rfl rfl ⟨r0, r1, d0, d1, l1, l2⟩ (fun hHeld => ?_)
  refine with_tabW (T := (true, [([], []), ([], []), ([], []), ([2], [2]), ([3], [3]), ([4], [4]), ([], []), ([6], [6]), ([7], [7]), ([8], [8]), ([], []), ([9, 10], [9, 10]), ([11], [11]), ([12], [12]), ([5, 13], [5, 13]), ([], []), ([15], [15]), ([16], [16]), ([17], [17]), ([], []), ([19], [19]), ([20], [20]), ([21], [21]), ([], []), ([22, 23], [22, 23]), ([24], [24]), ([25], [25]), ([18, 26, 14], [18, 26]), ([0, 0, 2, 3, 4, 5, 6, 7, 8, 9, 10, 11, 12, 13, 14, 18, 22, 25, 27], [0]), ([28, 0, 2, 3, 4, 5, 6, 7, 8, 9, 10, 11, 12, 13, 14, 18, 22, 25, 27], [28]), ([29, 14, 27, 0, 2, 3, 4, 5, 6, 7, 8, 9, 10, 11, 12, 13, 14, 18, 22, 25, 27], [14, 29]), ([1, 0, 1, 2, 3, 4, 5, 6, 7, 8, 9, 10, 11, 12, 13, 14, 15, 16, 17, 18, 19, 20, 21, 22, 23, 24, 25, 26, 27, 28, 29, 30], [1]), ([31, 0, 1, 2, 3, 4, 5, 6, 7, 8, 9, 10, 11, 12, 13, 14, 15, 16, 17, 18, 19, 20, 21, 22, 23, 24, 25, 26, 27, 28, 29, 30], [31]), ([32, 27, 30, 0, 1, 2, 3, 4, 5, 6, 7, 8, 9, 10, 11, 12, 13, 14, 15, 16, 17, 18, 19, 20, 21, 22, 23, 24, 25, 26, 27, 28, 29, 30], [27, 32])])) (B := [0, 0, 0, 4, 12, 28, 0, 64, 192, 448, 0, 1984, 4032, 8128, 16380, 0, 32768, 98304, 229376, 0, 524288, 1572864, 3670016, 0, 16252928, 33030144, 66584576, 134217724, 268435453, 536870909, 1073741821, 2147483647, 4294967295, 8589934591]) (by kernel_rfl) (by kernel_rfl) (fun HT_ HW_ => ?_)
  refine pK 0 99 (mK 34 1) rfl rfl HT_ ?_
  refine pK 1 100 (mK 34 3) rfl rfl HT_ ?_
  refine pK 2 101 (mK 34 7) rfl rfl HT_ ?_
  refine pK 3 102 (mK 34 15) rfl rfl HT_ ?_
  refine pK 4 103 (mK 34 31) rfl rfl HT_ ?_
  refine pK 6 105 (mK 34 95) rfl rfl HT_ ?_
  refine pK 7 106 (mK 34 223) rfl rfl HT_ ?_
  refine pK 8 107 (mK 34 479) rfl rfl HT_ ?_
  refine pK 10 109 (mK 34 1503) rfl rfl HT_ ?_
  refine pK 15 114 (mK 34 34271) rfl rfl HT_ ?_
  refine pK 16 115 (mK 34 99807) rfl rfl HT_ ?_
  refine pK 17 116 (mK 34 230879) rfl rfl HT_ ?_
  refine pK 19 118 (mK 34 755167) rfl rfl HT_ ?_
  refine pK 20 119 (mK 34 1803743) rfl rfl HT_ ?_
  refine pK 21 120 (mK 34 3900895) rfl rfl HT_ ?_
  refine pK 23 122 (mK 34 12289503) rfl rfl HT_ ?_
  refine take_ (i := 5) (N := some 104) (v := ?_) (a' := ?_) (mK 34 12289535) rfl rfl (take_ofW HT_.out HW_.out (by kernel_rfl)) (fun _ _ _ h => h) (Or.inl ⟨by rfl, ?_⟩) hHeld ?_ ?_
  rotate_left; focus (rintro w' ⟨s0, s1, s2, s3, s4, s5⟩; go_simp; with_reducible rfl; done)
  rotate_left; focus (first | (simp only [Act.put, List.setIfInBounds_toArray, List.set_cons_zero, List.set_cons_succ, i64_w, i32_w]; rfl; done) | (rfl; done))
  refine take_ (i := 9) (N := some 108) (v := ?_) (a' := ?_) (mK 34 12290047) rfl rfl (take_ofW HT_.out HW_.out (by kernel_rfl)) (fun _ _ _ h => h) (Or.inl ⟨by rfl, ?_⟩) hHeld ?_ ?_
  rotate_left; focus (rintro w' ⟨s0, s1, s2, s3, s4, s5⟩; go_simp; with_reducible rfl; done)
  rotate_left; focus (first | (simp only [Act.put, List.setIfInBounds_toArray, List.set_cons_zero, List.set_cons_succ, i64_w, i32_w]; rfl; done) | (rfl; done))
  refine pK 11 110 (mK 34 12292095) rfl rfl HT_ ?_
  refine take_ (i := 12) (N := some 111) (v := ?_) (a' := ?_) (mK 34 12296191) rfl rfl (take_ofW HT_.out HW_.out (by kernel_rfl)) (fun _ _ _ h => h) (Or.inl ⟨by rfl, ?_⟩) hHeld ?_ ?_
  rotate_left; focus (rintro w' ⟨s0, s1, s2, s3, s4, s5⟩; go_simp; with_reducible rfl; done)
  rotate_left; focus (first | (simp only [Act.put, List.setIfInBounds_toArray, List.set_cons_zero, List.set_cons_succ, i64_w, i32_w]; rfl; done) | (rfl; done))
  refine take_ (i := 18) (N := some 117) (v := ?_) (a' := ?_) (mK 34 12558335) rfl rfl (take_ofW HT_.out HW_.out (by kernel_rfl)) (fun _ _ _ h => h) (Or.inl ⟨by rfl, ?_⟩) hHeld ?_ ?_
  rotate_left; focus (rintro w' ⟨s0, s1, s2, s3, s4, s5⟩; go_simp; with_reducible rfl; done)
  rotate_left; focus (first | (simp only [Act.put, List.setIfInBounds_toArray, List.set_cons_zero, List.set_cons_succ, i64_w, i32_w]; rfl; done) | (rfl; done))
  refine take_ (i := 22) (N := some 121) (v := ?_) (a' := ?_) (mK 34 16752639) rfl rfl (take_ofW HT_.out HW_.out (by kernel_rfl)) (fun _ _ _ h => h) (Or.inl ⟨by rfl, ?_⟩) hHeld ?_ ?_
  rotate_left; focus (rintro w' ⟨s0, s1, s2, s3, s4, s5⟩; go_simp; with_reducible rfl; done)
  rotate_left; focus (first | (simp only [Act.put, List.setIfInBounds_toArray, List.set_cons_zero, List.set_cons_succ, i64_w, i32_w]; rfl; done) | (rfl; done))
  refine pK 24 123 (mK 34 33529855) rfl rfl HT_ ?_
  refine take_ (i := 25) (N := some 124) (v := ?_) (a' := ?_) (mK 34 67084287) rfl rfl (take_ofW HT_.out HW_.out (by kernel_rfl)) (fun _ _ _ h => h) (Or.inl ⟨by rfl, ?_⟩) hHeld ?_ ?_
  rotate_left; focus (rintro w' ⟨s0, s1, s2, s3, s4, s5⟩; go_simp; with_reducible rfl; done)
  rotate_left; focus (first | (simp only [Act.put, List.setIfInBounds_toArray, List.set_cons_zero, List.set_cons_succ, i64_w, i32_w]; rfl; done) | (rfl; done))
  refine two_ (i := 13) (j := 26) (mK 34 67092479) (mK 34 134193151) rfl rfl rfl rfl (two_of HT_.out (by kernel_rfl)) (by decide) (by decide) (fun K hK => ?_) (fun K hK => ?_)
  focus
   go_simp
   refine hK.out _ _ ⟨cell_alloc hHeld.1 _, cell_alloc hHeld.2.1 _, cell_alloc hHeld.2.2.1 _, cell_alloc hHeld.2.2.2.1 _, cell_alloc hHeld.2.2.2.2.1 _, cell_alloc hHeld.2.2.2.2.2 _⟩ (fun hHeld => ?_)
   clear hK K
   refine two_ (i := 14) (j := 26) (mK 34 67108863) (mK 34 134201343) rfl rfl rfl rfl (two_of HT_.out (by kernel_rfl)) (by decide) (by decide) (fun K hK => ?_) (fun K hK => ?_)
   focus
    go_simp
    refine (cK.out _ _ ?_ ?_ ?_).mono ?_
    exact (by first | exact below_drew1 (below_alloc (Below.refl _ _) _) | exact below_drew1 (below_alloc (below_alloc (Below.refl _ _) _) _))
    exact (by first | exact blk_new _ _ | exact blk_new2 _ _ _ | exact blk_alloc (blk_new _ _) _)
    exact (by first | exact Nat.le_refl _ | exact Nat.le_succ _)
    rintro e w2 ⟨g2, c2, rfl, s1⟩
    have S1 := Aside0.mk s1
    have h20 := s1.fr.cell r0 (fun h9 => hN.out rb (by simp) (List.mem_append_left _ h9))
    have h21 := s1.fr.cell r1 (fun h9 => hN.out rb (by simp) (List.mem_append_left _ h9))
    have h22 := s1.fr.cell d0 (fun h9 => hN.out lb (by simp) (List.mem_append_left _ h9))
    have h23 := s1.fr.cell d1 (fun h9 => hN.out lb (by simp) (List.mem_append_left _ h9))
    have h24 := s1.fr.cell l1 (fun h9 => hN.out gl (by simp) (List.mem_append_left _ h9))
    have h25 := s1.fr.cell l2 (fun h9 => hN.out gx (by simp) (List.mem_append_left _ h9))
    have S20 := Aside0.mk (And.intro h20 (And.intro h21 (And.intro h22 (And.intro h23 (And.intro h24 h25)))))
    clear s1 h20 h21 h22 h23 h24 h25
    go_simp
    refine hK.out _ _ S20.out (fun hHeld => ?_)
    clear hK K
    refine one_ (i := 26) (N := some 125) (mK 34 134217727) rfl rfl (one_of HT_.out (by kernel_rfl)) (by decide) (fun K hK => ?_)
    focus
     go_simp
     refine hK.out _ _ ⟨cell_alloc hHeld.1 _, cell_alloc hHeld.2.1 _, cell_alloc hHeld.2.2.1 _, cell_alloc hHeld.2.2.2.1 _, cell_alloc hHeld.2.2.2.2.1 _, cell_alloc hHeld.2.2.2.2.2 _⟩ (fun hHeld => ?_)
     clear hK K
     refine one_ (i := 27) (N := some 126) (mK 34 268435455) rfl rfl (one_of HT_.out (by kernel_rfl)) (by decide) (fun K hK => ?_)
     focus
      go_simp
      refine (cV.out _ _ _ _ _ _ S1.out ?_ ?_ ?_).mono ?_
      exact (by first | exact Below.refl _ _ | exact below_alloc (Below.refl _ _) _)
      exact (by first | exact blk_new _ _ | exact S1.out.new (by first | exact blk_new _ _ | exact blk_new2 _ _ _ | exact blk_alloc (blk_new _ _) _) (by first | exact Nat.le_refl _ | exact Nat.le_succ _) TW.out.klt)
      exact (by first | exact Nat.le_refl _ | exact Nat.le_succ _ | exact S1.out.size)
      rintro e w3 ⟨g3, c3, rfl, dn⟩
      have DN := Aside0.mk dn
      have h30 := dn.fr.cell r0 (hN.out rb (by simp))
      have h31 := dn.fr.cell r1 (hN.out rb (by simp))
      have h32 := dn.fr.cell d0 (hN.out lb (by simp))
      have h33 := dn.fr.cell d1 (hN.out lb (by simp))
      have h34 := dn.fr.cell l1 (hN.out gl (by simp))
      have h35 := dn.fr.cell l2 (hN.out gx (by simp))
      have S30 := Aside0.mk (And.intro h30 (And.intro h31 (And.intro h32 (And.intro h33 (And.intro h34 h35)))))
      have f0 := blk_frozen (dn.blk TW.out BT0.out.hr) 0
      have f1 := blk_frozen (dn.blk TW.out BT0.out.hr) 1
      clear dn h32 h33 h34 h35
      go_simp
      refine hK.out _ _ S30.out (fun hHeld => ?_)
      clear hK K
      refine pK 28 127 (mK 34 536870911) rfl rfl HT_ ?_
      refine pK 29 128 (mK 34 1073741823) rfl rfl HT_ ?_
      refine last_ (i := 30) (N := none) (mK 34 2147483647) rfl rfl (one_of HT_.out (by kernel_rfl)) (by decide) (fun K hK => ?_)
      focus
       go_simp
       skip
       refine hK.out _ _ ?_
       clear hK K
       refine pK 31 129 (mK 34 4294967295) rfl rfl HT_ ?_
       refine pK 32 130 (mK 34 8589934591) rfl rfl HT_ ?_
       refine last_ (i := 33) (N := none) (mK 34 17179869183) rfl rfl (one_of HT_.out (by kernel_rfl)) (by decide) (fun K hK => ?_)
       focus
        go_simp
        skip
        refine hK.out _ _ ?_
        clear hK K
        refine done_ (done_of HT_.out (by kernel_rfl)) ?_
   rotate_left 1
   focus
    go_simp
    refine hK.out _ _ ⟨cell_alloc hHeld.1 _, cell_alloc hHeld.2.1 _, cell_alloc hHeld.2.2.1 _, cell_alloc hHeld.2.2.2.1 _, cell_alloc hHeld.2.2.2.2.1 _, cell_alloc hHeld.2.2.2.2.2 _⟩ (fun hHeld => ?_)
    clear hK K
    refine one_ (i := 14) (N := some 113) (mK 34 134217727) rfl rfl (one_of HT_.out (by kernel_rfl)) (by decide) (fun K hK => ?_)
    focus
     go_simp
     refine (cK.out _ _ ?_ ?_ ?_).mono ?_
     exact (by first | exact below_drew1 (below_alloc (Below.refl _ _) _) | exact below_drew1 (below_alloc (below_alloc (Below.refl _ _) _) _))
     exact (by first | exact blk_new _ _ | exact blk_new2 _ _ _ | exact blk_alloc (blk_new _ _) _)
     exact (by first | exact Nat.le_refl _ | exact Nat.le_succ _)
     rintro e w2 ⟨g2, c2, rfl, s1⟩
     have S1 := Aside0.mk s1
     have h20 := s1.fr.cell r0 (fun h9 => hN.out rb (by simp) (List.mem_append_left _ h9))
     have h21 := s1.fr.cell r1 (fun h9 => hN.out rb (by simp) (List.mem_append_left _ h9))
     have h22 := s1.fr.cell d0 (fun h9 => hN.out lb (by simp) (List.mem_append_left _ h9))
     have h23 := s1.fr.cell d1 (fun h9 => hN.out lb (by simp) (List.mem_append_left _ h9))
     have h24 := s1.fr.cell l1 (fun h9 => hN.out gl (by simp) (List.mem_append_left _ h9))
     have h25 := s1.fr.cell l2 (fun h9 => hN.out gx (by simp) (List.mem_append_left _ h9))
     have S20 := Aside0.mk (And.intro h20 (And.intro h21 (And.intro h22 (And.intro h23 (And.intro h24 h25)))))
     clear s1 h20 h21 h22 h23 h24 h25
     go_simp
     refine hK.out _ _ S20.out (fun hHeld => ?_)
     clear hK K
     refine one_ (i := 27) (N := some 126) (mK 34 268435455) rfl rfl (one_of HT_.out (by kernel_rfl)) (by decide) (fun K hK => ?_)
     focus
      go_simp
      refine (cV.out _ _ _ _ _ _ S1.out ?_ ?_ ?_).mono ?_
      exact (by first | exact Below.refl _ _ | exact below_alloc (Below.refl _ _) _)
      exact (by first | exact blk_new _ _ | exact S1.out.new (by first | exact blk_new _ _ | exact blk_new2 _ _ _ | exact blk_alloc (blk_new _ _) _) (by first | exact Nat.le_refl _ | exact Nat.le_succ _) TW.out.klt)
      exact (by first | exact Nat.le_refl _ | exact Nat.le_succ _ | exact S1.out.size)
      rintro e w3 ⟨g3, c3, rfl, dn⟩
      have DN := Aside0.mk dn
      have h30 := dn.fr.cell r0 (hN.out rb (by simp))
      have h31 := dn.fr.cell r1 (hN.out rb (by simp))
      have h32 := dn.fr.cell d0 (hN.out lb (by simp))
      have h33 := dn.fr.cell d1 (hN.out lb (by simp))
      have h34 := dn.fr.cell l1 (hN.out gl (by simp))
      have h35 := dn.fr.cell l2 (hN.out gx (by simp))
      have S30 := Aside0.mk (And.intro h30 (And.intro h31 (And.intro h32 (And.intro h33 (And.intro h34 h35)))))
      have f0 := blk_frozen (dn.blk TW.out BT0.out.hr) 0
      have f1 := blk_frozen (dn.blk TW.out BT0.out.hr) 1
      clear dn h32 h33 h34 h35
      go_simp
      refine hK.out _ _ S30.out (fun hHeld => ?_)
      clear hK K
      refine pK 28 127 (mK 34 536870911) rfl rfl HT_ ?_
      refine pK 29 128 (mK 34 1073741823) rfl rfl HT_ ?_
      refine last_ (i := 30) (N := none) (mK 34 2147483647) rfl rfl (one_of HT_.out (by kernel_rfl)) (by decide) (fun K hK => ?_)
      focus
       go_simp
       skip
       refine hK.out _ _ ?_
       clear hK K
       refine pK 31 129 (mK 34 4294967295) rfl rfl HT_ ?_
       refine pK 32 130 (mK 34 8589934591) rfl rfl HT_ ?_
       refine last_ (i := 33) (N := none) (mK 34 17179869183) rfl rfl (one_of HT_.out (by kernel_rfl)) (by decide) (fun K hK => ?_)
       focus
        go_simp
        skip
        refine hK.out _ _ ?_
        clear hK K
        refine done_ (done_of HT_.out (by kernel_rfl)) ?_
   rotate_left 1
  rotate_left 2
  focus
   go_simp
   refine hK.out _ _ ⟨cell_alloc hHeld.1 _, cell_alloc hHeld.2.1 _, cell_alloc hHeld.2.2.1 _, cell_alloc hHeld.2.2.2.1 _, cell_alloc hHeld.2.2.2.2.1 _, cell_alloc hHeld.2.2.2.2.2 _⟩ (fun hHeld => ?_)
   clear hK K
   refine one_ (i := 13) (N := some 112) (mK 34 134201343) rfl rfl (one_of HT_.out (by kernel_rfl)) (by decide) (fun K hK => ?_)
   focus
    go_simp
    refine hK.out _ _ ⟨cell_alloc hHeld.1 _, cell_alloc hHeld.2.1 _, cell_alloc hHeld.2.2.1 _, cell_alloc hHeld.2.2.2.1 _, cell_alloc hHeld.2.2.2.2.1 _, cell_alloc hHeld.2.2.2.2.2 _⟩ (fun hHeld => ?_)
    clear hK K
    refine one_ (i := 14) (N := some 113) (mK 34 134217727) rfl rfl (one_of HT_.out (by kernel_rfl)) (by decide) (fun K hK => ?_)
    focus
     go_simp
     refine (cK.out _ _ ?_ ?_ ?_).mono ?_
     exact (by first | exact below_drew1 (below_alloc (Below.refl _ _) _) | exact below_drew1 (below_alloc (below_alloc (Below.refl _ _) _) _))
     exact (by first | exact blk_new _ _ | exact blk_new2 _ _ _ | exact blk_alloc (blk_new _ _) _)
     exact (by first | exact Nat.le_refl _ | exact Nat.le_succ _)
     rintro e w2 ⟨g2, c2, rfl, s1⟩
     have S1 := Aside0.mk s1
     have h20 := s1.fr.cell r0 (fun h9 => hN.out rb (by simp) (List.mem_append_left _ h9))
     have h21 := s1.fr.cell r1 (fun h9 => hN.out rb (by simp) (List.mem_append_left _ h9))
     have h22 := s1.fr.cell d0 (fun h9 => hN.out lb (by simp) (List.mem_append_left _ h9))
     have h23 := s1.fr.cell d1 (fun h9 => hN.out lb (by simp) (List.mem_append_left _ h9))
     have h24 := s1.fr.cell l1 (fun h9 => hN.out gl (by simp) (List.mem_append_left _ h9))
     have h25 := s1.fr.cell l2 (fun h9 => hN.out gx (by simp) (List.mem_append_left _ h9))
     have S20 := Aside0.mk (And.intro h20 (And.intro h21 (And.intro h22 (And.intro h23 (And.intro h24 h25)))))
     clear s1 h20 h21 h22 h23 h24 h25
     go_simp
     refine hK.out _ _ S20.out (fun hHeld => ?_)
     clear hK K
     refine one_ (i := 27) (N := some 126) (mK 34 268435455) rfl rfl (one_of HT_.out (by kernel_rfl)) (by decide) (fun K hK => ?_)
     focus
      go_simp
      refine (cV.out _ _ _ _ _ _ S1.out ?_ ?_ ?_).mono ?_
      exact (by first | exact Below.refl _ _ | exact below_alloc (Below.refl _ _) _)
      exact (by first | exact blk_new _ _ | exact S1.out.new (by first | exact blk_new _ _ | exact blk_new2 _ _ _ | exact blk_alloc (blk_new _ _) _) (by first | exact Nat.le_refl _ | exact Nat.le_succ _) TW.out.klt)
      exact (by first | exact Nat.le_refl _ | exact Nat.le_succ _ | exact S1.out.size)
      rintro e w3 ⟨g3, c3, rfl, dn⟩
      have DN := Aside0.mk dn
      have h30 := dn.fr.cell r0 (hN.out rb (by simp))
      have h31 := dn.fr.cell r1 (hN.out rb (by simp))
      have h32 := dn.fr.cell d0 (hN.out lb (by simp))
      have h33 := dn.fr.cell d1 (hN.out lb (by simp))
      have h34 := dn.fr.cell l1 (hN.out gl (by simp))
      have h35 := dn.fr.cell l2 (hN.out gx (by simp))
      have S30 := Aside0.mk (And.intro h30 (And.intro h31 (And.intro h32 (And.intro h33 (And.intro h34 h35)))))
      have f0 := blk_frozen (dn.blk TW.out BT0.out.hr) 0
      have f1 := blk_frozen (dn.blk TW.out BT0.out.hr) 1
      clear dn h32 h33 h34 h35
      go_simp
      refine hK.out _ _ S30.out (fun hHeld => ?_)
      clear hK K
      refine pK 28 127 (mK 34 536870911) rfl rfl HT_ ?_
      refine pK 29 128 (mK 34 1073741823) rfl rfl HT_ ?_
      refine last_ (i := 30) (N := none) (mK 34 2147483647) rfl rfl (one_of HT_.out (by kernel_rfl)) (by decide) (fun K hK => ?_)
      focus
       go_simp
       skip
       refine hK.out _ _ ?_
       clear hK K
       refine pK 31 129 (mK 34 4294967295) rfl rfl HT_ ?_
       refine pK 32 130 (mK 34 8589934591) rfl rfl HT_ ?_
       refine last_ (i := 33) (N := none) (mK 34 17179869183) rfl rfl (one_of HT_.out (by kernel_rfl)) (by decide) (fun K hK => ?_)
       focus
        go_simp
        skip
        refine hK.out _ _ ?_
        clear hK K
        refine done_ (done_of HT_.out (by kernel_rfl)) ?_
  rotate_left 1
  all_goals
    obtain ⟨W1, hW1⟩ : ∃ W1, (w3.setCell ⟨rb, 0, none⟩ (.slice (some ⟨g2, 0, none⟩) (xsr.length + 1) c2)).setCell ⟨rb, 1, none⟩ (.slice (some ⟨g3, 0, none⟩) (xsr.length + 1) c3) = W1 := ⟨_, rfl⟩
    have T1 := BT0.out.turnR DN.out
    have hW1' : (w3.setCell ⟨rb, 0, none⟩ (.slice (some ⟨g2, 0, none⟩) (xsr.length + 1) c2)).setCell ⟨rb, ix true, none⟩ (.slice (some ⟨g3, 0, none⟩) (xsr.length + 1) c3) = W1 := hW1
    rw [hW1'] at T1
    obtain ⟨bt1, mv1⟩ := T1
    have MV1 := Aside0.mk (MV0.out.trans mv1)
    have BT1 := Aside0.mk bt1
    rw [hW1]
    clear hW1 hW1' S1 S20 S30 h30 h31 f0 f1 DN cK cV mv1 r0 r1 d0 d1 l1 l2 hHeld
    obtain ⟨d0, d1, -⟩ := leaf_cells (show W1.heap[lb]? = some (.cells #[_, _, .slice none 0 0] 74 (0, 0)) from bt1.hl)
    have f0 := blk_frozen bt1.hl 0
    have f1 := blk_frozen bt1.hl 1
    have q1 : (xsl.length : Int) ≤ (ckl : Int) := by have h9 := bt1.kl_.cap; omega
    have q2 : (xsl.length : Int) ≤ (cxl : Int) := by have h9 := bt1.xl_.cap; omega
    clear bt1
    go_upto_region 7 with fail
    refine start_ (n := 20) (S := fun w' => w'.cell? ⟨lb, 0, none⟩ = some (.slice (some ⟨gl, 0, none⟩) (xsl.length + 1) ckl) ∧ w'.cell? ⟨lb, 1, none⟩ = some (.slice (some ⟨gx, 0, none⟩) (xsl.length + 1) cxl)) (ds := [16, 19]) (mK 20 0) (by kernel_rfl) rfl rfl ⟨d0, d1⟩ (fun hHeld => ?_)
    refine with_tabW (T := (true, [([], []), ([], []), ([], []), ([2], [2]), ([3], [3]), ([4], [4]), ([], []), ([5, 6], [5, 6]), ([], []), ([8], [8]), ([9], [9]), ([10], [10]), ([], []), ([11, 12], [11, 12]), ([0, 0, 2, 3, 4, 5, 6, 7, 11], [0]), ([14, 0, 2, 3, 4, 5, 6, 7, 11], [14]), ([15, 7, 0, 2, 3, 4, 5, 6, 7, 11], [7, 15]), ([1, 0, 1, 2, 3, 4, 5, 6, 7, 8, 9, 10, 11, 12, 13, 14, 15, 16], [1]), ([17, 0, 1, 2, 3, 4, 5, 6, 7, 8, 9, 10, 11, 12, 13, 14, 15, 16], [17]), ([18, 13, 16, 0, 1, 2, 3, 4, 5, 6, 7, 8, 9, 10, 11, 12, 13, 14, 15, 16], [13, 18])])) (B := [0, 0, 0, 4, 12, 28, 0, 124, 0, 256, 768, 1792, 0, 7936, 4093, 20477, 53245, 131071, 262143, 524287]) (by kernel_rfl) (by kernel_rfl) (fun HT_ HW_ => ?_)
    refine pK 0 131 (mK 20 1) rfl rfl HT_ ?_
    refine pK 1 132 (mK 20 3) rfl rfl HT_ ?_
    refine pK 2 133 (mK 20 7) rfl rfl HT_ ?_
    refine pK 3 134 (mK 20 15) rfl rfl HT_ ?_
    refine pK 4 135 (mK 20 31) rfl rfl HT_ ?_
    refine pK 6 137 (mK 20 95) rfl rfl HT_ ?_
    refine pK 8 139 (mK 20 351) rfl rfl HT_ ?_
    refine pK 9 140 (mK 20 863) rfl rfl HT_ ?_
    refine pK 10 141 (mK 20 1887) rfl rfl HT_ ?_
    refine pK 12 143 (mK 20 5983) rfl rfl HT_ ?_
    refine take_ (i := 5) (N := some 136) (v := ?_) (a' := ?_) (mK 20 6015) rfl rfl (take_ofW HT_.out HW_.out (by kernel_rfl)) (fun _ _ _ h => h) (Or.inl ⟨by rfl, ?_⟩) hHeld ?_ ?_
    rotate_left; focus (rintro w' ⟨s0, s1⟩; go_simp; with_reducible rfl; done)
    rotate_left; focus (first | (simp only [Act.put, List.setIfInBounds_toArray, List.set_cons_zero, List.set_cons_succ, i64_w, i32_w]; rfl; done) | (rfl; done))
    refine pK 7 138 (mK 20 6143) rfl rfl HT_ ?_
    refine take_ (i := 11) (N := some 142) (v := ?_) (a' := ?_) (mK 20 8191) rfl rfl (take_ofW HT_.out HW_.out (by kernel_rfl)) (fun _ _ _ h => h) (Or.inl ⟨by rfl, ?_⟩) hHeld ?_ ?_
    rotate_left; focus (rintro w' ⟨s0, s1⟩; go_simp; with_reducible rfl; done)
    rotate_left; focus (first | (simp only [Act.put, List.setIfInBounds_toArray, List.set_cons_zero, List.set_cons_succ, i64_w, i32_w]; rfl; done) | (rfl; done))
    refine pK 13 144 (mK 20 16383) rfl rfl HT_ ?_
    refine pK 14 145 (mK 20 32767) rfl rfl HT_ ?_
    refine pK 15 146 (mK 20 65535) rfl rfl HT_ ?_
    refine last_ (i := 16) (N := none) (mK 20 131071) rfl rfl (one_of HT_.out (by kernel_rfl)) (by decide) (fun K hK => ?_)
    focus
     go_simp
     skip
     refine hK.out _ _ ?_
     clear hK K
     refine pK 17 147 (mK 20 262143) rfl rfl HT_ ?_
     refine pK 18 148 (mK 20 524287) rfl rfl HT_ ?_
     refine last_ (i := 19) (N := none) (mK 20 1048575) rfl rfl (one_of HT_.out (by kernel_rfl)) (by decide) (fun K hK => ?_)
     focus
      go_simp
      skip
      refine hK.out _ _ ?_
      clear hK K
      refine done_ (done_of HT_.out (by kernel_rfl)) ?_
    obtain ⟨W2, hW2⟩ : ∃ W2, ((W1.setCell ⟨lb, 0, none⟩ (.slice (some ⟨gl, 0, none⟩) xsl.length ckl)).setCell ⟨lb, 1, none⟩ (.slice (some ⟨gx, 0, none⟩) xsl.length cxl)).drew = W2 := ⟨_, rfl⟩
    have T2 : Bt true W2 b lb rb (.slice (some ⟨gn, 0, none⟩) xsn.length ckn) (.slice (some ⟨gc, 0, none⟩) ysn.length ccn) (.slice (some ⟨gl, 0, none⟩) xsl.length ckl) (.slice (some ⟨gx, 0, none⟩) xsl.length cxl) (.slice (some ⟨g2, 0, none⟩) (xsr.length + 1) c2) (.slice (some ⟨g3, 0, none⟩) (xsr.length + 1) c3) xsn ysn xsl ysl (.string us :: xsr) (.string qs :: ysr) R ∧ Mv (o3 b lb rb (.slice (some ⟨gn, 0, none⟩) xsn.length ckn) (.slice (some ⟨gc, 0, none⟩) ysn.length ccn) (.slice (some ⟨gl, 0, none⟩) (xsl.length + 1) ckl) (.slice (some ⟨gx, 0, none⟩) (xsl.length + 1) cxl) (.slice (some ⟨g2, 0, none⟩) (xsr.length + 1) c2) (.slice (some ⟨g3, 0, none⟩) (xsr.length + 1) c3)) W1 (o3 b lb rb (.slice (some ⟨gn, 0, none⟩) xsn.length ckn) (.slice (some ⟨gc, 0, none⟩) ysn.length ccn) (.slice (some ⟨gl, 0, none⟩) xsl.length ckl) (.slice (some ⟨gx, 0, none⟩) xsl.length cxl) (.slice (some ⟨g2, 0, none⟩) (xsr.length + 1) c2) (.slice (some ⟨g3, 0, none⟩) (xsr.length + 1) c3)) W2 := by
      have btd := BT1.out
      have h1 := btd.kl_.cut rfl (k := xsl.length) (c' := ckl) (by simp) (.inl rfl)
      have h2 := btd.xl_.cut rfl (k := xsl.length) (c' := cxl) (by rw [hA1.out.1]; simp) (.inl rfl)
      rw [List.take_left] at h1
      rw [List.take_left' hA1.out.1.symm] at h2
      have h9 := btd.turnL (cut_done btd.twoL h1 h2 rfl rfl)
      rw [← hW2]
      exact ⟨h9.1.step rfl, h9.2.trans ⟨(Fr.refl _ _).drew, fun k hk => .inl hk⟩⟩
    have BT2 := Aside0.mk T2.1
    have MV2 := Aside0.mk (MV1.out.trans T2.2)
    rw [hW2]
    clear T2 hW2 d0 d1 f0 f1 q1 q2 hHeld
    have bt2 := BT2.out
    obtain ⟨d0, -, -⟩ := inner_cells (show W2.heap[b]? = some (.cells #[_, .slice none 0 0, _] 74 (0, 0)) from bt2.hn)
    obtain ⟨r0, -, -⟩ := leaf_cells (show W2.heap[rb]? = some (.cells #[_, _, .slice none 0 0] 74 (0, 0)) from bt2.hr)
    have q0 := (bt2.kr_.cellAt (i := 0) (u := .string us) rfl).1
    obtain ⟨oi, hoi⟩ : ∃ oi, xsn[i]? = some oi := ⟨_, List.getElem?_eq_getElem hA2.out.2.2⟩
    have n0 := (bt2.kn_.cellAt hoi).1
    have nf := (bt2.kn_.cellAt hoi).2
    have e10 : (i : Int) < (xsn.length : Int) := by have := hA2.out.2.2; omega
    have e11 : (0 : Int) < (xsr.length : Int) + 1 := by omega
    clear bt2 hoi
    go_upto_region 8 with fail
    refine start_ (n := 13) (S := fun w' => w'.cell? ⟨b, 0, none⟩ = some (.slice (some ⟨gn, 0, none⟩) xsn.length ckn) ∧ w'.cell? ⟨rb, 0, none⟩ = some (.slice (some ⟨g2, 0, none⟩) (xsr.length + 1) c2) ∧ w'.cell? ⟨g2, 0, none⟩ = some (.string us)) (ds := [12]) (mK 13 0) (by kernel_rfl) rfl rfl ⟨d0, r0, q0⟩ (fun hHeld => ?_)
    refine with_tabW (T := (true, [([], []), ([0], [0]), ([1], [1]), ([2], [2]), ([], []), ([], []), ([5], [5]), ([6], [6]), ([7], [7]), ([8], [8]), ([9], [9]), ([3, 4, 0, 1, 2, 3, 4, 5, 6, 7, 8, 9, 10], [3, 4]), ([11, 10, 0, 1, 2, 3, 4, 5, 6, 7, 8, 9, 10], [10, 11])])) (B := [0, 1, 3, 7, 0, 0, 32, 96, 224, 480, 992, 2047, 4095]) (by kernel_rfl) (by kernel_rfl) (fun HT_ HW_ => ?_)
    refine pK 0 149 (mK 13 1) rfl rfl HT_ ?_
    refine pK 1 150 (mK 13 3) rfl rfl HT_ ?_
    refine pK 2 151 (mK 13 7) rfl rfl HT_ ?_
    refine pK 4 153 (mK 13 23) rfl rfl HT_ ?_
    refine pK 5 154 (mK 13 55) rfl rfl HT_ ?_
    refine pK 6 155 (mK 13 119) rfl rfl HT_ ?_
    refine pK 7 156 (mK 13 247) rfl rfl HT_ ?_
    refine take_ (i := 3) (N := some 152) (v := ?_) (a' := ?_) (mK 13 255) rfl rfl (take_ofW HT_.out HW_.out (by kernel_rfl)) (fun _ _ _ h => h) (Or.inl ⟨by rfl, ?_⟩) hHeld ?_ ?_
    rotate_left; focus (rintro w' ⟨s0, s1, s2⟩; go_simp; with_reducible rfl; done)
    rotate_left; focus (first | (simp only [Act.put, List.setIfInBounds_toArray, List.set_cons_zero, List.set_cons_succ, i64_w, i32_w]; rfl; done) | (rfl; done))
    refine take_ (i := 8) (N := some 157) (v := ?_) (a' := ?_) (mK 13 511) rfl rfl (take_ofW HT_.out HW_.out (by kernel_rfl)) (fun _ _ _ h => h) (Or.inl ⟨by rfl, ?_⟩) hHeld ?_ ?_
    rotate_left; focus (rintro w' ⟨s0, s1, s2⟩; go_simp; with_reducible rfl; done)
    rotate_left; focus (first | (simp only [Act.put, List.setIfInBounds_toArray, List.set_cons_zero, List.set_cons_succ, i64_w, i32_w]; rfl; done) | (rfl; done))
    refine pK 9 158 (mK 13 1023) rfl rfl HT_ ?_
    refine take_ (i := 10) (N := some 159) (v := ?_) (a' := ?_) (mK 13 2047) rfl rfl (take_ofW HT_.out HW_.out (by kernel_rfl)) (fun _ _ _ h => h) (Or.inl ⟨by rfl, ?_⟩) hHeld ?_ ?_
    rotate_left; focus (rintro w' ⟨s0, s1, s2⟩; go_simp; with_reducible rfl; done)
    rotate_left; focus (first | (simp only [Act.put, List.setIfInBounds_toArray, List.set_cons_zero, List.set_cons_succ, i64_w, i32_w]; rfl; done) | (rfl; done))
    refine pK 11 160 (mK 13 4095) rfl rfl HT_ ?_
    refine last_ (i := 12) (N := none) (mK 13 8191) rfl rfl (one_of HT_.out (by kernel_rfl)) (by decide) (fun K hK => ?_)
    focus
     go_simp
     skip
     refine hK.out _ _ ?_
     clear hK K
     refine done_ (done_of HT_.out (by kernel_rfl)) ?_
    go_wp2
    go_end0
    have T3 := BT2.out.setN (i := i) (u := .string us) hA2.out.2.2 rfl
    exact ⟨rfl, _, _, _, _, _, _, T3.1.step rfl, MV2.out.trans (T3.2.trans ⟨(Fr.refl _ _).drew, fun k hk => .inl hk⟩)⟩
end Go.Proofs.YtmomohljnmopfaaX
end
section
namespace Go.Proofs.YtmomohljnmopfaaX
open Go.RowKit Go.Lib Go.Proofs.YtmomohljnmopfaaW.PrintWords Go.Proofs.YtmomohljnmopfaaW.PrintLast Go.Proofs.YtmomohljnmopfaaW.PrintMore
set_option linter.unusedVariables false
set_option linter.unusedSimpArgs false
theorem appS {W : World} {A : Option Addr} {n c vb : Nat} {xs : List Value} {us : ByteArray} (hk : RowV 9 W (.slice A n c) xs) (hvb : W.heap[vb]? = some (.cells #[.string us] 9 (0, 0))) (hn : n ≤ 1000) :
    ∃ g c' w', (Builtin.append_ #[71, 71] 71 #[.slice A n c, .slice (some ⟨vb, 0, none⟩) 1 1]).run Try.prog W = .ok (.slice (some ⟨g, 0, none⟩) (n + 1) c') w' ∧ Turn 9 W w' (.slice A n c) (.slice (some ⟨g, 0, none⟩) (n + 1) c') (xs ++ [.string us]) := by
  have hl := hk.cap.1
  have hs : SrcV W (some ⟨vb, 0, none⟩) [Value.string us] := fun _ => ⟨_, rfl, fun j q hj => by
    cases j with
    | zero => simp at hj; subst hj; rw [add_lit0]; exact (blk_cell hvb 0).trans rfl
    | succ j => simp at hj⟩
  obtain ⟨v', w', hr, h1, h2, h3⟩ := hk.append (ys := [.string us]) 71 71 Try.underlying71 infoS rfl (by decide) (c := 1) hs (fun u hu => by simp at hu; rw [hu]; rfl) (by simp; omega)
  obtain ⟨g, c', rfl⟩ := row_some h1 (by simp)
  have e1 : (xs ++ [Value.string us]).length = n + 1 := by simp [hl]
  rw [e1] at hr h1 h3
  exact ⟨g, c', w', hr, h1, h2, h3⟩
theorem appN {W : World} {A : Option Addr} {n c vb d : Nat} {xs : List Value} (hk : RowV 70 W (.slice A n c) xs) (hvb : W.heap[vb]? = some (.cells #[.pointer (some ⟨d, 0, none⟩)] 70 (0, 0))) (hn : n ≤ 1000) :
    ∃ g c' w', (Builtin.append_ #[72, 72] 72 #[.slice A n c, .slice (some ⟨vb, 0, none⟩) 1 1]).run Try.prog W = .ok (.slice (some ⟨g, 0, none⟩) (n + 1) c') w' ∧ Turn 70 W w' (.slice A n c) (.slice (some ⟨g, 0, none⟩) (n + 1) c') (xs ++ [encP d]) := by
  have hl := hk.cap.1
  have hs : SrcV W (some ⟨vb, 0, none⟩) [encP d] := fun _ => ⟨_, rfl, fun j q hj => by
    cases j with
    | zero => simp at hj; subst hj; rw [add_lit0]; exact (blk_cell hvb 0).trans rfl
    | succ j => simp at hj⟩
  obtain ⟨v', w', hr, h1, h2, h3⟩ := hk.append (ys := [encP d]) 72 72 Try.underlying72 infoN rfl (by decide) (c := 1) hs (fun u hu => by simp at hu; rw [hu]; rfl) (by simp; omega)
  obtain ⟨g, c', rfl⟩ := row_some h1 (by simp)
  have e1 : (xs ++ [encP d]).length = n + 1 := by simp [hl]
  rw [e1] at hr h1 h3
  exact ⟨g, c', w', hr, h1, h2, h3⟩
/-- A whole row behind another one. -/
theorem appRowS {W : World} {A A2 : Option Addr} {n c n2 c2 : Nat} {xs ys : List Value} (hk : RowV 9 W (.slice A n c) xs) (hy : RowV 9 W (.slice A2 n2 c2) ys) (hn : n ≤ 1000) (hn2 : n2 ≤ 1000) :
    ∃ A' c' w', (Builtin.append_ #[71, 71] 71 #[.slice A n c, .slice A2 n2 c2]).run Try.prog W = .ok (.slice A' (n + n2) c') w' ∧ Turn 9 W w' (.slice A n c) (.slice A' (n + n2) c') (xs ++ ys) := by
  have hl := hk.cap.1
  have hl2 := hy.cap.1
  subst hl2
  obtain ⟨v', w', hr, h1, h2, h3⟩ := hk.append (ys := ys) 71 71 Try.underlying71 infoS rfl (by decide) (c := c2) (hy.src rfl) hy.one (by omega)
  obtain ⟨A', c', rfl, -, -⟩ := h1.shape
  have e1 : (xs ++ ys).length = n + ys.length := by simp [hl]
  rw [e1] at hr h1 h3
  exact ⟨A', c', w', hr, h1, h2, h3⟩
theorem appRowN {W : World} {A A2 : Option Addr} {n c n2 c2 : Nat} {xs ys : List Value} (hk : RowV 70 W (.slice A n c) xs) (hy : RowV 70 W (.slice A2 n2 c2) ys) (hn : n ≤ 1000) (hn2 : n2 ≤ 1000) :
    ∃ A' c' w', (Builtin.append_ #[72, 72] 72 #[.slice A n c, .slice A2 n2 c2]).run Try.prog W = .ok (.slice A' (n + n2) c') w' ∧ Turn 70 W w' (.slice A n c) (.slice A' (n + n2) c') (xs ++ ys) := by
  have hl := hk.cap.1
  have hl2 := hy.cap.1
  subst hl2
  obtain ⟨v', w', hr, h1, h2, h3⟩ := hk.append (ys := ys) 72 72 Try.underlying72 infoN rfl (by decide) (c := c2) (hy.src rfl) hy.one (by omega)
  obtain ⟨A', c', rfl, -, -⟩ := h1.shape
  have e1 : (xs ++ ys).length = n + ys.length := by simp [hl]
  rw [e1] at hr h1 h3
  exact ⟨A', c', w', hr, h1, h2, h3⟩
theorem delAt_len {α : Type} {i : Nat} {l : List α} (h : i < l.length) : (delAt i l).length = l.length - 1 := by
  unfold delAt
  rw [List.length_append, List.length_take, List.length_drop]; omega
theorem delS {W : World} {A : Option Addr} {n c i : Nat} {xs : List Value} (hk : RowV 9 W (.slice A n c) xs) (hi : i < n) (h2 : 2 ≤ n) (hn : n ≤ 1000) :
    Calls Try.prog 45 #[.slice A n c, .int .i64 i, .int .i64 ((i : Int) + 1)] W fun e w' => ∃ g c', e = .returned (.slice (some ⟨g, 0, none⟩) (n - 1) c') ∧ Turn 9 W w' (.slice A n c) (.slice (some ⟨g, 0, none⟩) (n - 1) c') (delAt i xs) := by
  have hl := hk.cap.1
  exact (deleteS hk (by omega) (by omega)).mono (by
    rintro e w' ⟨v', rfl, h1, h3, h4⟩
    obtain ⟨g, c', rfl⟩ := row_some h1 (by rw [delAt_len (by omega)]; omega)
    rw [delAt_len (by omega), ← hl] at h1 h4 ⊢
    exact ⟨g, c', rfl, h1, h3, .inl h4⟩)
theorem delN {W : World} {A : Option Addr} {n c i : Nat} {xs : List Value} (hk : RowV 70 W (.slice A n c) xs) (hi : i < n) (h2 : 2 ≤ n) (hn : n ≤ 1000) :
    Calls Try.prog 58 #[.slice A n c, .int .i64 i, .int .i64 ((i : Int) + 1)] W fun e w' => ∃ g c', e = .returned (.slice (some ⟨g, 0, none⟩) (n - 1) c') ∧ Turn 70 W w' (.slice A n c) (.slice (some ⟨g, 0, none⟩) (n - 1) c') (delAt i xs) := by
  have hl := hk.cap.1
  exact (deleteN hk (by omega) (by omega)).mono (by
    rintro e w' ⟨v', rfl, h1, h3, h4⟩
    obtain ⟨g, c', rfl⟩ := row_some h1 (by rw [delAt_len (by omega)]; omega)
    rw [delAt_len (by omega), ← hl] at h1 h4 ⊢
    exact ⟨g, c', rfl, h1, h3, .inl h4⟩)
/-- The same, where the row may be left empty. -/
theorem delS' {W : World} {A : Option Addr} {n c i : Nat} {xs : List Value} (hk : RowV 9 W (.slice A n c) xs) (hi : i < n) (hn : n ≤ 1000) :
    Calls Try.prog 45 #[.slice A n c, .int .i64 i, .int .i64 ((i : Int) + 1)] W fun e w' => ∃ A' c', e = .returned (.slice A' (n - 1) c') ∧ Turn 9 W w' (.slice A n c) (.slice A' (n - 1) c') (delAt i xs) := by
  have hl := hk.cap.1
  exact (deleteS hk (by omega) (by omega)).mono (by
    rintro e w' ⟨v', rfl, h1, h3, h4⟩
    obtain ⟨A', c', rfl, -, -⟩ := h1.shape
    rw [delAt_len (by omega), ← hl] at h1 h4 ⊢
    exact ⟨A', c', rfl, h1, h3, .inl h4⟩)
/-- An append as a step of a region, by its contract. -/
theorem step_appK {ops : Array Oper} {o : Oper} {a : Act} {w : World} {K : Act → World → Prop} {Q : Exit → Act → World → Prop} {E : Prop} {Post : Value → World → Prop}
    (hg : o.guard = none) (d x : Operand) (dT sT : TypeId) (hop : o.op = Op.call { callee := Callee.builtin Builtin.append, args := #[d, x], argTypes := #[dT, sT] })
    (v u : Value) (hd : a.eval d = v) (hx : a.eval x = u) (hc : ∃ v' w', (Builtin.append_ #[dT, sT] o.type #[v, u]).run Try.prog w = .ok v' w' ∧ Post v' w') (hK : ∀ v' w', Post v' w' → K (a.put o.dst v') w') :
    if Region.wanted o (yielded ops a.tmps) = true then Oper.wp Try.prog o a w K Q else E := by
  obtain ⟨v', w', hr, hp⟩ := hc
  exact step_appendS hg d x dT sT hop v u hd hx hr (hK v' w' hp)
end Go.Proofs.YtmomohljnmopfaaX
end
