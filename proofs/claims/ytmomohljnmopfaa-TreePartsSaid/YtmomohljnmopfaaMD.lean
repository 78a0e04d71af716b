/- Several texts in one: UL, UM, UN, UO, UP, UQ, VA, VB, VC, VD, VE; no conditions beyond those in each theorem's head. -/
import Derived.Test.YtmomohljnmopfaaMS
import Derived.Test.YtmomohljnmopfaaMG
import Derived.Test.YtmomohljnmopfaaMH
import Derived.Test.YtmomohljnmopfaaMI
import Derived.ScopeJumps
import Derived.WalkMore
import Derived.Laws.Cover1
import Derived.Test.YtmomohljnmopfaaWTab
import Derived.Tactics
import Derived.Test.YtmomohljnmopfaaPK
section
namespace Go.Proofs.YtmomohljnmopfaaX
open Go.RowKit Go.Lib Go.Proofs.YtmomohljnmopfaaW.PrintWords Go.Proofs.YtmomohljnmopfaaW.PrintLast Go.Proofs.YtmomohljnmopfaaW.PrintMore
set_option linter.unusedVariables false
set_option linter.unusedSimpArgs false
theorem ndid_sub {h : Nat} {w w' : World} {b : Nat} {S R : List Nat} {t' : T h} {o o' : List Nat} (hS : ∀ k, k ∈ S ↔ k ∈ o ++ R) (mv : Mv o w o' w') (hn : ∃ S', NodeAt h w' b t' S' ∧ ∀ k, k ∈ S' → k ∈ o' ++ R) : NDid h w w' b S t' := by
  obtain ⟨S', h1, h2⟩ := hn
  refine ⟨S', h1, mv.fr.mono (fun x hx => (hS x).2 (List.mem_append_left _ hx)), fun k hk => ?_⟩
  rcases List.mem_append.1 (h2 k hk) with h9 | h9
  · exact (mv.sub k h9).imp (fun h8 => (hS k).2 (List.mem_append_left _ h8)) id
  · exact .inl ((hS k).2 (List.mem_append_right _ h9))
theorem encKs_snoc (ks : List Nm) (k : Nm) : encKs (ks ++ [k]) = encKs ks ++ [.string ⟨k.toArray⟩] := by simp [encKs, encN]
theorem encKs_cons (ks : List Nm) (k : Nm) : encKs (k :: ks) = .string ⟨k.toArray⟩ :: encKs ks := rfl
theorem encKs_app (a c : List Nm) : encKs (a ++ c) = encKs a ++ encKs c := by simp [encKs]
theorem keysOf_app (a c : List KV) : keysOf (a ++ c) = keysOf a ++ keysOf c := by simp [keysOf]
theorem encVs_app (a c : List KV) : encVs (a ++ c) = encVs a ++ encVs c := by simp [encVs]
theorem encKs_set_mid (A B : List Nm) (s u : Nm) : (encKs (A ++ s :: B)).set A.length (.string ⟨u.toArray⟩) = encKs (A ++ u :: B) := by
  rw [encKs_mid, encKs_mid, ← encKs_len A]; exact mid_set
theorem encKs_del_mid (A B : List Nm) (s : Nm) : delAt A.length (encKs (A ++ s :: B)) = encKs (A ++ B) := by
  rw [← encKs_delAt, del_mid]
theorem encKs_at_mid (A B : List Nm) (s : Nm) : (encKs (A ++ s :: B))[A.length]? = some (.string ⟨s.toArray⟩) := by
  rw [encKs_mid, ← encKs_len A]; exact mid_get
theorem ptrs_at (B1 B2 : List Nat) (lb rb : Nat) : ((B1 ++ lb :: rb :: B2).map encP)[B1.length]? = some (encP lb) ∧ ((B1 ++ lb :: rb :: B2).map encP)[B1.length + 1]? = some (encP rb) := by
  rw [List.getElem?_map, List.getElem?_map, at_mid, at_mid2]; exact ⟨rfl, rfl⟩
theorem ptrs_del_mid (B1 B2 : List Nat) (lb rb : Nat) : delAt (B1.length + 1) ((B1 ++ lb :: rb :: B2).map encP) = (B1 ++ lb :: B2).map encP := by
  rw [← ptrs_delAt, del_mid2]
theorem lenK (r : T 0) : (encKs (keysOf r)).length = sizeT 0 r := by rw [encKs_len]; exact keysOf_len _
theorem lenV (r : T 0) : (encVs r).length = sizeT 0 r := encVs_len _
section
variable {w : World} {b : Nat} {S : List Nat} {A B : List Nm} {s : Nm}
theorem bor_right : ∀ {h : Nat} {l r : T h} {C1 C2 : List (T h)}, NodeAt (h + 1) w b (mkT (A ++ s :: B) (C1 ++ l :: r :: C2)) S → A.length = C1.length → 2 ≤ sizeT h l → sizeT h l ≤ 500 → sizeT h r ≤ 500 → (C1 ++ l :: r :: C2).length ≤ 500 →
    Calls Try.prog 51 #[.pointer (some ⟨b, 0, none⟩), .int .i64 A.length, .bool true] w fun e w' => e = .returned (.tuple #[]) ∧ NDid (h + 1) w w' b S (mkT (A ++ (borR h l s r).2.1 :: B) (C1 ++ (borR h l s r).1 :: (borR h l s r).2.2 :: C2))
  | 0, l, r, C1, C2, hh, hA, h1, h2, h3, h4 => by
    have h4 : C1.length + C2.length + 2 ≤ 500 := by simp only [List.length_append, List.length_cons] at h4; omega
    obtain ⟨a, p, rfl⟩ : ∃ (a : List KV) (p : KV), l = a ++ [p] := list_last (Nat.lt_of_lt_of_le (by omega) h1)
    rw [borR0 a p s r]
    obtain ⟨B1, lb, rb, B2, kn, cn, kl, xl, kr, xr, S1, S3, e1, e2, ar, bt, hS⟩ := openL hh
    have hi : A.length = B1.length := by omega
    have e9 := kids_len ar.left
    have e8 := kids_len ar.right
    have hc : (B1 ++ lb :: rb :: B2).length ≤ 500 := by simp only [List.length_append, List.length_cons]; omega
    have h2' : (a ++ [p]).length ≤ 500 := h2
    have h3' : List.length (α := KV) r ≤ 500 := h3
    have bt2 := bt
    rw [keysOf_app, encVs_app, encKs_app (keysOf a)] at bt2
    have bt2 : Bt true w b lb rb kn cn kl xl kr xr (encKs (A ++ s :: B)) ((B1 ++ lb :: rb :: B2).map encP) (encKs (keysOf a) ++ [.string ⟨p.1.toArray⟩]) (encVs a ++ [.string p.2]) (encKs (keysOf r)) (encVs r) (S1 ++ S3) := bt2
    refine (bor1 bt2 (i := A.length) (by rw [hi]; exact (ptrs_at ..).1) (by rw [hi]; exact (ptrs_at ..).2) (by rw [encKs_len]; simp) (by rw [encKs_len, keysOf_len, encVs_len]) (by rw [lenK, lenV]) (by rw [List.length_map]; omega) (by rw [encKs_len, keysOf_len]; simp at h2'; omega) (by rw [lenK]; omega)).mono ?_
    rintro e w' ⟨rfl, kn', cn', kl', xl', kr', xr', bt', mv⟩
    rw [encKs_set_mid] at bt'
    have ar' := ar.step (bt.rest mv)
    exact ⟨rfl, ndid_of hS mv (closeL (l := a) (r := p :: r) (ks := A ++ p.1 :: B) (by simp only [List.length_append, List.length_cons] at e2 ⊢; omega) ar' bt')⟩
  | g + 1, (lk, lc), (rk, rc), C1, C2, hh, hA, h1, h2, h3, h4 => by
    have h4 : C1.length + C2.length + 2 ≤ 500 := by simp only [List.length_append, List.length_cons] at h4; omega
    obtain ⟨B1, lb, rb, B2, kn, cn, kl, xl, kr, xr, S1, S3, bl, br, SS, e1, e2, ar, hkk, f1, f2, f3, f4, bt, hS⟩ := openI hh
    have h1' : 2 ≤ lc.length := h1
    have h2' : lc.length ≤ 500 := h2
    have h3' : rc.length ≤ 500 := h3
    have f1' : bl.length = lc.length := f1
    have f2' : br.length = rc.length := f2
    have f3' : lc.length = lk.length + 1 := f3
    have f4' : rc.length = rk.length + 1 := f4
    obtain ⟨ka, k, rfl⟩ := list_last (l := lk) (by omega)
    obtain ⟨ca, c, rfl⟩ := list_last (l := lc) (by omega)
    obtain ⟨ba, d, rfl⟩ := list_last (l := bl) (by omega)
    have hbr := borRS ka k ca c s (rk, rc)
    simp only [List.length_append, List.length_cons, List.length_nil] at h1' h2' f1' f3'
    have hi : A.length = B1.length := by omega
    have e9 := kids_len ar.left
    have e8 := kids_len ar.right
    have hc : (B1 ++ lb :: rb :: B2).length ≤ 500 := by simp only [List.length_append, List.length_cons]; omega
    have bt2 : Bt false w b lb rb kn cn kl xl kr xr (encKs (A ++ s :: B)) ((B1 ++ lb :: rb :: B2).map encP) (encKs ka ++ [.string ⟨k.toArray⟩]) (ba.map encP ++ [encP d]) (encKs rk) (br.map encP) (S1 ++ (SS ++ S3)) := by
      have h9 := bt
      show Bt false w b lb rb kn cn kl xl kr xr _ _ _ _ (encKs rk) _ _
      rw [← encKs_snoc]
      have e7 : ba.map encP ++ [encP d] = (ba ++ [d]).map encP := by simp
      rw [e7]
      exact h9
    refine (bor3 bt2 (i := A.length) (by rw [hi]; exact (ptrs_at ..).1) (by rw [hi]; exact (ptrs_at ..).2) (encKs_at_mid A B s) (by rw [encKs_len, List.length_map]; omega) (by rw [List.length_map]; omega) (by rw [List.length_map]; omega) (by rw [encKs_len]; omega) (by rw [List.length_map]; omega)).mono ?_
    rintro e w' ⟨rfl, kn', cn', kl', xl', kr', xr', bt', mv⟩
    rw [encKs_set_mid] at bt'
    have hrest := bt.rest mv
    have ar' := ar.step (fun q hq => hrest q (by simp only [List.mem_append] at hq ⊢; rcases hq with hq | hq <;> simp [hq]))
    have hkk' : KidsAt (NodeAt g w') (ba ++ (d :: br)) (ca ++ (c :: rc)) SS := by
      have h9 : KidsAt (NodeAt g w') ((ba ++ [d]) ++ br) ((ca ++ [c]) ++ rc) SS := kids_imp hkk (fun b' c' T hs hr => node_step hr (fun q hq => hrest q (by simp [hs q hq])))
      rw [List.append_assoc, List.append_assoc] at h9
      exact h9
    refine ⟨rfl, ndid_of hS mv ?_⟩
    have hcl := closeI (g := g) (l := (ka, ca)) (r := (s :: rk, c :: rc)) (ks := A ++ k :: B) (C1 := C1) (C2 := C2) (by simp only [List.length_append, List.length_cons] at e2 ⊢; omega) ar' hkk' (by show ba.length = ca.length; omega) (by show ca.length = ka.length + 1; omega) (by show (c :: rc).length = (s :: rk).length + 1; simp only [List.length_cons]; omega) bt'
    rw [hbr]
    exact hcl
theorem borL0 (l : List KV) (p q : KV) (s : Nm) (r : List KV) : borL 0 l s (p :: q :: r) = (l ++ [p], q.1, q :: r) := rfl
theorem borLS {h : Nat} (l : T (h + 1)) (s k : Nm) (rk : List Nm) (d : T h) (rc : List (T h)) : borL (h + 1) l s (k :: rk, d :: rc) = ((l.1 ++ [s], l.2 ++ [d]), k, (rk, rc)) := rfl
theorem bor_left : ∀ {h : Nat} {l r : T h} {C1 C2 : List (T h)}, NodeAt (h + 1) w b (mkT (A ++ s :: B) (C1 ++ l :: r :: C2)) S → A.length = C1.length → 3 ≤ sizeT h r → sizeT h l ≤ 500 → sizeT h r ≤ 500 → (C1 ++ l :: r :: C2).length ≤ 500 →
    Calls Try.prog 51 #[.pointer (some ⟨b, 0, none⟩), .int .i64 A.length, .bool false] w fun e w' => e = .returned (.tuple #[]) ∧ NDid (h + 1) w w' b S (mkT (A ++ (borL h l s r).2.1 :: B) (C1 ++ (borL h l s r).1 :: (borL h l s r).2.2 :: C2))
  | 0, l, r, C1, C2, hh, hA, h1, h2, h3, h4 => by
    have h4 : C1.length + C2.length + 2 ≤ 500 := by simp only [List.length_append, List.length_cons] at h4; omega
    obtain ⟨p, q, r, rfl⟩ : ∃ (p q : KV) (r' : List KV), r = p :: q :: r' := by
      match r, h1 with
      | p :: q :: r', _ => exact ⟨p, q, r', rfl⟩
      | [p], h1 => exact absurd h1 (by show ¬ 3 ≤ 1; omega)
      | [], h1 => exact absurd h1 (by show ¬ 3 ≤ 0; omega)
    rw [borL0 l p q s r]
    obtain ⟨B1, lb, rb, B2, kn, cn, kl, xl, kr, xr, S1, S3, e1, e2, ar, bt, hS⟩ := openL hh
    have hi : A.length = B1.length := by omega
    have e9 := kids_len ar.left
    have e8 := kids_len ar.right
    have hc : (B1 ++ lb :: rb :: B2).length ≤ 500 := by simp only [List.length_append, List.length_cons]; omega
    have h2' : List.length (α := KV) l ≤ 500 := h2
    have h3' : (p :: q :: r).length ≤ 500 := h3
    simp only [List.length_cons] at h3'
    refine (bor2 (us := ⟨p.1.toArray⟩) (u2 := ⟨q.1.toArray⟩) (qs := p.2) (xs2 := encKs (keysOf r)) (ys2 := encVs (q :: r)) bt (i := A.length) (by rw [hi]; exact (ptrs_at ..).1) (by rw [hi]; exact (ptrs_at ..).2) (by rw [encKs_len]; simp) (by rw [encVs_len]; simp) (by rw [List.length_map]; omega) (by rw [lenK]; omega) (by rw [lenV]; omega) (by rw [encKs_len, keysOf_len]; omega) (by rw [encVs_len]; simp only [List.length_cons]; omega)).mono ?_
    rintro e w' ⟨rfl, kn', cn', kl', xl', kr', xr', bt', mv⟩
    rw [encKs_set_mid] at bt'
    have ar' := ar.step (bt.rest mv)
    refine ⟨rfl, ndid_of hS mv (closeL (l := List.append (α := KV) l [p]) (r := q :: r) (ks := A ++ q.1 :: B) (by simp only [List.length_append, List.length_cons] at e2 ⊢; omega) ar' ?_)⟩
    have e7 : encKs (keysOf (List.append (α := KV) l [p])) = encKs (keysOf l) ++ encKs (keysOf [p]) := by
      refine (congrArg encKs (keysOf_app _ _)).trans (encKs_app _ _)
    have e6 : encVs (List.append (α := KV) l [p]) = encVs l ++ encVs [p] := encVs_app _ _
    rw [e7, e6]
    exact bt'
  | g + 1, (lk, lc), (rk, rc), C1, C2, hh, hA, h1, h2, h3, h4 => by
    have h4 : C1.length + C2.length + 2 ≤ 500 := by simp only [List.length_append, List.length_cons] at h4; omega
    obtain ⟨B1, lb, rb, B2, kn, cn, kl, xl, kr, xr, S1, S3, bl, br, SS, e1, e2, ar, hkk, f1, f2, f3, f4, bt, hS⟩ := openI hh
    have h1' : 3 ≤ rc.length := h1
    have h2' : lc.length ≤ 500 := h2
    have h3' : rc.length ≤ 500 := h3
    have f1' : bl.length = lc.length := f1
    have f2' : br.length = rc.length := f2
    have f3' : lc.length = lk.length + 1 := f3
    have f4' : rc.length = rk.length + 1 := f4
    obtain ⟨k, rk, rfl⟩ : ∃ k rk', rk = k :: rk' := by
      match rk, f4' with
      | k :: rk', _ => exact ⟨k, rk', rfl⟩
      | [], h9 => simp at h9; omega
    obtain ⟨d, rc, rfl⟩ : ∃ d rc', rc = d :: rc' := by
      match rc, h1' with
      | d :: rc', _ => exact ⟨d, rc', rfl⟩
    obtain ⟨db, br, rfl⟩ : ∃ db br', br = db :: br' := by
      match br, f2' with
      | db :: br', _ => exact ⟨db, br', rfl⟩
    have hbr := borLS (lk, lc) s k rk d rc
    simp only [List.length_cons] at h1' h3' f2' f4'
    have hi : A.length = B1.length := by omega
    have e9 := kids_len ar.left
    have e8 := kids_len ar.right
    have hc : (B1 ++ lb :: rb :: B2).length ≤ 500 := by simp only [List.length_append, List.length_cons]; omega
    refine (bor4 (us := ⟨k.toArray⟩) (ss := ⟨s.toArray⟩) (d := db) (xsl := encKs lk) (ysl := bl.map encP) (xs2 := encKs rk) (ys2 := br.map encP) (R := S1 ++ (SS ++ S3)) bt (i := A.length) (by rw [hi]; exact (ptrs_at ..).1) (by rw [hi]; exact (ptrs_at ..).2) (encKs_at_mid A B s) (by rw [encKs_len]; omega) (by rw [List.length_map]; omega) (by rw [List.length_map]; omega) (by rw [encKs_len]; omega) (by rw [List.length_map]; omega) (by rw [encKs_len]; omega) (by rw [List.length_map]; omega) (by rw [List.length_map]; omega)).mono ?_
    rintro e w' ⟨rfl, kn', cn', kl', xl', kr', xr', bt', mv⟩
    rw [encKs_set_mid] at bt'
    have hrest := Bt.rest (R := S1 ++ (SS ++ S3)) bt mv
    have ar' := ar.step (fun q hq => hrest q (by simp only [List.mem_append] at hq ⊢; rcases hq with hq | hq <;> simp [hq]))
    have hkk' : KidsAt (NodeAt g w') ((bl ++ [db]) ++ br) ((lc ++ [d]) ++ rc) SS := by
      have h9 : KidsAt (NodeAt g w') (bl ++ (db :: br)) (lc ++ (d :: rc)) SS := kids_imp hkk (fun b' c' T hs hr => node_step hr (fun q hq => hrest q (by simp [hs q hq])))
      rw [List.append_assoc, List.append_assoc]
      exact h9
    refine ⟨rfl, ndid_of hS mv ?_⟩
    have bt2 : Bt false w' b lb rb kn' cn' kl' xl' kr' xr' (encKs (A ++ k :: B)) ((B1 ++ lb :: rb :: B2).map encP) (encKs (lk ++ [s])) ((bl ++ [db]).map encP) (encKs rk) (br.map encP) (S1 ++ (SS ++ S3)) := by
      rw [encKs_snoc, show (bl ++ [db]).map encP = bl.map encP ++ [encP db] by simp]
      exact bt'
    have hcl := closeI (g := g) (l := (lk ++ [s], lc ++ [d])) (r := (rk, rc)) (ks := A ++ k :: B) (C1 := C1) (C2 := C2) (by simp only [List.length_append, List.length_cons] at e2 ⊢; omega) ar' hkk' (by show (bl ++ [db]).length = (lc ++ [d]).length; simp; omega) (by show (lc ++ [d]).length = (lk ++ [s]).length + 1; simp; omega) (by show rc.length = rk.length + 1; omega) bt2
    rw [hbr]
    exact hcl
/-- The kids' rows are those of one leaf. -/
theorem closeML {w : World} {lb rb : Nat} {kn cn kl xl kr xr : Value} {ks : List Nm} {B1 B2 S1 S3 : List Nat} {l : T 0} {xsr ysr : List Value} {C1 C2 : List (T 0)} (hl : (B1 ++ lb :: B2).length = ks.length + 1) (ar : Around 0 w B1 B2 C1 C2 S1 S3)
    (bt : Bt true w b lb rb kn cn kl xl kr xr (encKs ks) ((B1 ++ lb :: B2).map encP) (encKs (keysOf l)) (encVs l) xsr ysr (S1 ++ S3)) :
    ∃ S', NodeAt 1 w b (mkT (h := 0) ks (C1 ++ l :: C2)) S' ∧ ∀ k, k ∈ S' → k ∈ o3 b lb rb kn cn kl xl kr xr ++ (S1 ++ S3) := by
  have e1 := kids_len ar.left
  have e2 := kids_len ar.right
  have hnd : ((b :: (kn.ownBlock.toList ++ (cn.ownBlock.toList ++ (S1 ++ (oN lb kl xl ++ S3))))) ++ oN rb kr xr).Nodup := nd_perm bt.nd (fun a => by simp only [oN, List.count_append, List.count_cons]; omega)
  have nl : (oN lb kl xl).Nodup := (List.nodup_append.1 (List.nodup_append.1 bt.nd).2.1).1
  have hL : LeafAt w lb l (oN lb kl xl) := ⟨kl, xl, bt.hl, bt.kl_, bt.xl_, rfl, nl⟩
  have hk : KidsAt (NodeAt 0 w) (B1 ++ lb :: B2) (C1 ++ l :: C2) (S1 ++ (oN lb kl xl ++ S3)) := kids_app ar.left ⟨_, _, hL, ar.right, rfl⟩
  refine ⟨b :: (kn.ownBlock.toList ++ (cn.ownBlock.toList ++ (S1 ++ (oN lb kl xl ++ S3)))), ⟨kn, cn, _, _, bt.hn, bt.kn_, bt.cn_, hk, ?_, rfl, (List.nodup_append.1 hnd).1⟩, fun k => ?_⟩
  · show (C1 ++ l :: C2 : List (T 0)).length = ks.length + 1
    rw [← hl]
    simp only [List.length_append, List.length_cons]; omega
  · simp only [o3, oN, List.mem_append, List.mem_cons]
    grind
theorem closeMI {w : World} {g lb rb : Nat} {kn cn kl xl kr xr : Value} {ks : List Nm} {B1 B2 S1 S3 bl SS : List Nat} {l : T (g + 1)} {xsr ysr : List Value} {C1 C2 : List (T (g + 1))} (hl : (B1 ++ lb :: B2).length = ks.length + 1) (ar : Around (g + 1) w B1 B2 C1 C2 S1 S3)
    (hkk : KidsAt (NodeAt g w) bl l.2 SS) (l2 : l.2.length = l.1.length + 1)
    (bt : Bt false w b lb rb kn cn kl xl kr xr (encKs ks) ((B1 ++ lb :: B2).map encP) (encKs l.1) (bl.map encP) xsr ysr (S1 ++ (SS ++ S3))) :
    ∃ S', NodeAt (g + 2) w b (mkT (h := g + 1) ks (C1 ++ l :: C2)) S' ∧ ∀ k, k ∈ S' → k ∈ o3 b lb rb kn cn kl xl kr xr ++ (S1 ++ (SS ++ S3)) := by
  have e1 := kids_len ar.left
  have e2 := kids_len ar.right
  have hnd : ((b :: (kn.ownBlock.toList ++ (cn.ownBlock.toList ++ (S1 ++ ((oN lb kl xl ++ SS) ++ S3))))) ++ oN rb kr xr).Nodup := nd_perm bt.nd (fun a => by simp only [oN, List.count_append, List.count_cons]; omega)
  have hnd2 : ((oN lb kl xl ++ SS) ++ ((oN rb kr xr) ++ (oN b kn cn ++ (S1 ++ S3)))).Nodup := nd_perm bt.nd (fun a => by simp only [oN, List.count_append, List.count_cons]; omega)
  have hL : NodeAt (g + 1) w lb l (oN lb kl xl ++ SS) := ⟨kl, xl, bl, SS, bt.hl, bt.kl_, bt.xl_, hkk, l2, by simp [oN], (List.nodup_append.1 hnd2).1⟩
  have hk : KidsAt (NodeAt (g + 1) w) (B1 ++ lb :: B2) (C1 ++ l :: C2) (S1 ++ ((oN lb kl xl ++ SS) ++ S3)) := kids_app ar.left ⟨_, _, hL, ar.right, rfl⟩
  refine ⟨b :: (kn.ownBlock.toList ++ (cn.ownBlock.toList ++ (S1 ++ ((oN lb kl xl ++ SS) ++ S3)))), ⟨kn, cn, _, _, bt.hn, bt.kn_, bt.cn_, hk, ?_, rfl, (List.nodup_append.1 hnd).1⟩, fun k => ?_⟩
  · show (C1 ++ l :: C2 : List (T (g + 1))).length = ks.length + 1
    rw [← hl]
    simp only [List.length_append, List.length_cons]; omega
  · simp only [o3, oN, List.mem_append, List.mem_cons]
    grind
theorem mer_calls : ∀ {h : Nat} {l r : T h} {C1 C2 : List (T h)}, NodeAt (h + 1) w b (mkT (A ++ s :: B) (C1 ++ l :: r :: C2)) S → A.length = C1.length → sizeT h l ≤ 500 → sizeT h r ≤ 500 → (C1 ++ l :: r :: C2).length ≤ 500 →
    Calls Try.prog 52 #[.pointer (some ⟨b, 0, none⟩), .int .i64 A.length] w fun e w' => e = .returned (.tuple #[]) ∧ NDid (h + 1) w w' b S (mkT (A ++ B) (C1 ++ merT h l s r :: C2))
  | 0, l, r, C1, C2, hh, hA, h2, h3, h4 => by
    have h4 : C1.length + C2.length + 2 ≤ 500 := by simp only [List.length_append, List.length_cons] at h4; omega
    obtain ⟨B1, lb, rb, B2, kn, cn, kl, xl, kr, xr, S1, S3, e1, e2, ar, bt, hS⟩ := openL hh
    have hi : A.length = B1.length := by omega
    have e9 := kids_len ar.left
    have e8 := kids_len ar.right
    have hc : (B1 ++ lb :: rb :: B2).length ≤ 500 := by simp only [List.length_append, List.length_cons]; omega
    have h2' : List.length (α := KV) l ≤ 500 := h2
    have h3' : List.length (α := KV) r ≤ 500 := h3
    refine (mer1 bt (i := A.length) (by rw [hi]; exact (ptrs_at ..).1) (by rw [hi]; exact (ptrs_at ..).2) (by rw [encKs_len]; simp) (by rw [encKs_len]; omega) (by rw [List.length_map]; omega) (by rw [lenK]; omega) (by rw [lenV]; omega) (by rw [lenK]; omega) (by rw [lenV]; omega)).mono ?_
    rintro e w' ⟨rfl, kn', cn', kl', xl', bt', mv⟩
    rw [encKs_del_mid, hi, ptrs_del_mid] at bt'
    have ar' := ar.step (bt.rest mv)
    refine ⟨rfl, ndid_sub hS mv (closeML (l := List.append (α := KV) l r) (xsr := encKs (keysOf r)) (ysr := encVs r) (ks := A ++ B) (by simp only [List.length_append, List.length_cons] at e2 ⊢; omega) ar' ?_)⟩
    have e7 : encKs (keysOf (List.append (α := KV) l r)) = encKs (keysOf l) ++ encKs (keysOf r) := (congrArg encKs (keysOf_app _ _)).trans (encKs_app _ _)
    have e6 : encVs (List.append (α := KV) l r) = encVs l ++ encVs r := encVs_app _ _
    rw [e7, e6]
    exact bt'
  | g + 1, (lk, lc), (rk, rc), C1, C2, hh, hA, h2, h3, h4 => by
    have h4 : C1.length + C2.length + 2 ≤ 500 := by simp only [List.length_append, List.length_cons] at h4; omega
    obtain ⟨B1, lb, rb, B2, kn, cn, kl, xl, kr, xr, S1, S3, bl, br, SS, e1, e2, ar, hkk, f1, f2, f3, f4, bt, hS⟩ := openI hh
    have h2' : lc.length ≤ 500 := h2
    have h3' : rc.length ≤ 500 := h3
    have f1' : bl.length = lc.length := f1
    have f2' : br.length = rc.length := f2
    have f3' : lc.length = lk.length + 1 := f3
    have f4' : rc.length = rk.length + 1 := f4
    have hi : A.length = B1.length := by omega
    have e9 := kids_len ar.left
    have e8 := kids_len ar.right
    have hc : (B1 ++ lb :: rb :: B2).length ≤ 500 := by simp only [List.length_append, List.length_cons]; omega
    refine (mer2 (ss := ⟨s.toArray⟩) (R := S1 ++ (SS ++ S3)) bt (i := A.length) (by rw [hi]; exact (ptrs_at ..).1) (by rw [hi]; exact (ptrs_at ..).2) (by rw [encKs_len]; simp) (encKs_at_mid A B s) (by rw [List.length_map]; omega) (by rw [encKs_len]; omega) (by rw [List.length_map]; omega) (by rw [encKs_len]; omega) (by rw [List.length_map]; omega) (by rw [encKs_len]; omega) (by rw [List.length_map]; omega)).mono ?_
    rintro e w' ⟨rfl, kn', cn', kl', xl', bt', mv⟩
    rw [encKs_del_mid, hi, ptrs_del_mid] at bt'
    have hrest := Bt.rest (R := S1 ++ (SS ++ S3)) bt mv
    have ar' := ar.step (fun q hq => hrest q (by simp only [List.mem_append] at hq ⊢; rcases hq with hq | hq <;> simp [hq]))
    have hkk' : KidsAt (NodeAt g w') (bl ++ br) (lc ++ rc) SS := kids_imp hkk (fun b' c' T hs hr => node_step hr (fun q hq => hrest q (by simp [hs q hq])))
    have bt2 : Bt false w' b lb rb kn' cn' kl' xl' kr xr (encKs (A ++ B)) ((B1 ++ lb :: B2).map encP) (encKs (lk ++ s :: rk)) ((bl ++ br).map encP) (encKs rk) (br.map encP) (S1 ++ (SS ++ S3)) := by
      rw [encKs_app lk, encKs_cons, show (bl ++ br).map encP = bl.map encP ++ br.map encP by simp]
      exact bt'
    exact ⟨rfl, ndid_sub hS mv (closeMI (g := g) (xsr := encKs rk) (ysr := br.map encP) (l := (lk ++ s :: rk, lc ++ rc)) (ks := A ++ B) (C1 := C1) (C2 := C2) (by simp only [List.length_append, List.length_cons] at e2 ⊢; omega) ar' hkk' (by show (lc ++ rc).length = (lk ++ s :: rk).length + 1; simp; omega) bt2)⟩
end
end Go.Proofs.YtmomohljnmopfaaX
end
section
namespace Go.Proofs.YtmomohljnmopfaaX
open Go.RowKit Go.Lib Go.Proofs.YtmomohljnmopfaaW.PrintWords Go.Proofs.YtmomohljnmopfaaW.PrintLast Go.Proofs.YtmomohljnmopfaaW.PrintMore
set_option linter.unusedVariables false
set_option linter.unusedSimpArgs false
attribute [local go_sem high] eqlNil71 eqlNil72
theorem w64n {q : Nat} (h : q ≤ 100000) : wrap64 (q : Int) = (q : Int) := by unfold wrap64; omega
theorem i64n {q : Nat} (h : q ≤ 100000) : IntKind.i64.wrap (q : Int) = (q : Int) := by rw [i64_w]; exact w64n h
theorem w64p {i p : Nat} (h : i ≤ 100000) (e : i + 1 = p) : wrap64 ((i : Int) + 1) = (p : Int) := by unfold wrap64; omega
theorem i64p {i p : Nat} (h : i ≤ 100000) (e : i + 1 = p) : IntKind.i64.wrap ((i : Int) + 1) = (p : Int) := by rw [i64_w]; exact w64p h e
theorem w64m {i j : Nat} (h : i ≤ 100000) (e : i = j + 1) : wrap64 ((i : Int) - 1) = (j : Int) := by unfold wrap64; omega
theorem i64m {i j : Nat} (h : i ≤ 100000) (e : i = j + 1) : IntKind.i64.wrap ((i : Int) - 1) = (j : Int) := by rw [i64_w]; exact w64m h e
theorem split2 {α : Type} {ks : List Nm} {cs : List α} {j : Nat} (hl : cs.length = ks.length + 1) (hj : j + 1 < cs.length) : ∃ A s B C1 l r C2, ks = A ++ s :: B ∧ cs = C1 ++ l :: r :: C2 ∧ A.length = j ∧ C1.length = j := by
  obtain ⟨s, hs⟩ : ∃ s, ks[j]? = some s := ⟨_, List.getElem?_eq_getElem (by omega)⟩
  obtain ⟨l, hl1⟩ : ∃ l, cs[j]? = some l := ⟨_, List.getElem?_eq_getElem (by omega)⟩
  obtain ⟨r, hr⟩ : ∃ r, (cs.drop (j + 1))[0]? = some r := ⟨_, List.getElem?_eq_getElem (by rw [List.length_drop]; omega)⟩
  have e1 := take_get hs
  have e2 := take_get hl1
  have e3 := take_get hr
  rw [List.take_zero, List.nil_append] at e3
  refine ⟨ks.take j, s, ks.drop (j + 1), cs.take j, l, r, (cs.drop (j + 1)).drop 1, e1, ?_, by rw [List.length_take]; omega, by rw [List.length_take]; omega⟩
  rw [← e3]
  exact e2
theorem sizeAt_get {h : Nat} {ks : List Nm} {cs : List (T h)} {j : Nat} {c : T h} (hc : cs[j]? = some c) : sizeAt (mkT ks cs) j = sizeT h c := by
  unfold sizeAt mkT
  simp only [hc]
theorem inner_kids {h : Nat} {w : World} {b : Nat} {ks : List Nm} {cs : List (T h)} {S : List Nat} (hh : NodeAt (h + 1) w b (mkT ks cs) S) :
    ∃ kv gv cv, w.heap[b]? = some (.cells #[kv, .slice none 0 0, .slice (some ⟨gv, 0, none⟩) cs.length cv] 74 (0, 0)) ∧ RowV 9 w kv (encKs ks) ∧ cs.length = ks.length + 1 ∧ cs.length ≤ cv ∧ ∀ j c, cs[j]? = some c → ∃ kb Sc, w.cell? ⟨gv, j, none⟩ = some (encP kb) ∧ NodeAt h w kb c Sc ∧ ∀ k ∈ Sc, k ∈ S := by
  have H := hh
  obtain ⟨kv, cv, bs, S2, h1, hk, hv, hkids, hlen, hS, hn⟩ := hh
  have hkids : KidsAt (NodeAt h w) bs cs S2 := hkids
  have hlen : cs.length = ks.length + 1 := hlen
  have hbl := kids_len hkids
  obtain ⟨gv, cp, rfl⟩ := row_some hv (by rw [List.length_map]; omega)
  have hcap := hv.cap.2
  rw [List.length_map, hbl] at h1 hcap
  refine ⟨kv, gv, cp, h1, hk, hlen, hcap, fun j c hc => ?_⟩
  obtain ⟨kv', gv', cv', kb, Sc, hb', -, hcell, hn', hsub, -⟩ := inner_kid H hc
  rw [h1] at hb'
  have e9 : gv' = gv := by
    simp only [Option.some.injEq, Obj.cells.injEq, Array.mk.injEq, List.cons.injEq, Value.slice.injEq, Addr.mk.injEq] at hb'
    exact hb'.1.2.2.1.1.1.symm
  rw [e9] at hcell
  exact ⟨kb, Sc, hcell, hn', hsub⟩
def WidenS (m tb h : Nat) (w : World) (b : Nat) (S : List Nat) (ks : List Nm) (cs : List (T h)) (i : Nat) : Prop :=
  Calls Try.prog 46 #[.pointer (some ⟨tb, 0, none⟩), .pointer (some ⟨b, 0, none⟩), .int .i64 i] w fun e w' => e = .returned (.tuple #[]) ∧ NDid (h + 1) w w' b S (widenT m (mkT ks cs) i)
section
variable {m tb h : Nat} {w : World} {b : Nat} {S : List Nat} {ks : List Nm} {cs : List (T h)} {i : Nat}
set_option maxRecDepth 100000 in
set_option maxHeartbeats 8000000 in
theorem widen_none (h4 : 4 ≤ m) (hm : m ≤ 64) (hn : NodeAt (h + 1) w b (mkT ks cs) S) {c : T h} (hc : cs[i]? = some c) (h64 : cs.length ≤ 500) (ht : w.cell? ⟨tb, 0, none⟩ = some (.int .i64 m)) (g1 : m / 2 ≤ sizeT h c) : WidenS m tb h w b S ks cs i := by
  have hw : widenT m (mkT ks cs) i = mkT ks cs := by unfold widenT; rw [sizeAt_get hc, if_pos g1]
  unfold WidenS
  rw [hw]
  obtain ⟨kv, gv, cv, hb, -, -, -, hkid⟩ := inner_kids hn
  obtain ⟨c0, c1, c2⟩ := inner_cells hb
  obtain ⟨kb, Sc, k0, n0, -⟩ := hkid i c hc
  have z0 := size_calls n0
  have hil := (List.getElem?_eq_some_iff.1 hc).1
  obtain ⟨z, hz⟩ : ∃ z, sizeT h c = z := ⟨_, rfl⟩
  obtain ⟨q, hq⟩ : ∃ q, m / 2 = q := ⟨_, rfl⟩
  rw [hz] at z0 g1
  rw [hq] at g1
  have e1 : (m : Int) / 2 = (q : Int) := by omega
  have hq5 : q ≤ 100000 := by omega
  have hi5 : i ≤ 100000 := by omega
  have e2 : (i : Int) < (cs.length : Int) := by omega
  have e3 : decide ((q : Int) ≤ (z : Int)) = true := decide_eq_true (by omega)
  have e4 : decide (q ≤ z) = true := decide_eq_true g1
  unfold encP at k0
  have HN := Aside0.mk hn
  have e9 := w64n hq5
  have e9' := i64n hq5
  clear hn hb hkid n0 hc hz hq c0 c1 hq5 hi5
  go_enter Try.func46, Try.ntmps46
  go_wp2_with (go_at_call 35; refine z0.mono ?_; rintro e w1 ⟨rfl, rfl⟩)
  go_end0
  exact ⟨rfl, S, HN.out, Fr.refl S _, fun k hk => .inl hk⟩
theorem ndid_eq {h : Nat} {w w' : World} {b : Nat} {S : List Nat} {t t' : T h} (h9 : NDid h w w' b S t) (e : t = t') : NDid h w w' b S t' := e ▸ h9
set_option maxRecDepth 100000 in
set_option maxHeartbeats 8000000 in
theorem widen_bR (h4 : 4 ≤ m) (hm : m ≤ 64) (hn : NodeAt (h + 1) w b (mkT ks cs) S) {c : T h} (hc : cs[i]? = some c) (h64 : cs.length ≤ 500) (hsz : ∀ c ∈ cs, sizeT h c ≤ 500) (ht : w.cell? ⟨tb, 0, none⟩ = some (.int .i64 m)) (g1 : ¬ m / 2 ≤ sizeT h c) (g2 : 0 < i) (g3 : m / 2 < sizeAt (mkT ks cs) (i - 1)) : WidenS m tb h w b S ks cs i := by
  obtain ⟨kv, gv, cv, hb, -, hl, -, hkid⟩ := inner_kids hn
  obtain ⟨c0, c1, c2⟩ := inner_cells hb
  obtain ⟨kb, Sc, k0, n0, -⟩ := hkid i c hc
  have z0 := size_calls n0
  have hil := (List.getElem?_eq_some_iff.1 hc).1
  obtain ⟨z, hz⟩ : ∃ z, sizeT h c = z := ⟨_, rfl⟩
  obtain ⟨q, hq⟩ : ∃ q, m / 2 = q := ⟨_, rfl⟩
  obtain ⟨n, hnn⟩ : ∃ n, cs.length = n := ⟨_, rfl⟩
  rw [hnn] at hil h64 hl c2
  rw [hz] at z0 g1
  rw [hq] at g1
  have e1 : (m : Int) / 2 = (q : Int) := by omega
  have hq5 : q ≤ 100000 := by omega
  have hi5 : i ≤ 100000 := by omega
  have e2 : (i : Int) < (n : Int) := by omega
  have e3 : decide ((q : Int) ≤ (z : Int)) = false := decide_eq_false (by omega)
  have e4 : decide (q ≤ z) = false := decide_eq_false g1
  unfold encP at k0
  obtain ⟨j, hj⟩ : ∃ j, i = j + 1 := ⟨i - 1, by omega⟩
  obtain ⟨l, hlj⟩ : ∃ l, cs[j]? = some l := ⟨_, List.getElem?_eq_getElem (by omega)⟩
  obtain ⟨lb, Sl, k1, n1, -⟩ := hkid j l hlj
  have z1 := size_calls n1
  obtain ⟨zl, hzl⟩ : ∃ zl, sizeT h l = zl := ⟨_, rfl⟩
  have g3' := g3
  rw [show i - 1 = j by omega, sizeAt_get hlj, hq] at g3
  rw [hzl] at z1 g3
  have e5 : decide (0 < (i : Int)) = true := decide_eq_true (by omega)
  have e5' : decide (0 < i) = true := decide_eq_true (by omega)
  have e7 : (j : Int) < (n : Int) := by omega
  unfold encP at k1
  obtain ⟨A, s, B, C1, x, y, C2, hks, hcs, hA, hC⟩ := split2 (ks := ks) (cs := cs) (j := j) (by omega) (by omega)
  have hxl : cs[j]? = some x := by rw [hcs, ← hC]; exact at_mid
  have hyl : cs[j + 1]? = some y := by rw [hcs, ← hC]; exact at_mid2
  have hx5 := hsz x (List.mem_of_getElem? hxl)
  have hy5 := hsz y (List.mem_of_getElem? hyl)
  have hxe : x = l := Option.some.inj (hxl.symm.trans hlj)
  have hFin : widenT m (mkT ks cs) i = mkT (A ++ (borR h x s y).2.1 :: B) (C1 ++ (borR h x s y).1 :: (borR h x s y).2.2 :: C2) := by
    unfold widenT
    rw [sizeAt_get hc, hz, hq, if_neg g1, show i - 1 = j by omega, sizeAt_get hlj, hzl, if_pos ⟨g2, g3⟩, hks, hcs, ← hA]
    exact pairM (by omega) _
  have cB := bor_right (S := S) (b := b) (w := w) (A := A) (B := B) (C1 := C1) (C2 := C2) (l := x) (r := y) (s := s) (by rw [← hks, ← hcs]; exact hn) (by omega) (by rw [hxe, hzl]; omega) hx5 hy5 (by rw [← hcs, hnn]; exact h64)
  rw [hA] at cB
  have FIN : Aside0 (∀ w' (nd : NDid (h + 1) w w' b S (mkT (A ++ (borR h x s y).2.1 :: B) (C1 ++ (borR h x s y).1 :: (borR h x s y).2.2 :: C2))), NDid (h + 1) w w' b S (widenT m (mkT ks cs) i)) := ⟨fun w' nd => ndid_eq nd hFin.symm⟩
  have e8 : decide ((q : Int) < (zl : Int)) = true := decide_eq_true (by omega)
  have e8' : decide (q < zl) = true := decide_eq_true g3
  have e9 := w64n hq5
  have e9' := i64n hq5
  have e6 := w64m hi5 hj
  have e6' := i64m hi5 hj
  clear hn hb hkid hc hz hq c0 c1 hsz h4 hm h64 hl hxl hyl hx5 hy5 hA hC hks hcs hFin hlj hxe hzl hj g2 g3 g3' n0 n1 hnn hil hq5 hi5

  go_enter Try.func46, Try.ntmps46
  go_wp2_with (first
    | (go_at_call 35; refine z0.mono ?_; clear z0; rintro e w1 ⟨rfl, h9⟩; obtain rfl := h9.symm)
    | (go_at_call 35; refine z1.mono ?_; clear z1; rintro e w1 ⟨rfl, h9⟩; obtain rfl := h9.symm)
    | (go_at_call 51; refine cB.mono ?_; rintro e w2 ⟨rfl, nd⟩; have ND := Aside0.mk nd; clear nd))
  go_end0
  exact ⟨rfl, FIN.out _ ND.out⟩
set_option maxRecDepth 100000 in
set_option maxHeartbeats 8000000 in
theorem widen_bL (h4 : 4 ≤ m) (hm : m ≤ 64) (hn : NodeAt (h + 1) w b (mkT ks cs) S) {c : T h} (hc : cs[i]? = some c) (h64 : cs.length ≤ 500) (hsz : ∀ c ∈ cs, sizeT h c ≤ 500) (ht : w.cell? ⟨tb, 0, none⟩ = some (.int .i64 m)) (g1 : ¬ m / 2 ≤ sizeT h c) (g2 : 0 < i) (g3 : ¬ m / 2 < sizeAt (mkT ks cs) (i - 1)) (g4 : i + 1 < cs.length) (g5 : m / 2 < sizeAt (mkT ks cs) (i + 1)) : WidenS m tb h w b S ks cs i := by
  obtain ⟨kv, gv, cv, hb, -, hl, -, hkid⟩ := inner_kids hn
  obtain ⟨c0, c1, c2⟩ := inner_cells hb
  obtain ⟨kb, Sc, k0, n0, -⟩ := hkid i c hc
  have z0 := size_calls n0
  have hil := (List.getElem?_eq_some_iff.1 hc).1
  obtain ⟨z, hz⟩ : ∃ z, sizeT h c = z := ⟨_, rfl⟩
  obtain ⟨q, hq⟩ : ∃ q, m / 2 = q := ⟨_, rfl⟩
  obtain ⟨n, hnn⟩ : ∃ n, cs.length = n := ⟨_, rfl⟩
  rw [hnn] at hil h64 hl c2
  rw [hz] at z0 g1
  rw [hq] at g1
  have e1 : (m : Int) / 2 = (q : Int) := by omega
  have hq5 : q ≤ 100000 := by omega
  have hi5 : i ≤ 100000 := by omega
  have e2 : (i : Int) < (n : Int) := by omega
  have e3 : decide ((q : Int) ≤ (z : Int)) = false := decide_eq_false (by omega)
  have e4 : decide (q ≤ z) = false := decide_eq_false g1
  unfold encP at k0
  obtain ⟨j, hj⟩ : ∃ j, i = j + 1 := ⟨i - 1, by omega⟩
  obtain ⟨l, hlj⟩ : ∃ l, cs[j]? = some l := ⟨_, List.getElem?_eq_getElem (by omega)⟩
  obtain ⟨lb, Sl, k1, n1, -⟩ := hkid j l hlj
  have z1 := size_calls n1
  obtain ⟨zl, hzl⟩ : ∃ zl, sizeT h l = zl := ⟨_, rfl⟩
  have g3' := g3
  rw [show i - 1 = j by omega, sizeAt_get hlj, hq] at g3
  rw [hzl] at z1 g3
  have e5 : decide (0 < (i : Int)) = true := decide_eq_true (by omega)
  have e5' : decide (0 < i) = true := decide_eq_true (by omega)
  have e7 : (j : Int) < (n : Int) := by omega
  unfold encP at k1
  obtain ⟨p, hp⟩ : ∃ p, i + 1 = p := ⟨_, rfl⟩
  obtain ⟨r, hrp⟩ : ∃ r, cs[p]? = some r := ⟨_, List.getElem?_eq_getElem (by omega)⟩
  obtain ⟨rb, Sr, k2, n2, -⟩ := hkid p r hrp
  have z2 := size_calls n2
  obtain ⟨zr, hzr⟩ : ∃ zr, sizeT h r = zr := ⟨_, rfl⟩
  have g5' := g5
  rw [hp, sizeAt_get hrp, hq] at g5
  rw [hzr] at z2 g5
  have e11 : (p : Int) < (n : Int) := by omega
  have e11' : decide ((p : Int) < (n : Int)) = true := decide_eq_true e11
  have e11'' : decide (p < n) = true := decide_eq_true (by omega)
  unfold encP at k2
  obtain ⟨A, s, B, C1, x, y, C2, hks, hcs, hA, hC⟩ := split2 (ks := ks) (cs := cs) (j := i) (by omega) (by omega)
  have hxl : cs[i]? = some x := by rw [hcs, ← hC]; exact at_mid
  have hyl : cs[i + 1]? = some y := by rw [hcs, ← hC]; exact at_mid2
  have hx5 := hsz x (List.mem_of_getElem? hxl)
  have hy5 := hsz y (List.mem_of_getElem? hyl)
  have hye : y = r := Option.some.inj (hyl.symm.trans (by rw [hp]; exact hrp))
  have hFin : widenT m (mkT ks cs) i = mkT (A ++ (borL h x s y).2.1 :: B) (C1 ++ (borL h x s y).1 :: (borL h x s y).2.2 :: C2) := by
    unfold widenT
    rw [sizeAt_get hc, hz, hq, if_neg g1, show i - 1 = j by omega, sizeAt_get hlj, hzl, if_neg (fun h9 => g3 h9.2), hp, sizeAt_get hrp, hzr, if_pos ⟨(by show p < cs.length; omega), g5⟩, hks, hcs, ← hA]
    exact pairM (by omega) _
  have cB := bor_left (S := S) (b := b) (w := w) (A := A) (B := B) (C1 := C1) (C2 := C2) (l := x) (r := y) (s := s) (by rw [← hks, ← hcs]; exact hn) (by omega) (by rw [hye, hzr]; omega) hx5 hy5 (by rw [← hcs, hnn]; exact h64)
  rw [hA] at cB
  have FIN : Aside0 (∀ w' (nd : NDid (h + 1) w w' b S (mkT (A ++ (borL h x s y).2.1 :: B) (C1 ++ (borL h x s y).1 :: (borL h x s y).2.2 :: C2))), NDid (h + 1) w w' b S (widenT m (mkT ks cs) i)) := ⟨fun w' nd => ndid_eq nd hFin.symm⟩
  have e8 : decide ((q : Int) < (zl : Int)) = false := decide_eq_false (by omega)
  have e8' : decide (q < zl) = false := decide_eq_false g3
  have e12 : decide ((q : Int) < (zr : Int)) = true := decide_eq_true (by omega)
  have e12' : decide (q < zr) = true := decide_eq_true g5
  have e9 := w64n hq5
  have e9' := i64n hq5
  have e6 := w64m hi5 hj
  have e6' := i64m hi5 hj
  have e10 := w64p hi5 hp
  have e10' := i64p hi5 hp
  clear hn hb hkid hc hz hq c0 c1 hsz h4 hm h64 hl hxl hyl hx5 hy5 hA hC hks hcs hFin hlj hzl hj g2 g3 g3' n0 n1 n2 hnn hil hye hrp hzr hp g4 g5 g5' hq5 hi5

  go_enter Try.func46, Try.ntmps46
  go_wp2_with (first
    | (go_at_call 35; refine z0.mono ?_; clear z0; rintro e w1 ⟨rfl, h9⟩; obtain rfl := h9.symm)
    | (go_at_call 35; refine z1.mono ?_; clear z1; rintro e w1 ⟨rfl, h9⟩; obtain rfl := h9.symm)
    | (go_at_call 35; refine z2.mono ?_; clear z2; rintro e w1 ⟨rfl, h9⟩; obtain rfl := h9.symm)
    | (go_at_call 51; refine cB.mono ?_; rintro e w2 ⟨rfl, nd⟩; have ND := Aside0.mk nd; clear nd))
  go_end0
  exact ⟨rfl, FIN.out _ ND.out⟩
set_option maxRecDepth 100000 in
set_option maxHeartbeats 8000000 in
theorem widen_m1 (h4 : 4 ≤ m) (hm : m ≤ 64) (hn : NodeAt (h + 1) w b (mkT ks cs) S) {c : T h} (hc : cs[i]? = some c) (h64 : cs.length ≤ 500) (hsz : ∀ c ∈ cs, sizeT h c ≤ 500) (ht : w.cell? ⟨tb, 0, none⟩ = some (.int .i64 m)) (g1 : ¬ m / 2 ≤ sizeT h c) (g2 : 0 < i) (g3 : ¬ m / 2 < sizeAt (mkT ks cs) (i - 1)) (g4 : i + 1 < cs.length) (g5 : ¬ m / 2 < sizeAt (mkT ks cs) (i + 1)) : WidenS m tb h w b S ks cs i := by
  obtain ⟨kv, gv, cv, hb, -, hl, -, hkid⟩ := inner_kids hn
  obtain ⟨c0, c1, c2⟩ := inner_cells hb
  obtain ⟨kb, Sc, k0, n0, -⟩ := hkid i c hc
  have z0 := size_calls n0
  have hil := (List.getElem?_eq_some_iff.1 hc).1
  obtain ⟨z, hz⟩ : ∃ z, sizeT h c = z := ⟨_, rfl⟩
  obtain ⟨q, hq⟩ : ∃ q, m / 2 = q := ⟨_, rfl⟩
  obtain ⟨n, hnn⟩ : ∃ n, cs.length = n := ⟨_, rfl⟩
  rw [hnn] at hil h64 hl c2
  rw [hz] at z0 g1
  rw [hq] at g1
  have e1 : (m : Int) / 2 = (q : Int) := by omega
  have hq5 : q ≤ 100000 := by omega
  have hi5 : i ≤ 100000 := by omega
  have e2 : (i : Int) < (n : Int) := by omega
  have e3 : decide ((q : Int) ≤ (z : Int)) = false := decide_eq_false (by omega)
  have e4 : decide (q ≤ z) = false := decide_eq_false g1
  unfold encP at k0
  obtain ⟨j, hj⟩ : ∃ j, i = j + 1 := ⟨i - 1, by omega⟩
  obtain ⟨l, hlj⟩ : ∃ l, cs[j]? = some l := ⟨_, List.getElem?_eq_getElem (by omega)⟩
  obtain ⟨lb, Sl, k1, n1, -⟩ := hkid j l hlj
  have z1 := size_calls n1
  obtain ⟨zl, hzl⟩ : ∃ zl, sizeT h l = zl := ⟨_, rfl⟩
  have g3' := g3
  rw [show i - 1 = j by omega, sizeAt_get hlj, hq] at g3
  rw [hzl] at z1 g3
  have e5 : decide (0 < (i : Int)) = true := decide_eq_true (by omega)
  have e5' : decide (0 < i) = true := decide_eq_true (by omega)
  have e7 : (j : Int) < (n : Int) := by omega
  unfold encP at k1
  obtain ⟨p, hp⟩ : ∃ p, i + 1 = p := ⟨_, rfl⟩
  obtain ⟨r, hrp⟩ : ∃ r, cs[p]? = some r := ⟨_, List.getElem?_eq_getElem (by omega)⟩
  obtain ⟨rb, Sr, k2, n2, -⟩ := hkid p r hrp
  have z2 := size_calls n2
  obtain ⟨zr, hzr⟩ : ∃ zr, sizeT h r = zr := ⟨_, rfl⟩
  have g5' := g5
  rw [hp, sizeAt_get hrp, hq] at g5
  rw [hzr] at z2 g5
  have e11 : (p : Int) < (n : Int) := by omega
  have e11' : decide ((p : Int) < (n : Int)) = true := decide_eq_true e11
  have e11'' : decide (p < n) = true := decide_eq_true (by omega)
  unfold encP at k2
  obtain ⟨A, s, B, C1, x, y, C2, hks, hcs, hA, hC⟩ := split2 (ks := ks) (cs := cs) (j := j) (by omega) (by omega)
  have hxl : cs[j]? = some x := by rw [hcs, ← hC]; exact at_mid
  have hyl : cs[j + 1]? = some y := by rw [hcs, ← hC]; exact at_mid2
  have hx5 := hsz x (List.mem_of_getElem? hxl)
  have hy5 := hsz y (List.mem_of_getElem? hyl)
  have hFin : widenT m (mkT ks cs) i = mkT (A ++ B) (C1 ++ merT h x s y :: C2) := by
    unfold widenT
    rw [sizeAt_get hc, hz, hq, if_neg g1, show i - 1 = j by omega, sizeAt_get hlj, hzl, if_neg (fun h9 => g3 h9.2), hp, sizeAt_get hrp, hzr, if_neg (fun h9 => g5 h9.2), if_pos g2, hks, hcs, ← hA]
    exact mergeM (by omega)
  have cB := mer_calls (S := S) (b := b) (w := w) (A := A) (B := B) (C1 := C1) (C2 := C2) (l := x) (r := y) (s := s) (by rw [← hks, ← hcs]; exact hn) (by omega) hx5 hy5 (by rw [← hcs, hnn]; exact h64)
  rw [hA] at cB
  have FIN : Aside0 (∀ w' (nd : NDid (h + 1) w w' b S (mkT (A ++ B) (C1 ++ merT h x s y :: C2))), NDid (h + 1) w w' b S (widenT m (mkT ks cs) i)) := ⟨fun w' nd => ndid_eq nd hFin.symm⟩
  have e8 : decide ((q : Int) < (zl : Int)) = false := decide_eq_false (by omega)
  have e8' : decide (q < zl) = false := decide_eq_false g3
  have e12 : decide ((q : Int) < (zr : Int)) = false := decide_eq_false (by omega)
  have e12' : decide (q < zr) = false := decide_eq_false g5
  have e9 := w64n hq5
  have e9' := i64n hq5
  have e6 := w64m hi5 hj
  have e6' := i64m hi5 hj
  have e10 := w64p hi5 hp
  have e10' := i64p hi5 hp
  clear hn hb hkid hc hz hq c0 c1 hsz h4 hm h64 hl hxl hyl hx5 hy5 hA hC hks hcs hFin hlj hzl hj g2 g3 g3' n0 n1 n2 hnn hil hrp hzr hp g4 g5 g5' hq5 hi5

  go_enter Try.func46, Try.ntmps46
  go_wp2_with (first
    | (go_at_call 35; refine z0.mono ?_; clear z0; rintro e w1 ⟨rfl, h9⟩; obtain rfl := h9.symm)
    | (go_at_call 35; refine z1.mono ?_; clear z1; rintro e w1 ⟨rfl, h9⟩; obtain rfl := h9.symm)
    | (go_at_call 35; refine z2.mono ?_; clear z2; rintro e w1 ⟨rfl, h9⟩; obtain rfl := h9.symm)
    | (go_at_call 52; refine cB.mono ?_; rintro e w2 ⟨rfl, nd⟩; have ND := Aside0.mk nd; clear nd))
  go_end0
  exact ⟨rfl, FIN.out _ ND.out⟩
set_option maxRecDepth 100000 in
set_option maxHeartbeats 8000000 in
theorem widen_m2 (h4 : 4 ≤ m) (hm : m ≤ 64) (hn : NodeAt (h + 1) w b (mkT ks cs) S) {c : T h} (hc : cs[i]? = some c) (h64 : cs.length ≤ 500) (hsz : ∀ c ∈ cs, sizeT h c ≤ 500) (ht : w.cell? ⟨tb, 0, none⟩ = some (.int .i64 m)) (g1 : ¬ m / 2 ≤ sizeT h c) (g2 : 0 < i) (g3 : ¬ m / 2 < sizeAt (mkT ks cs) (i - 1)) (g4 : ¬ i + 1 < cs.length) : WidenS m tb h w b S ks cs i := by
  obtain ⟨kv, gv, cv, hb, -, hl, -, hkid⟩ := inner_kids hn
  obtain ⟨c0, c1, c2⟩ := inner_cells hb
  obtain ⟨kb, Sc, k0, n0, -⟩ := hkid i c hc
  have z0 := size_calls n0
  have hil := (List.getElem?_eq_some_iff.1 hc).1
  obtain ⟨z, hz⟩ : ∃ z, sizeT h c = z := ⟨_, rfl⟩
  obtain ⟨q, hq⟩ : ∃ q, m / 2 = q := ⟨_, rfl⟩
  obtain ⟨n, hnn⟩ : ∃ n, cs.length = n := ⟨_, rfl⟩
  rw [hnn] at hil h64 hl c2
  rw [hz] at z0 g1
  rw [hq] at g1
  have e1 : (m : Int) / 2 = (q : Int) := by omega
  have hq5 : q ≤ 100000 := by omega
  have hi5 : i ≤ 100000 := by omega
  have e2 : (i : Int) < (n : Int) := by omega
  have e3 : decide ((q : Int) ≤ (z : Int)) = false := decide_eq_false (by omega)
  have e4 : decide (q ≤ z) = false := decide_eq_false g1
  unfold encP at k0
  obtain ⟨j, hj⟩ : ∃ j, i = j + 1 := ⟨i - 1, by omega⟩
  obtain ⟨l, hlj⟩ : ∃ l, cs[j]? = some l := ⟨_, List.getElem?_eq_getElem (by omega)⟩
  obtain ⟨lb, Sl, k1, n1, -⟩ := hkid j l hlj
  have z1 := size_calls n1
  obtain ⟨zl, hzl⟩ : ∃ zl, sizeT h l = zl := ⟨_, rfl⟩
  have g3' := g3
  rw [show i - 1 = j by omega, sizeAt_get hlj, hq] at g3
  rw [hzl] at z1 g3
  have e5 : decide (0 < (i : Int)) = true := decide_eq_true (by omega)
  have e5' : decide (0 < i) = true := decide_eq_true (by omega)
  have e7 : (j : Int) < (n : Int) := by omega
  unfold encP at k1
  obtain ⟨A, s, B, C1, x, y, C2, hks, hcs, hA, hC⟩ := split2 (ks := ks) (cs := cs) (j := j) (by omega) (by omega)
  have hxl : cs[j]? = some x := by rw [hcs, ← hC]; exact at_mid
  have hyl : cs[j + 1]? = some y := by rw [hcs, ← hC]; exact at_mid2
  have hx5 := hsz x (List.mem_of_getElem? hxl)
  have hy5 := hsz y (List.mem_of_getElem? hyl)
  obtain ⟨p, hp⟩ : ∃ p, i + 1 = p := ⟨_, rfl⟩
  have e11' : decide ((p : Int) < (n : Int)) = false := decide_eq_false (by omega)
  have e11'' : decide (p < n) = false := decide_eq_false (by omega)
  have hFin : widenT m (mkT ks cs) i = mkT (A ++ B) (C1 ++ merT h x s y :: C2) := by
    unfold widenT
    rw [sizeAt_get hc, hz, hq, if_neg g1, show i - 1 = j by omega, sizeAt_get hlj, hzl, if_neg (fun h9 => g3 h9.2), if_neg (fun h9 => g4 h9.1), if_pos g2, hks, hcs, ← hA]
    exact mergeM (by omega)
  have cB := mer_calls (S := S) (b := b) (w := w) (A := A) (B := B) (C1 := C1) (C2 := C2) (l := x) (r := y) (s := s) (by rw [← hks, ← hcs]; exact hn) (by omega) hx5 hy5 (by rw [← hcs, hnn]; exact h64)
  rw [hA] at cB
  have FIN : Aside0 (∀ w' (nd : NDid (h + 1) w w' b S (mkT (A ++ B) (C1 ++ merT h x s y :: C2))), NDid (h + 1) w w' b S (widenT m (mkT ks cs) i)) := ⟨fun w' nd => ndid_eq nd hFin.symm⟩
  have e8 : decide ((q : Int) < (zl : Int)) = false := decide_eq_false (by omega)
  have e8' : decide (q < zl) = false := decide_eq_false g3
  have e9 := w64n hq5
  have e9' := i64n hq5
  have e6 := w64m hi5 hj
  have e6' := i64m hi5 hj
  have e10 := w64p hi5 hp
  have e10' := i64p hi5 hp
  clear hn hb hkid hc hz hq c0 c1 hsz h4 hm h64 hl hxl hyl hx5 hy5 hA hC hks hcs hFin hlj hzl hj g2 g3 g3' n0 n1 hnn hil hp g4 hq5 hi5

  go_enter Try.func46, Try.ntmps46
  go_wp2_with (first
    | (go_at_call 35; refine z0.mono ?_; clear z0; rintro e w1 ⟨rfl, h9⟩; obtain rfl := h9.symm)
    | (go_at_call 35; refine z1.mono ?_; clear z1; rintro e w1 ⟨rfl, h9⟩; obtain rfl := h9.symm)
    | (go_at_call 52; refine cB.mono ?_; rintro e w2 ⟨rfl, nd⟩; have ND := Aside0.mk nd; clear nd))
  go_end0
  exact ⟨rfl, FIN.out _ ND.out⟩
set_option maxRecDepth 100000 in
set_option maxHeartbeats 8000000 in
theorem widen_bL0 (h4 : 4 ≤ m) (hm : m ≤ 64) (hn : NodeAt (h + 1) w b (mkT ks cs) S) {c : T h} (hc : cs[i]? = some c) (h64 : cs.length ≤ 500) (hsz : ∀ c ∈ cs, sizeT h c ≤ 500) (ht : w.cell? ⟨tb, 0, none⟩ = some (.int .i64 m)) (g1 : ¬ m / 2 ≤ sizeT h c) (g2 : ¬ 0 < i) (g4 : i + 1 < cs.length) (g5 : m / 2 < sizeAt (mkT ks cs) (i + 1)) : WidenS m tb h w b S ks cs i := by
  obtain ⟨kv, gv, cv, hb, -, hl, -, hkid⟩ := inner_kids hn
  obtain ⟨c0, c1, c2⟩ := inner_cells hb
  obtain ⟨kb, Sc, k0, n0, -⟩ := hkid i c hc
  have z0 := size_calls n0
  have hil := (List.getElem?_eq_some_iff.1 hc).1
  obtain ⟨z, hz⟩ : ∃ z, sizeT h c = z := ⟨_, rfl⟩
  obtain ⟨q, hq⟩ : ∃ q, m / 2 = q := ⟨_, rfl⟩
  obtain ⟨n, hnn⟩ : ∃ n, cs.length = n := ⟨_, rfl⟩
  rw [hnn] at hil h64 hl c2
  rw [hz] at z0 g1
  rw [hq] at g1
  have e1 : (m : Int) / 2 = (q : Int) := by omega
  have hq5 : q ≤ 100000 := by omega
  have hi5 : i ≤ 100000 := by omega
  have e2 : (i : Int) < (n : Int) := by omega
  have e3 : decide ((q : Int) ≤ (z : Int)) = false := decide_eq_false (by omega)
  have e4 : decide (q ≤ z) = false := decide_eq_false g1
  unfold encP at k0
  have e5 : decide (0 < (i : Int)) = false := decide_eq_false (by omega)
  have e5' : decide (0 < i) = false := decide_eq_false (by omega)
  obtain ⟨p, hp⟩ : ∃ p, i + 1 = p := ⟨_, rfl⟩
  obtain ⟨r, hrp⟩ : ∃ r, cs[p]? = some r := ⟨_, List.getElem?_eq_getElem (by omega)⟩
  obtain ⟨rb, Sr, k2, n2, -⟩ := hkid p r hrp
  have z2 := size_calls n2
  obtain ⟨zr, hzr⟩ : ∃ zr, sizeT h r = zr := ⟨_, rfl⟩
  have g5' := g5
  rw [hp, sizeAt_get hrp, hq] at g5
  rw [hzr] at z2 g5
  have e11 : (p : Int) < (n : Int) := by omega
  have e11' : decide ((p : Int) < (n : Int)) = true := decide_eq_true e11
  have e11'' : decide (p < n) = true := decide_eq_true (by omega)
  unfold encP at k2
  obtain ⟨A, s, B, C1, x, y, C2, hks, hcs, hA, hC⟩ := split2 (ks := ks) (cs := cs) (j := i) (by omega) (by omega)
  have hxl : cs[i]? = some x := by rw [hcs, ← hC]; exact at_mid
  have hyl : cs[i + 1]? = some y := by rw [hcs, ← hC]; exact at_mid2
  have hx5 := hsz x (List.mem_of_getElem? hxl)
  have hy5 := hsz y (List.mem_of_getElem? hyl)
  have hye : y = r := Option.some.inj (hyl.symm.trans (by rw [hp]; exact hrp))
  have hFin : widenT m (mkT ks cs) i = mkT (A ++ (borL h x s y).2.1 :: B) (C1 ++ (borL h x s y).1 :: (borL h x s y).2.2 :: C2) := by
    unfold widenT
    rw [sizeAt_get hc, hz, hq, if_neg g1, if_neg (fun h9 => g2 h9.1), hp, sizeAt_get hrp, hzr, if_pos ⟨(by show p < cs.length; omega), g5⟩, hks, hcs, ← hA]
    exact pairM (by omega) _
  have cB := bor_left (S := S) (b := b) (w := w) (A := A) (B := B) (C1 := C1) (C2 := C2) (l := x) (r := y) (s := s) (by rw [← hks, ← hcs]; exact hn) (by omega) (by rw [hye, hzr]; omega) hx5 hy5 (by rw [← hcs, hnn]; exact h64)
  rw [hA] at cB
  have FIN : Aside0 (∀ w' (nd : NDid (h + 1) w w' b S (mkT (A ++ (borL h x s y).2.1 :: B) (C1 ++ (borL h x s y).1 :: (borL h x s y).2.2 :: C2))), NDid (h + 1) w w' b S (widenT m (mkT ks cs) i)) := ⟨fun w' nd => ndid_eq nd hFin.symm⟩
  have e12 : decide ((q : Int) < (zr : Int)) = true := decide_eq_true (by omega)
  have e12' : decide (q < zr) = true := decide_eq_true g5
  have e9 := w64n hq5
  have e9' := i64n hq5
  have e10 := w64p hi5 hp
  have e10' := i64p hi5 hp
  clear hn hb hkid hc hz hq c0 c1 hsz h4 hm h64 hl hxl hyl hx5 hy5 hA hC hks hcs hFin g2 n0 n2 hnn hil hye hrp hzr hp g4 g5 g5' hq5 hi5

  go_enter Try.func46, Try.ntmps46
  go_wp2_with (first
    | (go_at_call 35; refine z0.mono ?_; clear z0; rintro e w1 ⟨rfl, h9⟩; obtain rfl := h9.symm)
    | (go_at_call 35; refine z2.mono ?_; clear z2; rintro e w1 ⟨rfl, h9⟩; obtain rfl := h9.symm)
    | (go_at_call 51; refine cB.mono ?_; rintro e w2 ⟨rfl, nd⟩; have ND := Aside0.mk nd; clear nd))
  go_end0
  exact ⟨rfl, FIN.out _ ND.out⟩
set_option maxRecDepth 100000 in
set_option maxHeartbeats 8000000 in
theorem widen_m0 (h4 : 4 ≤ m) (hm : m ≤ 64) (hn : NodeAt (h + 1) w b (mkT ks cs) S) {c : T h} (hc : cs[i]? = some c) (h64 : cs.length ≤ 500) (hsz : ∀ c ∈ cs, sizeT h c ≤ 500) (ht : w.cell? ⟨tb, 0, none⟩ = some (.int .i64 m)) (g1 : ¬ m / 2 ≤ sizeT h c) (g2 : ¬ 0 < i) (g4 : i + 1 < cs.length) (g5 : ¬ m / 2 < sizeAt (mkT ks cs) (i + 1)) : WidenS m tb h w b S ks cs i := by
  obtain ⟨kv, gv, cv, hb, -, hl, -, hkid⟩ := inner_kids hn
  obtain ⟨c0, c1, c2⟩ := inner_cells hb
  obtain ⟨kb, Sc, k0, n0, -⟩ := hkid i c hc
  have z0 := size_calls n0
  have hil := (List.getElem?_eq_some_iff.1 hc).1
  obtain ⟨z, hz⟩ : ∃ z, sizeT h c = z := ⟨_, rfl⟩
  obtain ⟨q, hq⟩ : ∃ q, m / 2 = q := ⟨_, rfl⟩
  obtain ⟨n, hnn⟩ : ∃ n, cs.length = n := ⟨_, rfl⟩
  rw [hnn] at hil h64 hl c2
  rw [hz] at z0 g1
  rw [hq] at g1
  have e1 : (m : Int) / 2 = (q : Int) := by omega
  have hq5 : q ≤ 100000 := by omega
  have hi5 : i ≤ 100000 := by omega
  have e2 : (i : Int) < (n : Int) := by omega
  have e3 : decide ((q : Int) ≤ (z : Int)) = false := decide_eq_false (by omega)
  have e4 : decide (q ≤ z) = false := decide_eq_false g1
  unfold encP at k0
  have e5 : decide (0 < (i : Int)) = false := decide_eq_false (by omega)
  have e5' : decide (0 < i) = false := decide_eq_false (by omega)
  obtain ⟨p, hp⟩ : ∃ p, i + 1 = p := ⟨_, rfl⟩
  obtain ⟨r, hrp⟩ : ∃ r, cs[p]? = some r := ⟨_, List.getElem?_eq_getElem (by omega)⟩
  obtain ⟨rb, Sr, k2, n2, -⟩ := hkid p r hrp
  have z2 := size_calls n2
  obtain ⟨zr, hzr⟩ : ∃ zr, sizeT h r = zr := ⟨_, rfl⟩
  have g5' := g5
  rw [hp, sizeAt_get hrp, hq] at g5
  rw [hzr] at z2 g5
  have e11 : (p : Int) < (n : Int) := by omega
  have e11' : decide ((p : Int) < (n : Int)) = true := decide_eq_true e11
  have e11'' : decide (p < n) = true := decide_eq_true (by omega)
  unfold encP at k2
  obtain ⟨A, s, B, C1, x, y, C2, hks, hcs, hA, hC⟩ := split2 (ks := ks) (cs := cs) (j := i) (by omega) (by omega)
  have hxl : cs[i]? = some x := by rw [hcs, ← hC]; exact at_mid
  have hyl : cs[i + 1]? = some y := by rw [hcs, ← hC]; exact at_mid2
  have hx5 := hsz x (List.mem_of_getElem? hxl)
  have hy5 := hsz y (List.mem_of_getElem? hyl)
  have hFin : widenT m (mkT ks cs) i = mkT (A ++ B) (C1 ++ merT h x s y :: C2) := by
    unfold widenT
    rw [sizeAt_get hc, hz, hq, if_neg g1, if_neg (fun h9 => g2 h9.1), hp, sizeAt_get hrp, hzr, if_neg (fun h9 => g5 h9.2), if_neg g2, hks, hcs, ← hA]
    exact mergeM (by omega)
  have cB := mer_calls (S := S) (b := b) (w := w) (A := A) (B := B) (C1 := C1) (C2 := C2) (l := x) (r := y) (s := s) (by rw [← hks, ← hcs]; exact hn) (by omega) hx5 hy5 (by rw [← hcs, hnn]; exact h64)
  rw [hA] at cB
  have FIN : Aside0 (∀ w' (nd : NDid (h + 1) w w' b S (mkT (A ++ B) (C1 ++ merT h x s y :: C2))), NDid (h + 1) w w' b S (widenT m (mkT ks cs) i)) := ⟨fun w' nd => ndid_eq nd hFin.symm⟩
  have e12 : decide ((q : Int) < (zr : Int)) = false := decide_eq_false (by omega)
  have e12' : decide (q < zr) = false := decide_eq_false g5
  have e9 := w64n hq5
  have e9' := i64n hq5
  have e10 := w64p hi5 hp
  have e10' := i64p hi5 hp
  clear hn hb hkid hc hz hq c0 c1 hsz h4 hm h64 hl hxl hyl hx5 hy5 hA hC hks hcs hFin g2 n0 n2 hnn hil hrp hzr hp g4 g5 g5' hq5 hi5

  go_enter Try.func46, Try.ntmps46
  go_wp2_with (first
    | (go_at_call 35; refine z0.mono ?_; clear z0; rintro e w1 ⟨rfl, h9⟩; obtain rfl := h9.symm)
    | (go_at_call 35; refine z2.mono ?_; clear z2; rintro e w1 ⟨rfl, h9⟩; obtain rfl := h9.symm)
    | (go_at_call 52; refine cB.mono ?_; rintro e w2 ⟨rfl, nd⟩; have ND := Aside0.mk nd; clear nd))
  go_end0
  exact ⟨rfl, FIN.out _ ND.out⟩
theorem widen_calls (h4 : 4 ≤ m) (hm : m ≤ 64) (hn : NodeAt (h + 1) w b (mkT ks cs) S) (hi : i < cs.length) (h2 : 2 ≤ cs.length) (h64 : cs.length ≤ 500) (hsz : ∀ c ∈ cs, sizeT h c ≤ 500) (ht : w.cell? ⟨tb, 0, none⟩ = some (.int .i64 m)) : WidenS m tb h w b S ks cs i := by
  obtain ⟨c, hc⟩ : ∃ c, cs[i]? = some c := ⟨_, List.getElem?_eq_getElem hi⟩
  by_cases g1 : m / 2 ≤ sizeT h c
  · exact widen_none h4 hm hn hc h64 ht g1
  by_cases g2 : 0 < i
  · by_cases g3 : m / 2 < sizeAt (mkT ks cs) (i - 1)
    · exact widen_bR h4 hm hn hc h64 hsz ht g1 g2 g3
    by_cases g4 : i + 1 < cs.length
    · by_cases g5 : m / 2 < sizeAt (mkT ks cs) (i + 1)
      · exact widen_bL h4 hm hn hc h64 hsz ht g1 g2 g3 g4 g5
      · exact widen_m1 h4 hm hn hc h64 hsz ht g1 g2 g3 g4 g5
    · exact widen_m2 h4 hm hn hc h64 hsz ht g1 g2 g3 g4
  · have g4 : i + 1 < cs.length := by omega
    by_cases g5 : m / 2 < sizeAt (mkT ks cs) (i + 1)
    · exact widen_bL0 h4 hm hn hc h64 hsz ht g1 g2 g4 g5
    · exact widen_m0 h4 hm hn hc h64 hsz ht g1 g2 g4 g5
end
end Go.Proofs.YtmomohljnmopfaaX
end
section
namespace Go.Proofs.YtmomohljnmopfaaX
open Go.RowKit Go.Lib Go.Proofs.YtmomohljnmopfaaW.PrintWords Go.Proofs.YtmomohljnmopfaaW.PrintLast Go.Proofs.YtmomohljnmopfaaW.PrintMore
set_option linter.unusedVariables false
set_option linter.unusedSimpArgs false
attribute [local go_sem high] eqlNil71 eqlNil72
set_option maxRecDepth 100000 in
set_option maxHeartbeats 8000000 in
theorem delMissed {w : World} {b tb : Nat} {l : List KV} {S : List Nat} {x : Nm} (hh : LeafAt w b l S) (hr : Rises l) (hm : l.length ≤ 1000) (hf : ¬ (keysOf l)[rank (keysOf l) x]? = some x) :
    Calls Try.prog 33 #[.pointer (some ⟨tb, 0, none⟩), .pointer (some ⟨b, 0, none⟩), .string ⟨x.toArray⟩] w fun e w' => e = .returned (ansG (getF x l)) ∧ NDid 0 w w' b S (delF x l) := by
  have H := Aside0.mk hh
  obtain ⟨kv, vv, h1, hk, hv, hS, hn⟩ := hh
  obtain ⟨hg, -, hp⟩ := missed_facts (v := ⟨#[]⟩) hr hf
  have hrl := rank_le (keysOf l) x
  rw [keysOf_len] at hrl
  obtain ⟨Ak, ck, rfl, hck, -⟩ := hk.shape
  rw [encKs_len, keysOf_len] at h1 hk hck
  obtain ⟨c0, c1, c2⟩ := leaf_cells h1
  have cS := search_calls (x := x) (hk.src rfl) (c := ck) (by rw [keysOf_len]; exact hck) (by rw [keysOf_len]; omega) (keysOf_rises hr)
  rw [decide_eq_false hf, keysOf_len] at cS
  obtain ⟨q, hq⟩ : ∃ q, rank (keysOf l) x = q := ⟨_, rfl⟩
  rw [hq] at cS
  clear h1 hk hv hS hn hck hrl hq hf hr
  go_enter Try.func33, Try.ntmps33
  go_wp2_with (go_at_call 40; refine cS.mono ?_; rintro e w1 ⟨rfl, rfl⟩)
  go_ret2
  refine ⟨by rw [hg]; rfl, S, ?_, Fr.refl S _, fun k hk => .inl hk⟩
  show LeafAt _ b (delF x l) S
  rw [hp]
  exact H.out
set_option maxRecDepth 100000 in
set_option maxHeartbeats 8000000 in
theorem delFound {w : World} {b tb : Nat} {l : List KV} {S : List Nat} {x : Nm} (hh : LeafAt w b l S) (hr : Rises l) (hm : l.length ≤ 900) (hf : (keysOf l)[rank (keysOf l) x]? = some x) :
    Calls Try.prog 33 #[.pointer (some ⟨tb, 0, none⟩), .pointer (some ⟨b, 0, none⟩), .string ⟨x.toArray⟩] w fun e w' => e = .returned (ansG (getF x l)) ∧ NDid 0 w w' b S (delF x l) := by
  have H := Aside0.mk hh
  obtain ⟨kv, vv, h1, hk, hv, hS, hn⟩ := hh
  obtain ⟨o, hl, hg, -, hp⟩ := found_facts (v := ⟨#[]⟩) hf
  have hil := (List.getElem?_eq_some_iff.1 hl).1
  obtain ⟨gk, ck, rfl⟩ := row_some hk (by rw [encKs_len, keysOf_len]; omega)
  obtain ⟨gv, cv, rfl⟩ := row_some hv (by rw [encVs_len]; omega)
  rw [encKs_len, keysOf_len] at h1 hk
  rw [encVs_len] at h1 hv
  obtain ⟨c0, c1, c2⟩ := leaf_cells h1
  have hck := hk.cap.2
  have hcv := hv.cap.2
  rw [encKs_len, keysOf_len] at hck
  rw [encVs_len] at hcv
  have cS := search_calls (x := x) (hk.src rfl) (c := ck) (by rw [keysOf_len]; exact hck) (by rw [keysOf_len]; omega) (keysOf_rises hr)
  rw [decide_eq_true hf, keysOf_len] at cS
  obtain ⟨q, hq⟩ : ∃ q, rank (keysOf l) x = q := ⟨_, rfl⟩
  rw [hq] at cS hl hp hil hf
  have hu : (encVs l)[q]? = some (.string o) := by rw [encVs, List.getElem?_map, hl]; rfl
  obtain ⟨g9, c9, hv9, z0, zf, -⟩ := hv.at hu
  have e9 : g9 = gv := by
    simp only [Value.slice.injEq, Option.some.injEq, Addr.mk.injEq] at hv9
    exact hv9.1.1.symm
  rw [e9] at z0
  obtain ⟨n, hnn⟩ : ∃ n, l.length = n := ⟨_, rfl⟩
  rw [hnn] at h1 hk hv c0 c1 cS hck hcv hil hm
  have e3 : (q : Int) < (n : Int) := by omega
  have HV := Aside0.mk (And.intro hk (And.intro hv (And.intro hS (And.intro hn h1))))
  have HL := Aside0.mk (And.intro hg (And.intro hp (And.intro hil (And.intro hm hnn))))
  have e20 := w64p (i := q) (by omega) rfl
  have e20' := i64p (i := q) (by omega) rfl
  rw [show ((q + 1 : Nat) : Int) = (q : Int) + 1 from rfl] at e20 e20'
  clear hk hv hS hn hl hg hp hu hv9 zf h1 hil hf hq hr hm hnn hck hcv
  go_enter Try.func33, Try.ntmps33
  go_upto_region 6 with (go_at_call 40; refine cS.mono ?_; rintro e w1 ⟨rfl, rfl⟩)
  have hS9 := HV.out.2.2.2.1
  rw [HV.out.2.2.1, encKs_len, keysOf_len, encVs_len, HL.out.2.2.2.2] at hS9
  have TW : Aside0 (Two w1 b (.slice (some ⟨gk, 0, none⟩) n ck) (.slice (some ⟨gv, 0, none⟩) n cv) []) := ⟨⟨blk_lt HV.out.2.2.2.2, HV.out.1.lt, HV.out.2.1.lt, fun k hk => (by cases hk), (by rw [List.append_nil]; exact hS9)⟩⟩
  clear hS9
  have cK : Aside0 (∀ W, Below w1.heap.size w1 W → Calls Try.prog 45 #[.slice (some ⟨gk, 0, none⟩) n ck, .int .i64 q, .int .i64 ((q : Int) + 1)] W fun e w2 => ∃ A c, e = .returned (.slice A (n - 1) c) ∧ Step1 9 w1 W w2 (.slice (some ⟨gk, 0, none⟩) n ck) (.slice A (n - 1) c) (delAt q (encKs (keysOf l)))) := ⟨fun W hW =>
    (delS' (HV.out.1.below hW) HL.out.2.2.1 (by have := HL.out.2.2.2.1; omega)).mono (by
      rintro e w2 ⟨A, c, rfl, ht⟩
      exact ⟨A, c, rfl, hW, ht⟩)⟩
  have cV : Aside0 (∀ w2 A c W W2, Step1 9 w1 W w2 (.slice (some ⟨gk, 0, none⟩) n ck) (.slice A (n - 1) c) (delAt q (encKs (keysOf l))) → Below w2.heap.size w2 W2 → Calls Try.prog 45 #[.slice (some ⟨gv, 0, none⟩) n cv, .int .i64 q, .int .i64 ((q : Int) + 1)] W2 fun e w3 => ∃ A' c', e = .returned (.slice A' (n - 1) c') ∧ Done 9 9 w1 w3 b (.slice (some ⟨gk, 0, none⟩) n ck) (.slice A (n - 1) c) (delAt q (encKs (keysOf l))) (.slice (some ⟨gv, 0, none⟩) n cv) (.slice A' (n - 1) c') (delAt q (encVs l)) []) := ⟨fun w2 A c W W2 s1 hW =>
    (delS' ((s1.row HV.out.2.1 TW.out).below hW) HL.out.2.2.1 (by have := HL.out.2.2.2.1; omega)).mono (by
      rintro e w3 ⟨A', c', rfl, ht⟩
      exact ⟨A', c', rfl, Step2.done ⟨s1, hW, ht⟩ TW.out⟩)⟩
  clear cS
  have FIN : Aside0 (∀ w3 A2 c2 A3 c3, Done 9 9 w1 w3 b (.slice (some ⟨gk, 0, none⟩) n ck) (.slice A2 (n - 1) c2) (delAt q (encKs (keysOf l))) (.slice (some ⟨gv, 0, none⟩) n cv) (.slice A3 (n - 1) c3) (delAt q (encVs l)) [] →
      Ending.returned (.tuple #[.string o, .bool true]) = .returned (ansG (getF x l)) ∧ NDid 0 w1 ((w3.setCell ⟨b, 0, none⟩ (.slice A2 (n - 1) c2)).setCell ⟨b, 1, none⟩ (.slice A3 (n - 1) c3)) b S (delF x l)) := ⟨fun w3 A2 c2 A3 c3 dn => by
    have hb3 := dn.blk TW.out HV.out.2.2.2.2
    obtain ⟨hk, hv, hS, hn, h1⟩ := HV.out
    obtain ⟨hg, hp, hrl, hm, hnn⟩ := HL.out
    have hf : Fr [b] w3 ((w3.setCell ⟨b, 0, none⟩ (.slice A2 (n - 1) c2)).setCell ⟨b, 1, none⟩ (.slice A3 (n - 1) c3)) := ((Fr.refl [b] w3).setCell (p := ⟨b, 0, none⟩) (.inl (by simp)) _).setCell (p := ⟨b, 1, none⟩) (.inl (by simp)) _
    obtain ⟨r1, r2⟩ := dn.stored hf
    have hnd := dn.nd
    rw [List.append_nil] at hnd
    refine ⟨by rw [hg]; rfl, b :: ((Value.slice A2 (n - 1) c2).ownBlock.toList ++ (Value.slice A3 (n - 1) c3).ownBlock.toList), ?_, ?_, ?_⟩
    · show LeafAt _ b (delF x l) _
      rw [hp]
      refine ⟨.slice A2 (n - 1) c2, .slice A3 (n - 1) c3, blk_put (blk_put hb3 0 _ rfl) 1 _ rfl, ?_, ?_, rfl, hnd⟩
      · rw [keysOf_delAt, encKs_delAt]; exact r1
      · rw [encVs_delAt]; exact r2
    · refine (dn.fr.mono (T := S) ?_).trans hf (fun y hy => .inl (by rw [hS]; simp only [List.mem_singleton] at hy; rw [hy]; simp))
      intro y hy
      rw [hS]
      exact List.mem_cons_of_mem _ (by rw [encKs_len, keysOf_len, encVs_len, hnn]; exact hy)
    · intro k hk9
      rw [hS, encKs_len, keysOf_len, encVs_len, hnn]
      rcases List.mem_cons.1 hk9 with rfl | hk9
      · exact .inl (by simp)
      · rcases List.mem_append.1 hk9 with hk9 | hk9
        · exact (dn.sub1 k hk9).imp (fun h9 => List.mem_cons_of_mem _ (List.mem_append_left _ h9)) id
        · exact (dn.sub2 k hk9).imp (fun h9 => List.mem_cons_of_mem _ (List.mem_append_right _ h9)) id⟩
  refine start_ (n := 24) (S := fun w' => w'.cell? ⟨b, 0, none⟩ = some (.slice (some ⟨gk, 0, none⟩) n ck) ∧ w'.cell? ⟨b, 1, none⟩ = some (.slice (some ⟨gv, 0, none⟩) n cv)) (ds := [20, 23]) (mK 24 0) (by kernel_rfl) rfl rfl ⟨c0, c1⟩ (fun hHeld => ?_)
  refine with_tabW (T := (true, [([], []), ([], []), ([], []), ([2], [2]), ([3], [3]), ([4], [4]), ([], []), ([], []), ([7], [7]), ([5, 6, 8], [5, 6, 8]), ([], []), ([10], [10]), ([11], [11]), ([12], [12]), ([], []), ([], []), ([15], [15]), ([13, 14, 16, 9], [13, 14, 16]), ([0, 0, 2, 3, 4, 5, 6, 7, 8, 9, 13, 17], [0]), ([18, 0, 2, 3, 4, 5, 6, 7, 8, 9, 13, 17], [18]), ([19, 9, 17, 0, 2, 3, 4, 5, 6, 7, 8, 9, 13, 17], [9, 19]), ([1, 0, 1, 2, 3, 4, 5, 6, 7, 8, 9, 10, 11, 12, 13, 14, 15, 16, 17, 18, 19, 20], [1]), ([21, 0, 1, 2, 3, 4, 5, 6, 7, 8, 9, 10, 11, 12, 13, 14, 15, 16, 17, 18, 19, 20], [21]), ([22, 17, 20, 0, 1, 2, 3, 4, 5, 6, 7, 8, 9, 10, 11, 12, 13, 14, 15, 16, 17, 18, 19, 20], [17, 22])])) (B := [0, 0, 0, 4, 12, 28, 0, 0, 128, 508, 0, 1024, 3072, 7168, 0, 0, 32768, 131068, 262141, 524285, 1048573, 2097151, 4194303, 8388607]) (by kernel_rfl) (by kernel_rfl) (fun HT_ HW_ => ?_)
  refine pK 0 37 (mK 24 1) rfl rfl HT_ ?_
  refine pK 1 38 (mK 24 3) rfl rfl HT_ ?_
  refine pK 2 39 (mK 24 7) rfl rfl HT_ ?_
  refine pK 3 40 (mK 24 15) rfl rfl HT_ ?_
  refine pK 4 41 (mK 24 31) rfl rfl HT_ ?_
  refine pK 6 43 (mK 24 95) rfl rfl HT_ ?_
  refine pK 7 44 (mK 24 223) rfl rfl HT_ ?_
  refine pK 8 45 (mK 24 479) rfl rfl HT_ ?_
  refine pK 10 47 (mK 24 1503) rfl rfl HT_ ?_
  refine pK 11 48 (mK 24 3551) rfl rfl HT_ ?_
  refine pK 12 49 (mK 24 7647) rfl rfl HT_ ?_
  refine pK 14 51 (mK 24 24031) rfl rfl HT_ ?_
  refine pK 15 52 (mK 24 56799) rfl rfl HT_ ?_
  refine pK 16 53 (mK 24 122335) rfl rfl HT_ ?_
  refine take_ (i := 5) (N := some 42) (v := ?_) (a' := ?_) (mK 24 122367) rfl rfl (take_ofW HT_.out HW_.out (by kernel_rfl)) (fun _ _ _ h => h) (Or.inl ⟨by rfl, ?_⟩) hHeld ?_ ?_
  rotate_left; focus (rintro w' ⟨s0, s1⟩; go_simp; with_reducible rfl; done)
  rotate_left; focus (first | (simp only [Act.put, List.setIfInBounds_toArray, List.set_cons_zero, List.set_cons_succ, i64_w, i32_w]; rfl; done) | (rfl; done))
  refine take_ (i := 13) (N := some 50) (v := ?_) (a' := ?_) (mK 24 130559) rfl rfl (take_ofW HT_.out HW_.out (by kernel_rfl)) (fun _ _ _ h => h) (Or.inl ⟨by rfl, ?_⟩) hHeld ?_ ?_
  rotate_left; focus (rintro w' ⟨s0, s1⟩; go_simp; with_reducible rfl; done)
  rotate_left; focus (first | (simp only [Act.put, List.setIfInBounds_toArray, List.set_cons_zero, List.set_cons_succ, i64_w, i32_w]; rfl; done) | (rfl; done))
  refine one_ (i := 9) (N := some 46) (mK 24 131071) rfl rfl (one_of HT_.out (by kernel_rfl)) (by decide) (fun K hK => ?_)
  focus
   go_simp
   refine (cK.out _ ?_).mono ?_
   exact (by first | exact below_drew1 (Below.refl _ _) | exact Below.refl _ _)
   rintro e w2 ⟨A2, c2, rfl, s1⟩
   have S1 := Aside0.mk s1
   have HB2 := Aside0.mk (s1.blk HV.out.2.2.2.2 TW.out)
   clear s1
   go_simp
   refine hK.out _ _ ⟨(leaf_cells HB2.out).1, (leaf_cells HB2.out).2.1⟩ (fun hHeld => ?_)
   clear hK K
   refine one_ (i := 17) (N := some 54) (mK 24 262143) rfl rfl (one_of HT_.out (by kernel_rfl)) (by decide) (fun K hK => ?_)
   focus
    go_simp
    refine (cV.out _ _ _ _ _ S1.out ?_).mono ?_
    exact (by first | exact Below.refl _ _ | exact below_drew1 (Below.refl _ _))
    rintro e w3 ⟨A3, c3, rfl, dn⟩
    have DN := Aside0.mk dn
    have HB3 := Aside0.mk (dn.blk TW.out HV.out.2.2.2.2)
    have f0 := blk_frozen HB3.out 0
    have f1 := blk_frozen HB3.out 1
    have g0 := (leaf_cells HB3.out).1
    have g1 := (leaf_cells HB3.out).2.1
    clear dn
    go_simp
    refine hK.out _ _ ⟨(leaf_cells HB3.out).1, (leaf_cells HB3.out).2.1⟩ (fun hHeld => ?_)
    clear hK K
    refine pK 18 55 (mK 24 524287) rfl rfl HT_ ?_
    refine pK 19 56 (mK 24 1048575) rfl rfl HT_ ?_
    refine last_ (i := 20) (N := none) (mK 24 2097151) rfl rfl (one_of HT_.out (by kernel_rfl)) (by decide) (fun K hK => ?_)
    focus
     go_simp
     skip
     refine hK.out _ _ ?_
     clear hK K
     refine pK 21 57 (mK 24 4194303) rfl rfl HT_ ?_
     refine pK 22 58 (mK 24 8388607) rfl rfl HT_ ?_
     refine last_ (i := 23) (N := none) (mK 24 16777215) rfl rfl (one_of HT_.out (by kernel_rfl)) (by decide) (fun K hK => ?_)
     focus
      go_simp
      skip
      refine hK.out _ _ ?_
      clear hK K
      refine done_ (done_of HT_.out (by kernel_rfl)) ?_
      go_wp2
      go_ret2
      exact FIN.out _ _ _ _ _ DN.out
def DelSpec (m tb : Nat) (x : Nm) (h : Nat) : Prop := ∀ (w : World) (b : Nat) (t : T h) (S : List Nat) (lo hi : Option Nm), NodeAt h w b t S → Ok m h t lo hi → geO lo x → ltH x hi → (0 < h → 2 ≤ sizeT h t) → sizeT h t ≤ m →
    w.cell? ⟨tb, 0, none⟩ = some (.int .i64 m) → tb ∉ S → Calls Try.prog 33 #[.pointer (some ⟨tb, 0, none⟩), .pointer (some ⟨b, 0, none⟩), .string ⟨x.toArray⟩] w fun e w' => e = .returned (ansG (getF x (flat h t))) ∧ NDid h w w' b S (delT m h t x)
theorem del_leaf (m tb : Nat) (x : Nm) (hm : m ≤ 64) : DelSpec m tb x 0 := fun w b t S lo hi hn hk _ _ _ hs _ _ => by
  have hs : (flat 0 t).length ≤ m := hs
  by_cases hf : (keysOf t)[rank (keysOf t) x]? = some x
  · exact delFound hn hk.1 (Nat.le_trans hs (by omega)) hf
  · exact delMissed hn hk.1 (Nat.le_trans hs (by omega)) hf
end Go.Proofs.YtmomohljnmopfaaX
end
section
namespace Go.Proofs.YtmomohljnmopfaaX
open Go.RowKit Go.Lib Go.Proofs.YtmomohljnmopfaaW.PrintWords Go.Proofs.YtmomohljnmopfaaW.PrintLast Go.Proofs.YtmomohljnmopfaaW.PrintMore
set_option linter.unusedVariables false
set_option linter.unusedSimpArgs false
attribute [local go_sem high] eqlNil71 eqlNil72
theorem okL_all {α : Type} {P : α → Option Nm → Option Nm → Prop} : ∀ {ks : List Nm} {cs : List α} {lo hi : Option Nm}, OkL P ks cs lo hi → ∀ c ∈ cs, ∃ lo hi, P c lo hi
  | [], [c], lo, hi, h, d, hd => by
    rw [List.mem_singleton] at hd
    exact ⟨lo, hi, hd ▸ h⟩
  | k :: ks, c :: cs, lo, hi, h, d, hd => by
    rcases List.mem_cons.1 hd with rfl | hd
    · exact ⟨_, _, h.1⟩
    · exact okL_all h.2 d hd
  | [], [], _, _, h, _, _ => h.elim
  | [], c :: d :: cs, _, _, h, _, _ => h.elim
  | k :: ks, [], _, _, h, _, _ => h.elim
set_option maxRecDepth 100000 in
set_option maxHeartbeats 8000000 in
theorem del_inner {m tb h : Nat} {x : Nm} (h4 : 4 ≤ m) (hm : m ≤ 64) (ih : DelSpec m tb x h) : DelSpec m tb x (h + 1) := fun w b t S lo hi hn hk hlo hhi h2 hs htb hts => by
  obtain ⟨ks, cs⟩ := t
  have hs : cs.length ≤ m := hs
  have h2 : 2 ≤ cs.length := h2 (Nat.succ_pos _)
  have hsep : Seps lo ks hi := hk.1
  have hL : OkL (Kid m h) ks cs lo hi := hk.2
  have hlen := okL_len hL
  obtain ⟨q, hq⟩ : ∃ q, atK ks x = q := ⟨_, rfl⟩
  have hql : q ≤ ks.length := by rw [← hq]; exact at_le ks x
  obtain ⟨c, hc⟩ : ∃ c, cs[q]? = some c := ⟨_, List.getElem?_eq_getElem (by omega)⟩
  obtain ⟨hget, lo2, hi2, hkid, hlo2, hhi2⟩ := get_kid hk hlo hhi (by rw [hq]; exact hc)
  obtain ⟨kv, gv, cv, kb, Sc, hb, hkr, hkb, hcn, hcS, hbc, hgc, hkc, hset⟩ := inner_kid (ks := ks) hn hc
  obtain ⟨c0, c1, c2⟩ := inner_cells hb
  obtain ⟨p1, p2, p3, p4⟩ := del_ok h4 hkid.1 hlo2 hhi2 (fun _ => by have := hkid.2.1; omega)
  have hdel : delT m (h + 1) (mkT ks cs) x = widenT m (mkT ks (cs.set q (delT m h c x))) q := by
    have h9 := delT_some (m := m) (mkT ks cs) (x := x) (c := c) (by show cs[atK ks x]? = some c; rw [hq]; exact hc)
    rw [← hq]
    exact h9
  have cA := at_calls (x := x) c0 hkr (by omega) (seps_rises hsep)
  rw [hq] at cA
  have cP := ih w kb c Sc lo2 hi2 hcn hkid.1 hlo2 hhi2 (fun _ => by have := hkid.2.1; omega) hkid.2.2 htb (fun h9 => hts (hcS tb h9))
  have hqi : (q : Int) < (cs.length : Int) := by omega
  have hsz : ∀ c' ∈ cs.set q (delT m h c x), sizeT h c' ≤ 500 := fun c' hc' => by
    rcases List.mem_or_eq_of_mem_set hc' with h9 | rfl
    · obtain ⟨lo9, hi9, h8⟩ := okL_all hL c' h9
      have := h8.2.2; omega
    · have := hkid.2.2; omega
  obtain ⟨c', hc'⟩ : ∃ c', delT m h c x = c' := ⟨_, rfl⟩
  have hflat : getF x (flat (h + 1) (mkT ks cs)) = getF x (flat h c) := hget
  rw [hc'] at hdel cP hsz
  have A1 := Aside0.mk (And.intro hdel (And.intro hset (And.intro hcS (And.intro hts hn))))
  have A2 := Aside0.mk (And.intro hlen (And.intro hql (And.intro hs (And.intro h2 hsz))))
  have AF := Aside0.mk hflat
  have AT := Aside0.mk htb
  clear hdel hset hcS hts hn hlen hql hs h2 p1 p2 p3 p4 hsz hflat hget hkid hlo2 hhi2 hc' hk hL hsep hlo hhi hq hc hkr hcn hbc hgc hkc hb htb ih
  unfold encP at hkb
  generalize getF x (flat h c) = o at cP AF
  go_enter Try.func33, Try.ntmps33
  go_upto_region 10 with (first
    | (go_at_call 44; refine cA.mono ?_; rintro e w9 ⟨rfl, h9⟩; obtain rfl := h9.symm)
    | (go_at_call 33; refine cP.mono ?_; rintro e w1 ⟨rfl, Sc', hn1, hf1, hsub1⟩; unfold ansG; have N1 := Aside0.mk (And.intro hn1 (And.intro hf1 hsub1)); clear hn1 hf1 hsub1))
  obtain ⟨hdel, hset, hcS, hts, hn⟩ := A1.out
  obtain ⟨hlen, hql, hs, h2, hsz⟩ := A2.out
  obtain ⟨hn1, hf1, hsub1⟩ := N1.out
  obtain ⟨S1, hN1, hS1, hScS1, hD1⟩ := hset w1 c' Sc' hn1 hf1 hsub1
  have F1 := hf1.mono (T := S) hcS
  have ht1 := F1.cell AT.out hts
  have cW : WidenS m tb h w1 b S1 ks (cs.set q c') q := widen_calls h4 hm hN1 (by rw [List.length_set]; omega) (by rw [List.length_set]; omega) (by rw [List.length_set]; omega) hsz ht1
  unfold WidenS at cW
  have FIN : Aside0 (∀ w2, NDid (h + 1) w1 w2 b S1 (widenT m (mkT ks (cs.set q c')) q) → NDid (h + 1) w w2 b S (delT m (h + 1) (mkT ks cs) x)) := ⟨fun w2 nd => by
    obtain ⟨S2, hN2, hF2, hS2⟩ := nd
    have hz := F1.size
    exact ⟨S2, by rw [hdel]; exact hN2, F1.trans hF2 hS1, fun k hk => (hS2 k hk).elim (hS1 k) (fun h9 => .inr (by omega))⟩⟩
  clear hdel hset hcS hts hn hlen hql hs h2 hsz hn1 hf1 hsub1 hN1 hS1 hScS1 hD1 F1 ht1 hkb c0 c1 c2 cA hqi
  go_wp2_with (go_at_call 46; refine cW.mono ?_; rintro e w2 ⟨rfl, nd⟩; have ND := Aside0.mk nd; clear nd)
  go_ret2
  refine ⟨?_, FIN.out _ ND.out⟩
  show _ = Ending.returned (ansG (getF x (flat (h + 1) (mkT ks cs))))
  rw [AF.out]
  rfl
theorem del_node (m tb : Nat) (x : Nm) (h4 : 4 ≤ m) (hm : m ≤ 64) : ∀ h, DelSpec m tb x h
  | 0 => del_leaf m tb x hm
  | h + 1 => del_inner h4 hm (del_node m tb x h4 hm h)
end Go.Proofs.YtmomohljnmopfaaX
end
section
namespace Go.Proofs.YtmomohljnmopfaaX
open Go.RowKit Go.Lib Go.Proofs.YtmomohljnmopfaaW.PrintWords Go.Proofs.YtmomohljnmopfaaW.PrintLast Go.Proofs.YtmomohljnmopfaaW.PrintMore
set_option linter.unusedVariables false
set_option linter.unusedSimpArgs false
attribute [local go_sem high] eqlNil71 eqlNil72
theorem del_flat {m h : Nat} {t : T h} {x : Nm} (h4 : 4 ≤ m) (hr : Right m h t) : flat h (delT m h t x) = delF x (flat h t) ∧ Ok m h (delT m h t x) none none ∧ sizeT h (delT m h t x) ≤ m ∧ (0 < h → 1 ≤ sizeT h (delT m h t x)) := by
  obtain ⟨p1, p2, p3, p4⟩ := del_ok (x := x) h4 hr.1 (fun a ha => by cases ha) (fun a ha => by cases ha) hr.2.2
  exact ⟨p2, p1, by have := hr.2.1; omega, fun h0 => by have := hr.2.2 h0; omega⟩
/-- A root of one kid gives way to it. -/
theorem one_kid {m h : Nat} {ks : List Nm} {c : T h} (h4 : 4 ≤ m) (hk : Ok m (h + 1) (mkT ks [c]) none none) : Right m h c ∧ flat h c = flat (h + 1) (mkT ks [c]) := by
  have hL : OkL (Kid m h) ks [c] none none := hk.2
  have hl : [c].length = ks.length + 1 := okL_len hL
  obtain rfl : ks = [] := List.eq_nil_of_length_eq_zero (by simpa using hl)
  have hc : Kid m h c none none := hL
  refine ⟨⟨hc.1, hc.2.2, fun _ => by have := hc.2.1; omega⟩, ?_⟩
  show flat h c = flats [c]
  rw [flats_cons]
  simp [flats]
set_option maxRecDepth 100000 in
set_option maxHeartbeats 8000000 in
theorem delTree_calls {m : Nat} {w : World} {tb : Nat} {l : List KV} {S : List Nat} (x : Nm) (h4 : 4 ≤ m) (hm : m ≤ 64) (hl : l.length ≤ 4611686018427387904) (hT : Tr m w tb l S) : Calls Try.prog 17 #[.pointer (some ⟨tb, 0, none⟩), .string ⟨x.toArray⟩] w fun e w' =>
    e = .returned (ansG (getF x l)) ∧ TDid m w w' tb S (delF x l) := by
  obtain ⟨h, t, ⟨root, S0, hb, hn, rfl, hts⟩, hR, rfl⟩ := hT
  obtain ⟨c0, c1, c2⟩ := tree_cells hb
  have cP := del_node m tb x h4 hm h w root t S0 none none hn hR.1 (fun a ha => by cases ha) (fun a ha => by cases ha) hR.2.2 hR.2.1 c0 hts
  have hlen := delF_length (x := x) (l := flat h t)
  have hG := del_flat (x := x) h4 hR
  obtain ⟨l, hll⟩ : ∃ l, flat h t = l := ⟨_, rfl⟩
  obtain ⟨c', hc'⟩ : ∃ c', delT m h t x = c' := ⟨_, rfl⟩
  rw [hll] at hb hl c1 cP hlen hG
  rw [hc'] at cP hG
  have A1 := Aside0.mk (And.intro hb (And.intro hts (And.intro hG hlen)))
  rw [hll]
  have ht0 := blk_lt hb
  clear hb hn hts hR hlen hll hc' hG
  have e30 : ∀ n : Nat, n + 1 = l.length → IntKind.i64.wrap ((l.length : Int) - 1) = (n : Int) := fun n hn => by rw [i64_w]; unfold wrap64; omega
  clear hl
  generalize getF x l = o at *
  have FIN : Aside0 (∀ w1 W : World, W.heap[tb]? = some (.cells #[.int .i64 m, .int .i64 (delF x l).length, .pointer (some ⟨root, 0, none⟩)] 76 (0, 0)) → ∀ S1, NodeAt h W root c' S1 → Fr (tb :: S0) w W → tb ∉ S1 → (∀ k ∈ S1, k ∈ S0 ∨ w.heap.size ≤ k) → (0 < h → 2 ≤ sizeT h c') → TDid m w W tb (tb :: S0) (delF x l)) := ⟨fun w1 W hbW S1 hN hF ht hs h2 =>
    ⟨tb :: S1, ⟨h, c', ⟨root, S1, by rw [A1.out.2.2.1.1]; exact hbW, hN, rfl, ht⟩, ⟨A1.out.2.2.1.2.1, A1.out.2.2.1.2.2.1, h2⟩, A1.out.2.2.1.1⟩, hF, fun k hk => by
      rcases List.mem_cons.1 hk with rfl | hk
      · exact .inl (by simp)
      · exact (hs k hk).imp (fun h8 => List.mem_cons_of_mem _ h8) id⟩⟩
  go_enter Try.func17, Try.ntmps17
  go_upto_region 2 with (go_at_call 33; refine cP.mono ?_; rintro e w1 ⟨rfl, S1, n1, f1, s1⟩; have N1 := Aside0.mk (And.intro n1 (And.intro f1 s1)); have HB1 := Aside0.mk (f1.blk A1.out.1 A1.out.2.1); have d0 := (tree_cells HB1.out).1; have d1 := (tree_cells HB1.out).2.1; have d2 := (tree_cells HB1.out).2.2; have df := blk_frozen HB1.out 1; unfold ansG; clear n1 f1 s1)
  have ht1 : tb ∉ S1 := fun h9 => (N1.out.2.2 tb h9).elim A1.out.2.1 (fun h8 => absurd ht0 (Nat.not_lt.2 h8))
  have HT1 := Aside0.mk ht1
  clear c0 c1 c2 cP ht1
  cases o
  case' none =>
    simp only [Option.getD_none, Option.isSome_none]
    go_upto_region 4 with fail
    obtain ⟨W1, hW1⟩ : ∃ W1, w1 = W1 := ⟨_, rfl⟩
    have HBW : Aside0 (W1.heap[tb]? = some (.cells #[.int .i64 m, .int .i64 (delF x l).length, .pointer (some ⟨root, 0, none⟩)] 76 (0, 0))) := ⟨by rw [← hW1, show (delF x l).length = l.length from by have := A1.out.2.2.2; simpa using this]; exact HB1.out⟩
    have FW : Aside0 (Fr (tb :: S0) w W1 ∧ NodeAt h W1 root c' S1) := ⟨by rw [← hW1]; exact ⟨N1.out.2.1.mono (T := tb :: S0) (fun k hk => by simp [hk]), N1.out.1⟩⟩
    rw [hW1]
  case' some o =>
    simp only [Option.getD_some, Option.isSome_some]
    have e31 := e30 (delF x l).length (by have := A1.out.2.2.2; simpa using this)
    have e31' : wrap64 ((l.length : Int) - 1) = ((delF x l).length : Int) := by rw [← i64_w]; exact e31
    go_upto_region 4 with fail
    obtain ⟨W1, hW1⟩ : ∃ W1, w1.setCell ⟨tb, 1, none⟩ (.int .i64 ((delF x l).length : Int)) = W1 := ⟨_, rfl⟩
    have HBW : Aside0 (W1.heap[tb]? = some (.cells #[.int .i64 m, .int .i64 (delF x l).length, .pointer (some ⟨root, 0, none⟩)] 76 (0, 0))) := ⟨by rw [← hW1]; exact blk_put HB1.out 1 _ rfl⟩
    have FW : Aside0 (Fr (tb :: S0) w W1 ∧ NodeAt h W1 root c' S1) := ⟨by
      have f9 : Fr [tb] w1 W1 := by rw [← hW1]; exact (Fr.refl [tb] w1).setCell (p := ⟨tb, 1, none⟩) (.inl (by simp)) _
      exact ⟨(N1.out.2.1.mono (T := tb :: S0) (fun k hk => by simp [hk])).trans f9 (fun k hk => by simp only [List.mem_singleton] at hk; rw [hk]; exact .inl (by simp)), node_fr N1.out.1 f9 (fun k hk h9 => by simp only [List.mem_singleton] at h9; exact HT1.out (h9 ▸ hk))⟩⟩
    rw [hW1]
    clear e31 e31'
  all_goals
    clear d0 d1 d2 df e30 hW1
    obtain ⟨d0, d1, d2⟩ := tree_cells HBW.out
    have df := blk_frozen HBW.out 2
    have DONE := FIN.out w1 W1 HBW.out S1 FW.out.2 FW.out.1 HT1.out N1.out.2.2
    cases h with
    | zero =>
      have k2 : W1.cell? ⟨root, 2, none⟩ = some (.slice none 0 0) := by
        obtain ⟨kv, vv, h1, -⟩ := FW.out.2
        exact (leaf_cells h1).2.2
      have D := Aside0.mk (DONE (fun h9 => absurd h9 (Nat.lt_irrefl 0)))
      clear DONE
      go_wp2
      go_ret2
      exact ⟨rfl, D.out⟩
    | succ h =>
      obtain ⟨kv, gv, cv, hbR, -, -, -, hkid⟩ := inner_kids (ks := c'.1) (cs := c'.2) FW.out.2
      have k2 := (inner_cells hbR).2.2
      obtain ⟨n, hnn⟩ : ∃ n, c'.2.length = n := ⟨_, rfl⟩
      rw [hnn] at k2
      have hn1 : 1 ≤ n := by rw [← hnn]; exact A1.out.2.2.1.2.2.2 (Nat.succ_pos _)
      by_cases h1 : n = 1
      · subst h1
        obtain ⟨ks, cs⟩ := c'
        have hnn : cs.length = 1 := hnn
        obtain ⟨c, rfl⟩ : ∃ c, cs = [c] := by
          match cs, hnn with
          | [c], _ => exact ⟨c, rfl⟩
        obtain ⟨kb, Sc, z0, hNc, hsub⟩ := hkid 0 c rfl
        have htc : tb ∉ Sc := fun h9 => HT1.out (hsub tb h9)
        have LAST : Aside0 (TDid m w (W1.setCell ⟨tb, 2, none⟩ (.pointer (some ⟨kb, 0, none⟩))) tb (tb :: S0) (delF x l)) := ⟨by
          obtain ⟨R1, R2⟩ := one_kid h4 A1.out.2.2.1.2.1
          have hfl : flat h c = delF x l := R2.trans A1.out.2.2.1.1
          have f9 : Fr [tb] W1 (W1.setCell ⟨tb, 2, none⟩ (.pointer (some ⟨kb, 0, none⟩))) := (Fr.refl [tb] W1).setCell (p := ⟨tb, 2, none⟩) (.inl (by simp)) _
          refine ⟨tb :: Sc, ⟨h, c, ⟨kb, Sc, by rw [hfl]; exact blk_put HBW.out 2 _ rfl, node_fr hNc f9 (fun k hk h9 => by simp only [List.mem_singleton] at h9; exact htc (h9 ▸ hk)), rfl, htc⟩, R1, hfl⟩, FW.out.1.trans f9 (fun k hk => by simp only [List.mem_singleton] at hk; rw [hk]; exact .inl (by simp)), fun k hk => ?_⟩
          rcases List.mem_cons.1 hk with rfl | hk
          · exact .inl (by simp)
          · exact (N1.out.2.2 k (hsub k hk)).imp (fun h8 => List.mem_cons_of_mem _ h8) id⟩
        unfold encP at z0
        clear DONE hkid hNc hsub htc hbR hnn
        go_wp2
        go_ret2
        exact ⟨rfl, LAST.out⟩
      · have D := Aside0.mk (DONE (fun _ => by show 2 ≤ c'.2.length; omega))
        have e40 : decide ((n : Int) = 1) = false := decide_eq_false (by omega)
        have e41 : decide (n = 1) = false := decide_eq_false h1
        clear DONE hkid hbR hnn
        go_wp2
        go_ret2
        exact ⟨rfl, D.out⟩
end Go.Proofs.YtmomohljnmopfaaX
end
section
namespace Go
theorem least_nat {p : Nat → Prop} (h : ∃ n, p n) : ∃ n, p n ∧ ∀ m, p m → n ≤ m := by
  apply Classical.byContradiction
  intro hc
  have hn : ∀ n, ∀ m, m ≤ n → ¬ p m := by
    intro n
    induction n with
    | zero => exact fun m hm hp => hc ⟨m, hp, fun k _ => by omega⟩
    | succ n ih => exact fun m hm hp => hc ⟨m, hp, fun k hk => Decidable.byContradiction (fun h9 => ih k (by omega) hk)⟩
  obtain ⟨n, hp⟩ := h
  exact hn n n (Nat.le_refl _) hp
/-- A scope in which the run jumps back to one label: the measure stands in no slot. -/
theorem wp_scope_ghost {P : Program} {a : Act} {w : World} {Q : Exit → Act → World → Prop} {c rest : Code} (l : Nat) (J : Nat → Act → World → Prop) (hf : findLabel c l = some rest)
    (first : c.wp P (Exit.jump l (fun a w => ∃ n, J n a w) Q) a w)
    (pass : ∀ n a w, J n a w → rest.wp P (Exit.jump l (fun a' w' => ∃ m, m < n ∧ J m a' w') Q) a w) : (Code.scope c).wp P Q a w := by
  classical
  refine wp_scope_jumps l (fun a w => ∃ n, J n a w) (fun a w => if h : ∃ n, J n a w then (least_nat h).choose else 0) hf first ?_
  intro a w hJ
  have hm := (least_nat hJ).choose_spec
  refine wp_mono (pass _ a w hm.1) ?_
  intro e a' w' hq
  cases e with
  | goto l' =>
    obtain ⟨h1, m, h2, h3⟩ := hq
    have hJ' : ∃ n, J n a' w' := ⟨m, h3⟩
    refine ⟨h1, hJ', ?_⟩
    rw [dif_pos hJ', dif_pos hJ]
    exact Nat.lt_of_le_of_lt ((least_nat hJ').choose_spec.2 m h3) h2
  | normal => exact hq
  | exit id => exact hq
  | ret => exact hq
  | panic ch => exact hq
  | outgrown => exact hq
end Go
namespace Go.Proofs.YtmomohljnmopfaaX
open Go.RowKit Go.Lib Go.Proofs.YtmomohljnmopfaaW.PrintWords Go.Proofs.YtmomohljnmopfaaW.PrintLast Go.Proofs.YtmomohljnmopfaaW.PrintMore
set_option linter.unusedVariables false
set_option linter.unusedSimpArgs false
attribute [local go_sem high] eqlNil71 eqlNil72
theorem neqNil72 (w : World) (a : Option Addr) (n c : Nat) : (binOp .neq 72 (.slice a n c) (.slice none 0 0)).run Try.prog w = .ok (.bool (!a.isNone)) w := by
  simp only [binOp]
  simp [Op.equal, Op.maxDepth, Lib.run_equalIn_slice_nil w 9999 72 70 a n c 0 0 Try.underlying72]
attribute [local go_sem high] neqNil72
/-- What a way down from the root bears. -/
structure Way (m : Nat) (x : Nm) (w : World) (b n : Nat) (o : Option ByteArray) (S : List Nat) : Prop where
  at_ : ∃ (t : T n) (S' : List Nat) (lo hi : Option Nm), NodeAt n w b t S' ∧ Ok m n t lo hi ∧ geO lo x ∧ ltH x hi ∧ sizeT n t ≤ m ∧ getF x (flat n t) = o ∧ ∀ k ∈ S', k ∈ S
theorem Way.drewN {m : Nat} {x : Nm} {w : World} {b n : Nat} {o : Option ByteArray} {S : List Nat} (h : Way m x w b n o S) (k : Nat) : Way m x (w.drewN k) b n o S := by
  obtain ⟨t, S', lo, hi, h1, h2⟩ := h.at_
  exact ⟨t, S', lo, hi, node_step h1 (fun _ _ => rfl), h2⟩
theorem Way.undrewN {m : Nat} {x : Nm} {w : World} {b n : Nat} {o : Option ByteArray} {S : List Nat} {k : Nat} (h : Way m x (w.drewN k) b n o S) : Way m x w b n o S := by
  obtain ⟨t, S', lo, hi, h1, h2⟩ := h.at_
  exact ⟨t, S', lo, hi, node_step h1 (fun _ _ => rfl), h2⟩
set_option maxRecDepth 100000 in
set_option maxHeartbeats 8000000 in
theorem leaf_calls {m : Nat} {w : World} {tb : Nat} {l : List KV} {S : List Nat} (x : Nm) (hm : m ≤ 64) (hT : Tr m w tb l S) : Calls Try.prog 39 #[.pointer (some ⟨tb, 0, none⟩), .string ⟨x.toArray⟩] w fun e w' =>
    ∃ b l' k, e = .returned (.pointer (some ⟨b, 0, none⟩)) ∧ w' = w.drewN k ∧ (∃ S', LeafAt w' b l' S') ∧ Rises l' ∧ getF x l' = getF x l ∧ l'.length ≤ 64 := by
  obtain ⟨h, t, ⟨root, S0, hb, hn, rfl, hts⟩, hR, rfl⟩ := hT
  obtain ⟨c0, c1, c2⟩ := tree_cells hb
  obtain ⟨o, ho⟩ : ∃ o, getF x (flat h t) = o := ⟨_, rfl⟩
  have W0 : Way m x w root h o S0 := ⟨⟨t, S0, none, none, hn, hR.1, (fun a ha => by cases ha), (fun a ha => by cases ha), hR.2.1, ho, fun k hk => hk⟩⟩
  rw [ho]
  clear hb hn hts hR c0 c1 ho
  go_enter Try.func39, Try.ntmps39
  go_wp2
  refine wp_scope_ghost 0 (fun n a' w' => ∃ (k b : Nat) (u2 u3 u6 u7 u8 u9 u10 u11 u12 u13 u14 u15 u16 u17 u18 u19 u20 u21 u22 u23 u24 : Value), w' = w.drewN k ∧ Way m x w b n o S0 ∧
    a' = { tmps := #[.pointer (some ⟨tb, 0, none⟩), .string ⟨x.toArray⟩, u2, u3, .pointer none, .pointer (some ⟨b, 0, none⟩), u6, u7, u8, u9, u10, u11, u12, u13, u14, u15, u16, u17, u18, u19, u20, u21, u22, u23, u24], defers := [] }) rfl ?first ?pass
  case' first =>
    go_wp2
    go_step3
    obtain ⟨W, hW⟩ : ∃ W, w = W := ⟨_, rfl⟩
    have HW2 : Aside0 (w.drewN 0 = W) := ⟨hW⟩
    have hway := W0
    rw [hW] at hway ⊢
    obtain ⟨k, hk⟩ : ∃ k : Nat, k = 0 := ⟨_, rfl⟩
    rw [← hk] at HW2
    obtain ⟨b, hb0⟩ : ∃ b, root = b := ⟨_, rfl⟩
    rw [hb0] at hway ⊢
    obtain ⟨n, hn0⟩ : ∃ n, h = n := ⟨_, rfl⟩
    rw [hn0] at hway
    clear hb0 hk hW W0 c2 t hn0 h
  case' pass =>
    rintro n a' w' ⟨k, b, u2, u3, u6, u7, u8, u9, u10, u11, u12, u13, u14, u15, u16, u17, u18, u19, u20, u21, u22, u23, u24, rfl, hway, rfl⟩
    replace hway := hway.drewN k
    obtain ⟨W, hW⟩ : ∃ W, w.drewN k = W := ⟨_, rfl⟩
    have HW2 := Aside0.mk hW
    rw [hW] at hway ⊢
    clear hW W0 c2 t h
  all_goals
    obtain ⟨t, S', lo, hi, h1, h2, h3, h4, h5, h6, h7⟩ := hway.at_
    cases n with
    | zero =>
      have H := Aside0.mk (And.intro h1 (And.intro h2 (And.intro h5 h6)))
      obtain ⟨kv, vv, hb, -⟩ := h1
      obtain ⟨c0, c1, c2⟩ := leaf_cells hb
      clear hb h2 h3 h4 h5 h6 h7 hway
      go_wp2
      simp only [Exit.jump]
      go_ret
      obtain ⟨g1, g2, g3, g4⟩ := H.out
      exact ⟨b, t, k, rfl, HW2.out.symm, ⟨S', g1⟩, g2.1, g4, Nat.le_trans g3 hm⟩
    | succ n =>
      obtain ⟨ks, cs⟩ := t
      obtain ⟨kv, gv, cv, hb, hkr, hlen, hcv, hkid⟩ := inner_kids (ks := ks) (cs := cs) h1
      obtain ⟨c0, c1, c2⟩ := inner_cells hb
      have hsz : cs.length ≤ m := h5
      have hsep : Seps lo ks hi := h2.1
      obtain ⟨q, hq⟩ : ∃ q, atK ks x = q := ⟨_, rfl⟩
      have hql : q ≤ ks.length := by rw [← hq]; exact at_le _ x
      obtain ⟨c, hc⟩ : ∃ c, cs[q]? = some c := ⟨_, List.getElem?_eq_getElem (by omega)⟩
      obtain ⟨hget, lo2, hi2, hkd, hlo2, hhi2⟩ := get_kid (ks := ks) (cs := cs) h2 h3 h4 (by rw [hq]; exact hc)
      obtain ⟨kb, Sc, z0, hNc, hsub⟩ := hkid q c hc
      have cA := fun j => at_calls (w := W.drewN j) (x := x) c0 (hkr.step (fun _ _ => rfl)) (by omega) (seps_rises hsep)
      rw [hq] at cA
      have hway2 : Way m x W kb n o S0 := ⟨⟨c, Sc, lo2, hi2, hNc, hkd.1, hlo2, hhi2, hkd.2.2, by rw [← h6]; exact hget.symm, fun k hk => h7 k (hsub k hk)⟩⟩
      have hqi : (q : Int) < (cs.length : Int) := by omega
      have HW := Aside0.mk hway2
      unfold encP at z0
      have cB : ∀ j, Calls Try.prog 44 #[.pointer (some ⟨b, 0, none⟩), .string ⟨x.toArray⟩] (W.drewN j) fun e w' => e = .returned (.int .i64 q) ∧ ∃ m, w' = W.drewN m := fun j => (cA j).mono (fun e w' ⟨g1, g2⟩ => ⟨g1, j, g2⟩)
      obtain ⟨nk, hnk⟩ : ∃ nk, cs.length = nk := ⟨_, rfl⟩
      rw [hnk] at c2 hqi
      clear cA hb hkr hlen hcv hkid h1 h2 h3 h4 h5 h6 h7 hway hsz hq hql hc hget hkd hlo2 hhi2 hNc hsub hway2 hnk c0 c1 hsep
      go_upto_region 3 with fail
      go_quiet ((go_at_call 44; exact cB _))
      go_wp2
      go_step3
      have e8 : W.drewN nq = w.drewN (k + nq) := by rw [← HW2.out, World.drewN_drewN]
      first
        | exact ⟨rfl, n, Nat.lt_succ_self _, k + nq, kb, _, _, _, _, _, _, _, _, _, _, _, _, _, _, _, _, _, _, _, _, _, e8, (by rw [← HW2.out] at HW; exact HW.out.undrewN), rfl⟩
        | exact ⟨rfl, n, k + nq, kb, _, _, _, _, _, _, _, _, _, _, _, _, _, _, _, _, _, _, _, _, _, e8, (by rw [← HW2.out] at HW; exact HW.out.undrewN), rfl⟩
set_option maxRecDepth 100000 in
set_option maxHeartbeats 8000000 in
theorem getTree_calls {m : Nat} {w : World} {tb : Nat} {l : List KV} {S : List Nat} (x : Nm) (hm : m ≤ 64) (hT : Tr m w tb l S) : Calls Try.prog 24 #[.pointer (some ⟨tb, 0, none⟩), .string ⟨x.toArray⟩] w fun e w' =>
    e = .returned (ansG (getF x l)) ∧ ∃ k, w' = w.drewN k := by
  have cL := leaf_calls x hm hT
  clear hT
  go_enter Try.func24, Try.ntmps24
  go_upto_region 2 with (go_at_call 39; refine cL.mono ?_; rintro e w1 ⟨b, l', k, rfl, rfl, ⟨S', hL⟩, hr, hg, hn⟩)
  obtain ⟨W, hW⟩ : ∃ W, w.drewN k = W := ⟨_, rfl⟩
  have HW := Aside0.mk hW
  rw [hW] at hL ⊢
  clear cL hW
  obtain ⟨kv, vv, h1, hk, hv, -, -⟩ := hL
  obtain ⟨Ak, ck, rfl, hck, -⟩ := hk.shape
  rw [encKs_len, keysOf_len] at h1 hk hck
  obtain ⟨c0, c1, c2⟩ := leaf_cells h1
  have cS := search_calls (x := x) (hk.src rfl) (c := ck) (by rw [keysOf_len]; exact hck) (by rw [keysOf_len]; omega) (keysOf_rises hr)
  rw [keysOf_len] at cS
  by_cases hf : (keysOf l')[rank (keysOf l') x]? = some x
  · obtain ⟨o, hl, hgo, -, -⟩ := found_facts (v := ⟨#[]⟩) hf
    rw [decide_eq_true hf] at cS
    obtain ⟨q, hq⟩ : ∃ q, rank (keysOf l') x = q := ⟨_, rfl⟩
    rw [hq] at cS hl
    have hil := (List.getElem?_eq_some_iff.1 hl).1
    have hu : (encVs l')[q]? = some (.string o) := by rw [encVs, List.getElem?_map, hl]; rfl
    obtain ⟨g9, c9, rfl, z0, -, -⟩ := hv.at hu
    rw [encVs_len] at c1
    have HG := Aside0.mk (hg.symm.trans hgo)
    have e3 : (q : Int) < (l'.length : Int) := by omega
    obtain ⟨n, hnn⟩ : ∃ n, l'.length = n := ⟨_, rfl⟩
    rw [hnn] at c0 c1 cS e3
    clear h1 hk hv hck hf hq hl hil hu hg hgo hr hn hnn
    go_wp2_with (go_at_call 40; refine cS.mono ?_; rintro e w1 ⟨rfl, h9⟩; obtain rfl := h9.symm)
    go_ret2
    refine ⟨?_, k, HW.out.symm⟩
    rw [HG.out]
    rfl
  · obtain ⟨hgo, -, -⟩ := missed_facts (v := ⟨#[]⟩) hr hf
    rw [decide_eq_false hf] at cS
    have HG := Aside0.mk (hg.symm.trans hgo)
    generalize rank (keysOf l') x = q at cS
    generalize l'.length = n at c0 cS
    clear h1 hk hv hck hf hg hgo hr hn
    go_wp2_with (go_at_call 40; refine cS.mono ?_; rintro e w1 ⟨rfl, h9⟩; obtain rfl := h9.symm)
    go_ret2
    refine ⟨?_, k, HW.out.symm⟩
    rw [HG.out]
    rfl
theorem lenTree_calls {m : Nat} {w : World} {tb : Nat} {l : List KV} {S : List Nat} (hT : Tr m w tb l S) : Calls Try.prog 20 #[.pointer (some ⟨tb, 0, none⟩)] w fun e w' => e = .returned (.int .i64 l.length) ∧ w' = w := by
  obtain ⟨h, t, ⟨root, S0, hb, hn, rfl, hts⟩, hR, rfl⟩ := hT
  obtain ⟨c0, c1, c2⟩ := tree_cells hb
  clear hb hn hts hR
  go_enter Try.func20, Try.ntmps20
  go_wp2
  go_ret
  exact ⟨rfl, rfl⟩
theorem seek_calls {w : World} {tb : Nat} (x : ByteArray) : Calls Try.prog 14 #[.pointer (some ⟨tb, 0, none⟩), .string x] w fun e w' => e = .returned (.pointer (some ⟨w.heap.size, 0, none⟩)) ∧ w' = w.alloc (.cells #[.pointer (some ⟨tb, 0, none⟩), .string x] 85) := by
  go_enter Try.func14, Try.ntmps14
  go_wp2
  go_ret
  exact ⟨rfl, rfl⟩
end Go.Proofs.YtmomohljnmopfaaX
end
section
namespace Go.Proofs.YtmomohljnmopfaaX
open Go.RowKit Go.Lib Go.Proofs.YtmomohljnmopfaaW.PrintWords Go.Proofs.YtmomohljnmopfaaW.PrintLast Go.Proofs.YtmomohljnmopfaaW.PrintMore
set_option linter.unusedVariables false
set_option linter.unusedSimpArgs false
/-- n elements of k cells each, of the type e; cs: all their cells. -/
def RowC (k : Nat) (e : TypeId) (w : World) (v : Value) (n : Nat) (cs : List Value) : Prop :=
  (v = .slice none 0 0 ∧ n = 0 ∧ cs = []) ∨ ∃ g cap cur, v = .slice (some ⟨g, 0, none⟩) n cap ∧ w.heap[g]? = some (.cells cur e (0, 0)) ∧ n ≤ cap ∧ cap * k ≤ cur.size ∧ cap ≤ maxLen ∧ cs.length = n * k ∧ cur.toList.take (n * k) = cs ∧ ∀ u ∈ cs, u.oneCell' = true
section
variable {k : Nat} {e : TypeId} {w w' : World} {v : Value} {n m : Nat} {cs ds : List Value}
theorem RowC.one (h : RowC k e w v n cs) : ∀ u ∈ cs, u.oneCell' = true := by
  rcases h with ⟨_, _, rfl⟩ | ⟨g, cap, cur, _, _, _, _, _, _, _, h⟩
  · intro u hu; cases hu
  · exact h
theorem RowC.len (h : RowC k e w v n cs) : cs.length = n * k := by
  rcases h with ⟨_, rfl, rfl⟩ | ⟨g, cap, cur, _, _, _, _, _, h, _⟩
  · simp
  · exact h
theorem RowC.lt (h : RowC k e w v n cs) : ∀ q ∈ v.ownBlock.toList, q < w.heap.size := fun q hq => by
  rcases h with ⟨rfl, _⟩ | ⟨g, cap, cur, rfl, hg, _⟩
  · simp [Value.ownBlock] at hq
  · simp [Value.ownBlock] at hq
    subst hq
    exact blk_lt hg
theorem RowC.step (h : RowC k e w v n cs) (hb : ∀ q ∈ v.ownBlock.toList, w'.heap[q]? = w.heap[q]?) : RowC k e w' v n cs := by
  rcases h with h | ⟨g, cap, cur, rfl, hg, r⟩
  · exact .inl h
  · exact .inr ⟨g, cap, cur, rfl, (hb g (by simp [Value.ownBlock])).trans hg, r⟩
theorem RowC.below (h : RowC k e w v n cs) (hb : Below w.heap.size w w') : RowC k e w' v n cs := h.step (fun q hq => hb.block q (h.lt q hq))
theorem RowC.fr {S : List Nat} (h : RowC k e w v n cs) (hf : Fr S w w') (hn : ∀ q ∈ v.ownBlock.toList, q ∉ S) : RowC k e w' v n cs := h.step (fun q hq => hf.block q (h.lt q hq) (hn q hq))
theorem RowC.nil (k : Nat) (e : TypeId) (w : World) : RowC k e w (.slice none 0 0) 0 [] := .inl ⟨rfl, rfl, rfl⟩
theorem RowC.shape (h : RowC k e w v n cs) : ∃ A c, v = .slice A n c ∧ n ≤ c ∧ c ≤ maxLen := by
  rcases h with ⟨rfl, rfl, rfl⟩ | ⟨g, cap, cur, rfl, _, h1, h2, h3, _⟩
  · exact ⟨none, 0, rfl, Nat.le_refl _, by simp [maxLen]⟩
  · exact ⟨_, cap, rfl, h1, h3⟩
theorem RowC.has (h : RowC k e w v n cs) (hp : 0 < n) : ∃ g c, v = .slice (some ⟨g, 0, none⟩) n c := by
  rcases h with ⟨_, rfl, _⟩ | ⟨g, cap, cur, h0, _⟩
  · cases hp
  · exact ⟨g, cap, h0⟩
theorem RowC.at {g c : Nat} (h : RowC k e w (.slice (some ⟨g, 0, none⟩) n c) n cs) {i : Nat} {u : Value} (hi : cs[i]? = some u) : w.cell? ⟨g, i, none⟩ = some u := by
  have hl := (List.getElem?_eq_some_iff.1 hi).1
  rcases h with ⟨h0, _⟩ | ⟨g', cap, cur, h0, hg, h1, h2, h3, h4, h5, _⟩
  · cases h0
  · cases h0
    rw [← h5, List.getElem?_take, if_pos (by rw [← h4]; exact hl), Array.getElem?_toList] at hi
    rw [cell_of_row w g i cur e (0, 0) hg, hi]
theorem RowC.frozen {g c : Nat} (h : RowC k e w (.slice (some ⟨g, 0, none⟩) n c) n cs) (j : Nat) : w.frozen? ⟨g, j, none⟩ = false := by
  rcases h with ⟨h0, _⟩ | ⟨g', cap, cur, h0, hg, _⟩
  · cases h0
  · cases h0
    exact blk_frozen hg j
theorem RowC.src (h : RowC k e w v n cs) {A : Option Addr} {n' c : Nat} (hv : v = .slice A n' c) : SrcV w A cs := fun hne => by
  rcases h with ⟨_, _, rfl⟩ | ⟨g, cap, cur, h0, hg, h1, h2, h3, h4, h5, _⟩
  · exact absurd rfl hne
  · rw [hv] at h0
    cases h0
    refine ⟨_, rfl, fun j u hj => ?_⟩
    have hl := (List.getElem?_eq_some_iff.1 hj).1
    rw [add_lit0]
    rw [← h5, List.getElem?_take, if_pos (by rw [← h4]; exact hl), Array.getElem?_toList] at hj
    rw [cell_of_row w g j cur e (0, 0) hg, hj]
/-- v[:q] -/
theorem RowC.cut (h : RowC k e w v n cs) {A : Option Addr} {c : Nat} (hv : v = .slice A n c) {q : Nat} (hq : q ≤ n) : RowC k e w (.slice A q c) q (cs.take (q * k)) := by
  rcases h with ⟨h1, rfl, rfl⟩ | ⟨g, cap, cur, h0, hg, h1, h2, h3, h4, h5, h6⟩
  · rw [hv] at h1
    cases h1
    obtain rfl : q = 0 := by omega
    exact .inl ⟨rfl, rfl, by simp⟩
  · rw [hv] at h0
    cases h0
    have e0 : q * k ≤ n * k := Nat.mul_le_mul_right _ hq
    refine .inr ⟨g, c, cur, rfl, hg, by omega, h2, h3, by rw [List.length_take]; omega, ?_, fun u hu => h6 u (List.mem_of_mem_take hu)⟩
    rw [← h5, List.take_take, Nat.min_eq_left e0]
/-- One cell is written. -/
theorem RowC.put {g c : Nat} (h : RowC k e w (.slice (some ⟨g, 0, none⟩) n c) n cs) {i : Nat} (hi : i < n * k) {u : Value} (hu : u.oneCell' = true) : RowC k e (w.setCell ⟨g, i, none⟩ u) (.slice (some ⟨g, 0, none⟩) n c) n (cs.set i u) := by
  rcases h with ⟨h1, _⟩ | ⟨g', cap, cur, h0, hg, h1, h2, h3, h4, h5, h6⟩
  · cases h1
  · cases h0
    refine .inr ⟨g, c, cur.setIfInBounds i u, rfl, blk_put hg i u rfl, h1, by rw [Array.size_setIfInBounds]; exact h2, h3, by rw [List.length_set]; exact h4, ?_, fun q hq => ?_⟩
    · rw [Array.toList_setIfInBounds, List.take_set, h5]
    · rcases List.mem_or_eq_of_mem_set hq with hq | rfl
      · exact h6 q hq
      · exact hu
/-- append(v, ..): m more elements. -/
theorem RowC.append {P : Program} (h : RowC k e w v n cs) (t ty : TypeId) (ht : P.underlying t = some (.slice e)) {z : Value} {bytes : Nat} (hinfo : (P.info? e).map (fun i => (i.zero, i.size, i.bytes)) = some (some z, k, bytes)) (hz1 : z.cells.size = k) (hb0 : 0 < bytes)
    {A : Option Addr} {c : Nat} (hsrc : SrcV w A ds) (h1 : ∀ u ∈ ds, u.oneCell' = true) (hd : ds.length = m * k) (hm0 : 0 < m) (hk0 : 0 < k) (hl : (n + m) * bytes ≤ 140737488355328) :
    ∃ g c' w', (Builtin.append_ #[t, t] ty #[v, .slice A m c]).run P w = .ok (.slice (some ⟨g, 0, none⟩) (n + m) c') w' ∧ RowC k e w' (.slice (some ⟨g, 0, none⟩) (n + m) c') (n + m) (cs ++ ds) ∧ w.grownBy w' v.ownBlock ∧ (v.ownBlock = some g ∨ w.heap.size ≤ g) := by
  obtain ⟨i, hi, hzz⟩ := Option.map_eq_some_iff.1 hinfo
  simp only [Prod.mk.injEq] at hzz
  obtain ⟨hz, hsize, hby⟩ := hzz
  have hlen : n + m ≤ 140737488355328 := Nat.le_trans (Nat.le_mul_of_pos_right _ hb0) hl
  have hm : n + m ≤ maxLen := by simp only [maxLen]; omega
  have h1' : ∀ u ∈ cs ++ ds, u.oneCell' = true := fun u hu => (List.mem_append.1 hu).elim (h.one u) (h1 u)
  have hcl := h.len
  have hpos : 0 < ds.length := by rw [hd]; exact Nat.mul_pos hm0 hk0
  obtain ⟨ad, rfl, hcell⟩ := hsrc (List.length_pos_iff.1 hpos)
  have hnk : (cs ++ ds).length = (n + m) * k := by rw [List.length_append, hcl, hd, Nat.add_mul]
  have grown : ∀ (old : Nat) (row : Option Nat),
      RowC k e (w.drew.alloc (.cells (cs.toArray ++ ds.toArray ++ Builtin.zeroCells z.cells (grownCap w (n + m) old e - (n + m))) e)) (.slice (some ⟨w.heap.size, 0, none⟩) (n + m) (grownCap w (n + m) old e)) (n + m) (cs ++ ds) ∧
      w.grownBy (w.drew.alloc (.cells (cs.toArray ++ ds.toArray ++ Builtin.zeroCells z.cells (grownCap w (n + m) old e - (n + m))) e)) row := by
    intro old row
    have hge := grownCap_ge w (n + m) old e
    refine ⟨.inr ⟨w.heap.size, _, _, rfl, heap_alloc_new w.drew _, by omega, ?_, grownCap_le_maxLen w _ old e hm, hnk, ?_, h1'⟩, ⟨rfl, rfl, rfl, by simp, fun q hq _ => Below.heap_alloc w.drew _ q hq⟩⟩
    · simp only [Array.size_append, List.size_toArray, size_zeroCells, hz1]
      rw [← List.length_append, hnk, ← Nat.add_mul]
      exact Nat.mul_le_mul_right _ (by omega)
    · simp only [Array.toList_append]
      rw [← hnk, List.take_append_of_le_length (Nat.le_refl _), List.take_of_length_le (Nat.le_refl _)]
  rcases h with ⟨rfl, rfl, rfl⟩ | ⟨g, cap, cur, rfl, hg, h2, h3, h4, h5, h6, h7⟩
  · have hr := run_append_nil (P := P) (w := w) t ty e i z ht hi hz ad m c ds (by rw [hsize]; exact hd) hcell hm0 (by omega) (by rw [hby]; simp only [Nat.zero_add] at hl; omega)
    have hgr := grown 0 (Value.ownBlock (.slice none 0 0))
    simp only [Nat.zero_add, List.nil_append, Array.empty_append] at hgr ⊢
    exact ⟨_, _, _, hr, hgr.1, hgr.2, .inr (Nat.le_refl _)⟩
  · by_cases hroom : n + m ≤ cap
    · have hsz : (n + m) * k ≤ cap * k := Nat.mul_le_mul_right _ hroom
      rw [Nat.add_mul] at hsz
      have hr := run_append_room (P := P) (w := w) t ty e i ht hi g n cap cur hg ad m c ds (by rw [hsize]; exact hd) hcell h1 hroom (by rw [hsize, hd]; omega)
      rw [hsize] at hr
      refine ⟨_, _, _, hr, .inr ⟨g, cap, _, rfl, setRow_heap w g cur _ e _ hg, hroom, ?_, h4, hnk, ?_, h1'⟩, ⟨rfl, rfl, rfl, by simp, fun q _ hq => setRow_other w g q _ (fun e => hq (by simp [Value.ownBlock, e]))⟩, .inl rfl⟩
      · simp only [List.size_toArray, List.length_append, List.length_take, List.length_drop, Array.length_toList]
        rw [hd]; omega
      · simp only
        rw [h6, ← hnk, List.take_append_of_le_length (Nat.le_refl _), List.take_of_length_le (Nat.le_refl _)]
    · have holds : ∀ j u, cs[j]? = some u → w.cell? ((⟨g, 0, none⟩ : Addr).add j) = some u := fun j u hj => by
        have hjl := (List.getElem?_eq_some_iff.1 hj).1
        rw [← h6, List.getElem?_take, if_pos (by rw [← h5]; exact hjl), Array.getElem?_toList] at hj
        rw [add_lit0, cell_of_row w g j cur e (0, 0) hg, hj]
      have hr := run_append_grow (P := P) (w := w) t ty e i z ht hi hz ⟨g, 0, none⟩ n cap cs (by rw [hsize]; exact hcl) holds ad m c ds (by rw [hsize]; exact hd) hcell (by omega) (by omega) (by rw [hby]; exact growslice_fits (by omega) hl)
      have hgr := grown cap (Value.ownBlock (.slice (some ⟨g, 0, none⟩) n cap))
      exact ⟨_, _, _, hr, hgr.1, hgr.2, .inr (Nat.le_refl _)⟩
end
/-! ### pairs -/
def pc (l : List KV) : List Value := l.flatMap (fun p => [.string ⟨p.1.toArray⟩, .string p.2])
theorem pc_nil : pc [] = [] := rfl
theorem pc_cons (p : KV) (l : List KV) : pc (p :: l) = .string ⟨p.1.toArray⟩ :: .string p.2 :: pc l := by simp [pc]
theorem pc_app (a b : List KV) : pc (a ++ b) = pc a ++ pc b := by simp [pc]
theorem pc_len (l : List KV) : (pc l).length = l.length * 2 := by
  induction l with
  | nil => rfl
  | cons p l ih => rw [pc_cons, List.length_cons, List.length_cons, ih, List.length_cons]; omega
theorem pc_one (l : List KV) : ∀ u ∈ pc l, u.oneCell' = true := fun u hu => by
  obtain ⟨p, _, hp⟩ := List.mem_flatMap.1 hu
  simp only [List.mem_cons, List.not_mem_nil, or_false] at hp
  rcases hp with rfl | rfl <;> rfl
theorem pc_get {p : KV} : ∀ {l : List KV} {i : Nat}, l[i]? = some p → (pc l)[i * 2]? = some (.string ⟨p.1.toArray⟩) ∧ (pc l)[i * 2 + 1]? = some (.string p.2)
  | [], i, h => by simp at h
  | q :: l, 0, h => by
    cases h
    rw [pc_cons]
    exact ⟨rfl, rfl⟩
  | q :: l, i + 1, h => by
    obtain ⟨h1, h2⟩ := pc_get (l := l) (i := i) (by simpa using h)
    rw [pc_cons, show (i + 1) * 2 = i * 2 + 1 + 1 by omega, List.getElem?_cons_succ, List.getElem?_cons_succ, List.getElem?_cons_succ, List.getElem?_cons_succ]
    exact ⟨h1, h2⟩
theorem pc_set {l : List KV} : ∀ {i : Nat} {p : KV}, i < l.length → ((pc l).set (i * 2) (.string ⟨p.1.toArray⟩)).set (i * 2 + 1) (.string p.2) = pc (l.set i p) := by
  induction l with
  | nil => intro i p h; cases h
  | cons q l ih =>
    intro i p h
    cases i with
    | zero => rw [List.set_cons_zero, pc_cons, pc_cons]; rfl
    | succ i =>
      rw [pc_cons, show (i + 1) * 2 = i * 2 + 1 + 1 by omega, List.set_cons_succ, List.set_cons_succ, List.set_cons_succ, List.set_cons_succ, ih (by simpa using h), List.set_cons_succ, pc_cons]
theorem pc_set2 {l : List KV} : ∀ {i : Nat} {p : KV} {s : ByteArray}, l[i]? = some p → (pc l).set (i * 2 + 1) (.string s) = pc (l.set i (p.1, s)) := by
  induction l with
  | nil => intro i p s h; simp at h
  | cons q l ih =>
    intro i p s h
    cases i with
    | zero => cases h; rw [List.set_cons_zero, pc_cons, pc_cons]; rfl
    | succ i =>
      rw [pc_cons, show (i + 1) * 2 + 1 = i * 2 + 1 + 1 + 1 by omega, List.set_cons_succ, List.set_cons_succ, ih (by simpa using h), List.set_cons_succ, pc_cons]
theorem pc_take (l : List KV) (q : Nat) : (pc l).take (q * 2) = pc (l.take q) := by
  induction l generalizing q with
  | nil => simp [pc]
  | cons p l ih =>
    cases q with
    | zero => simp [pc]
    | succ q => rw [pc_cons, show (q + 1) * 2 = q * 2 + 1 + 1 by omega, List.take_succ_cons, List.take_succ_cons, ih, List.take_succ_cons, pc_cons]
/-- A row of pairs, one's own. -/
def RowP (w : World) (v : Value) (l : List KV) : Prop := RowC 2 40 w v l.length (pc l)
theorem infoP : (Try.prog.info? 40).map (fun i => (i.zero, i.size, i.bytes)) = some (some (.agg #[.string ⟨#[]⟩, .string ⟨#[]⟩]), 2, 32) := by kernel_rfl
section
variable {w w' : World} {v : Value} {l ys : List KV}
theorem RowP.at (h : RowP w v l) {i : Nat} {p : KV} (hi : l[i]? = some p) : ∃ g c, v = .slice (some ⟨g, 0, none⟩) l.length c ∧ w.cell? ⟨g, i * 2, none⟩ = some (.string ⟨p.1.toArray⟩) ∧ w.cell? ⟨g, i * 2 + 1, none⟩ = some (.string p.2) ∧ ∀ j, w.frozen? ⟨g, j, none⟩ = false := by
  have hl := (List.getElem?_eq_some_iff.1 hi).1
  obtain ⟨g, c, rfl⟩ := RowC.has h (by omega)
  obtain ⟨h1, h2⟩ := pc_get hi
  exact ⟨g, c, rfl, RowC.at h h1, RowC.at h h2, RowC.frozen h⟩
theorem RowP.append (h : RowP w v l) {A : Option Addr} {c : Nat} (hsrc : SrcV w A (pc ys)) (h0 : 0 < ys.length) (hl : l.length + ys.length ≤ 4398046511104) :
    ∃ g c' w', (Builtin.append_ #[22, 22] 22 #[v, .slice A ys.length c]).run Try.prog w = .ok (.slice (some ⟨g, 0, none⟩) (l.length + ys.length) c') w' ∧ RowP w' (.slice (some ⟨g, 0, none⟩) (l.length + ys.length) c') (l ++ ys) ∧ w.grownBy w' v.ownBlock ∧ (v.ownBlock = some g ∨ w.heap.size ≤ g) := by
  obtain ⟨g, c', w', hr, h1, h2, h3⟩ := RowC.append (m := ys.length) h 22 22 Try.underlying22 infoP rfl (by decide) (c := c) hsrc (pc_one ys) (pc_len ys) h0 (by decide) (by omega)
  refine ⟨g, c', w', hr, ?_, h2, h3⟩
  unfold RowP
  rw [pc_app, List.length_append]
  exact h1
theorem RowP.cut (h : RowP w v l) {A : Option Addr} {c : Nat} (hv : v = .slice A l.length c) {q : Nat} (hq : q ≤ l.length) : RowP w (.slice A q c) (l.take q) := by
  have h9 := RowC.cut h hv hq
  rw [pc_take] at h9
  unfold RowP
  rw [List.length_take, Nat.min_eq_left hq]
  exact h9
theorem RowP.put {g c : Nat} (h : RowP w (.slice (some ⟨g, 0, none⟩) l.length c) l) {i : Nat} (hi : i < l.length) (p : KV) : RowP ((w.setCell ⟨g, i * 2, none⟩ (.string ⟨p.1.toArray⟩)).setCell ⟨g, i * 2 + 1, none⟩ (.string p.2)) (.slice (some ⟨g, 0, none⟩) l.length c) (l.set i p) := by
  have h9 := RowC.put (RowC.put h (i := i * 2) (u := .string ⟨p.1.toArray⟩) (by omega) rfl) (i := i * 2 + 1) (u := .string p.2) (by omega) rfl
  rw [pc_set hi] at h9
  unfold RowP
  rw [List.length_set]
  exact h9
theorem RowP.put2 {g c : Nat} (h : RowP w (.slice (some ⟨g, 0, none⟩) l.length c) l) {i : Nat} {p : KV} (hi : l[i]? = some p) (s : ByteArray) : RowP (w.setCell ⟨g, i * 2 + 1, none⟩ (.string s)) (.slice (some ⟨g, 0, none⟩) l.length c) (l.set i (p.1, s)) := by
  have hil := (List.getElem?_eq_some_iff.1 hi).1
  have h9 := RowC.put h (i := i * 2 + 1) (u := .string s) (by omega) rfl
  rw [pc_set2 hi] at h9
  unfold RowP
  rw [List.length_set]
  exact h9
/-- One pair, just made. -/
theorem src_pair {vb : Nat} {p : KV} (h : w.heap[vb]? = some (.cells #[.string ⟨p.1.toArray⟩, .string p.2] 40 (0, 0))) : SrcV w (some ⟨vb, 0, none⟩) (pc [p]) := fun _ => ⟨_, rfl, fun j u hj => by
  rw [pc_cons, pc_nil] at hj
  rw [add_lit0]
  rcases j with _ | _ | j
  · cases hj; exact (blk_cell h 0).trans rfl
  · cases hj; exact (blk_cell h 1).trans rfl
  · simp at hj⟩
end
end Go.Proofs.YtmomohljnmopfaaX
end
section
namespace Go.Proofs.YtmomohljnmopfaaX
open Go.RowKit Go.Lib Go.Proofs.YtmomohljnmopfaaW.PrintWords Go.Proofs.YtmomohljnmopfaaW.PrintLast Go.Proofs.YtmomohljnmopfaaW.PrintMore
set_option linter.unusedVariables false
set_option linter.unusedSimpArgs false
attribute [local go_sem high] eqlNil71 eqlNil72
/-- What is collected, till it is enough. -/
def collect (most : Int) (til : Nm) : List KV → List KV → List KV × Bool
  | o, [] => (o, true)
  | o, p :: r => if most ≤ (o.length : Int) ∨ (til ≠ [] ∧ ¬ p.1 < til) then (o, false) else collect most til (o ++ [p]) r
theorem collect_app {most : Int} {til : Nm} {b : List KV} : ∀ {a o : List KV}, collect most til o (a ++ b) = if (collect most til o a).2 = true then collect most til (collect most til o a).1 b else collect most til o a
  | [], o => rfl
  | p :: a, o => by
    rw [List.cons_append, collect, collect]
    split
    · rfl
    · exact collect_app
theorem collect_len {most : Int} {til : Nm} : ∀ {a o : List KV}, (collect most til o a).1.length ≤ o.length + a.length
  | [], o => Nat.le_refl _
  | p :: a, o => by
    rw [collect]
    split
    · exact Nat.le_add_right _ _
    · have := collect_len (most := most) (til := til) (a := a) (o := o ++ [p])
      rw [List.length_append, List.length_singleton] at this
      rw [List.length_cons]; omega
/-- The boxes of List's own variables, from base on. -/
structure Coll (base ob mb tob : Nat) (most : Int) (til : Nm) (w : World) (o : List KV) : Prop where
  out : ∃ v, w.heap[ob]? = some (.cells #[v] 22 (0, 0)) ∧ RowP w v o ∧ ∀ k ∈ v.ownBlock.toList, base ≤ k ∧ k ≠ ob ∧ k ≠ mb ∧ k ≠ tob
  mx : w.heap[mb]? = some (.cells #[.int .i64 most] 3 (0, 0))
  tx : w.heap[tob]? = some (.cells #[.string ⟨til.toArray⟩] 9 (0, 0))
  bo : base ≤ ob
  bm : base ≤ mb
  bt : base ≤ tob
  n1 : ob ≠ mb
  n2 : ob ≠ tob
theorem Coll.lt {base ob mb tob : Nat} {most : Int} {til : Nm} {w : World} {o : List KV} (h : Coll base ob mb tob most til w o) : base ≤ w.heap.size := by
  obtain ⟨v, ho, -⟩ := h.out
  exact Nat.le_of_lt (Nat.lt_of_le_of_lt h.bo (blk_lt ho))
theorem Coll.below {base ob mb tob : Nat} {most : Int} {til : Nm} {w w' : World} {o : List KV} (h : Coll base ob mb tob most til w o) (hb : Below w.heap.size w w') : Coll base ob mb tob most til w' o := by
  obtain ⟨v, ho, hr, hv⟩ := h.out
  exact ⟨⟨v, (hb.block _ (blk_lt ho)).trans ho, RowC.below hr hb, hv⟩, (hb.block _ (blk_lt h.mx)).trans h.mx, (hb.block _ (blk_lt h.tx)).trans h.tx, h.bo, h.bm, h.bt, h.n1, h.n2⟩
section
variable {ops : Array Oper} {rest : List Oper} {o : Oper} {a : Act} {Q : Exit → Act → World → Prop} {w : World} {v : Value} {l ys : List KV}
theorem wp_rowp_append (hgd : o.guard = none) (sl x : Operand) (ho : o.op = .call { callee := .builtin .append, args := #[sl, x], argTypes := #[22, 22] }) (hty : o.type = 22) (h : RowP w v l)
    {A : Option Addr} {c : Nat} (hsrc : SrcV w A (pc ys)) (h0 : 0 < ys.length) (hl : l.length + ys.length ≤ 4398046511104) (hs : a.eval sl = v) (hx : a.eval x = .slice A ys.length c)
    (hK : ∀ g c' w', RowP w' (.slice (some ⟨g, 0, none⟩) (l.length + ys.length) c') (l ++ ys) → w.grownBy w' v.ownBlock → (v.ownBlock = some g ∨ w.heap.size ≤ g) → wpList Try.prog ops Q rest (a.put o.dst (.slice (some ⟨g, 0, none⟩) (l.length + ys.length) c')) w') : wpList Try.prog ops Q (o :: rest) a w := by
  refine wpList_plain hgd fun K' hK2 => ?_
  obtain ⟨g, c', w', hr, h1, h2, h3⟩ := h.append (c := c) hsrc h0 hl
  unfold Oper.wp execOp
  simp only [ho, hty, resolve, invoke, builtin, Sem.run_bind, Sem.run_pure, Result.andThen_ok, List.map_toArray, List.map_cons, List.map_nil, hs, hx, hr]
  exact hK2 _ _ (hK g c' w' h1 h2 h3)
end
set_option maxRecDepth 100000 in
set_option maxHeartbeats 8000000 in
theorem want_calls {base ob mb tob : Nat} {most : Int} {til : Nm} {w : World} {o : List KV} (p : KV) (hC : Coll base ob mb tob most til w o) (hn : o.length ≤ 4294967296) :
    Calls Try.prog 32 #[.agg #[.string ⟨p.1.toArray⟩, .string p.2], .pointer (some ⟨ob, 0, none⟩), .pointer (some ⟨mb, 0, none⟩), .pointer (some ⟨tob, 0, none⟩)] w fun e w' => e = .returned (.bool (collect most til o [p]).2) ∧ Coll base ob mb tob most til w' (collect most til o [p]).1 ∧ Below base w w' := by
  have HC := Aside0.mk hC
  obtain ⟨⟨v, ho, hr, hv⟩, mx, tx, -⟩ := hC
  obtain ⟨A, c, rfl, hc, -⟩ := hr.shape
  have c0 : ∀ x, (w.alloc x).cell? ⟨ob, 0, none⟩ = some (.slice A o.length c) := fun x => (blk_cell (blk_alloc ho x) 0).trans rfl
  have c1 : ∀ x, (w.alloc x).cell? ⟨mb, 0, none⟩ = some (.int .i64 most) := fun x => (blk_cell (blk_alloc mx x) 0).trans rfl
  have c2 : ∀ x, (w.alloc x).cell? ⟨tob, 0, none⟩ = some (.string ⟨til.toArray⟩) := fun x => (blk_cell (blk_alloc tx x) 0).trans rfl
  by_cases h1 : most ≤ (o.length : Int)
  · have e1 : decide (most ≤ (o.length : Int)) = true := decide_eq_true h1
    have hcol : collect most til o [p] = (o, false) := by rw [collect, if_pos (.inl h1)]
    rw [hcol]
    clear ho hr hv mx tx h1
    go_enter Try.func32, Try.ntmps32
    go_wp2
    go_ret
    exact ⟨rfl, HC.out.below (below_alloc (Below.refl _ _) _), (below_alloc (Below.refl w.heap.size w) _).mono HC.out.lt⟩
  · have e1 : decide (most ≤ (o.length : Int)) = false := decide_eq_false h1
    have KEEP : collect most til o [p] = (o ++ [p], true) → ∀ g c' w1, RowP w1 (.slice (some ⟨g, 0, none⟩) (o.length + 1) c') (o ++ [p]) → ∀ W, Below w.heap.size w W → W.grownBy w1 (Value.slice A o.length c).ownBlock → ((Value.slice A o.length c).ownBlock = some g ∨ W.heap.size ≤ g) →
        Coll base ob mb tob most til (w1.setCell ⟨ob, 0, none⟩ (.slice (some ⟨g, 0, none⟩) (o.length + 1) c')) (collect most til o [p]).1 ∧ Below base w (w1.setCell ⟨ob, 0, none⟩ (.slice (some ⟨g, 0, none⟩) (o.length + 1) c')) := fun hcol g c' w1 hr1 W hW hg hgg => by
      have hz := hW.size
      have hbl := HC.out.lt
      have hgm : base ≤ g ∧ g ≠ ob ∧ g ≠ mb ∧ g ≠ tob := by
        rcases hgg with h9 | h9
        · exact hv g (by rw [h9]; simp)
        · have := blk_lt ho
          have := blk_lt mx
          have := blk_lt tx
          exact ⟨by omega, by omega, by omega, by omega⟩
      have nown : ∀ k, (k = ob ∨ k = mb ∨ k = tob) → some k ≠ (Value.slice A o.length c).ownBlock := fun k hk e => by
        have h9 := hv k (by rw [← e]; simp)
        rcases hk with rfl | rfl | rfl
        · exact h9.2.1 rfl
        · exact h9.2.2.1 rfl
        · exact h9.2.2.2 rfl
      have ho1 := blk_grown (blk_below ho hW) hg (nown ob (.inl rfl))
      have mx1 := blk_grown (blk_below mx hW) hg (nown mb (.inr (.inl rfl)))
      have tx1 := blk_grown (blk_below tx hW) hg (nown tob (.inr (.inr rfl)))
      rw [hcol]
      refine ⟨⟨⟨_, blk_put ho1 0 _ rfl, RowC.step hr1 (fun q hq => ?_), fun k hk => ?_⟩, ?_, ?_, HC.out.bo, HC.out.bm, HC.out.bt, HC.out.n1, HC.out.n2⟩, ?_⟩
      · simp [Value.ownBlock] at hq
        subst hq
        exact Below.heap_setCell _ _ _ _ (by show q ≠ ob; exact hgm.2.1)
      · simp [Value.ownBlock] at hk
        subst hk
        exact hgm
      · rw [Below.heap_setCell _ _ _ _ (by show mb ≠ ob; exact fun e => HC.out.n1 e.symm)]; exact mx1
      · rw [Below.heap_setCell _ _ _ _ (by show tob ≠ ob; exact fun e => HC.out.n2 e.symm)]; exact tx1
      · have b1 : Below base w w1 := (hW.mono hbl).grown hg (by omega) (fun k hk => (hv k (by rw [hk]; simp)).1)
        exact b1.setCell (p := ⟨ob, 0, none⟩) HC.out.bo _
    have HR := Aside0.mk (And.intro hr ho)
    have DO : collect most til o [p] = (o ++ [p], true) → (List.isEmpty til = true ∨ List.isEmpty til = false ∧ Op.bytesLess p.1 til = true) → Calls Try.prog 32 #[.agg #[.string ⟨p.1.toArray⟩, .string p.2], .pointer (some ⟨ob, 0, none⟩), .pointer (some ⟨mb, 0, none⟩), .pointer (some ⟨tob, 0, none⟩)] w fun e w' => e = .returned (.bool (collect most til o [p]).2) ∧ Coll base ob mb tob most til w' (collect most til o [p]).1 ∧ Below base w w' := fun hcol hor => by
      have KP := Aside0.mk (KEEP hcol)
      have HC2 := Aside0.mk hcol
      have NO : Aside0 (some ob ≠ (Value.slice A o.length c).ownBlock) := ⟨fun e => (hv ob (by rw [← e]; simp)).2.1 rfl⟩
      clear ho hr hv mx tx h1 KEEP hcol
      go_enter Try.func32, Try.ntmps32
      rcases hor with h2 | ⟨h2, e3⟩
      all_goals
        go_upto_region 3 with fail
        have hb0 : ∀ x, (w.alloc x).heap.size = w.heap.size + 1 := fun x => by simp
        have hown : ∀ x, some (w.heap.size + 1) ≠ (Value.slice A o.length c).ownBlock := fun x e => by have := RowC.lt HR.out.1 (w.heap.size + 1) (by rw [← e]; simp); omega
        go_wp2_with ((with_reducible refine gate_dst (N := 23) rfl ?_); refine wp_rowp_append (l := o) (ys := [p]) rfl (.tmp 20) (.tmp 22) rfl rfl (RowC.below HR.out.1 (below_alloc (below_alloc (Below.refl _ _) _) _)) (src_pair (vb := w.heap.size + 1) (blk_new2 _ _ _)) (by simp) (by simp; omega) rfl rfl ?_; rintro g c' w1 hr1 hg hgg; have KK := Aside0.mk (KP.out g c' w1 hr1 _ (below_alloc (below_alloc (Below.refl _ _) _) _) hg hgg); have ho1 := blk_grown (blk_alloc (blk_alloc HR.out.2 _) _) hg NO.out; have d0 := (blk_cell ho1 0).trans rfl; have df := blk_frozen ho1 0; clear hr1 hg hgg ho1)
        go_ret
        have K9 := KK.out
        rw [HC2.out] at K9 ⊢
        exact ⟨rfl, K9⟩
    by_cases h2 : til = []
    · exact DO (by rw [collect, if_neg (fun h9 => h9.elim h1 (fun h8 => h8.1 h2)), collect]) (.inl (by rw [h2]; rfl))
    · have e2 : List.isEmpty til = false := by cases til with
        | nil => exact absurd rfl h2
        | cons _ _ => rfl
      by_cases h3 : p.1 < til
      · exact DO (by rw [collect, if_neg (fun h9 => h9.elim h1 (fun h8 => h8.2 h3)), collect]) (.inr ⟨e2, by rw [nlt_eq]; exact decide_eq_true h3⟩)
      · have hcol : collect most til o [p] = (o, false) := by rw [collect, if_pos (.inr ⟨h2, h3⟩)]
        have e3 : Op.bytesLess p.1 til = false := by rw [nlt_eq]; exact decide_eq_false h3
        rw [hcol]
        clear ho hr hv mx tx h1 h3 KEEP DO h2
        go_enter Try.func32, Try.ntmps32
        go_wp2
        go_ret
        exact ⟨rfl, HC.out.below (below_alloc (Below.refl _ _) _), (below_alloc (Below.refl w.heap.size w) _).mono HC.out.lt⟩
end Go.Proofs.YtmomohljnmopfaaX
end
section
namespace Go.Proofs.YtmomohljnmopfaaX
open Go.RowKit Go.Lib Go.Proofs.YtmomohljnmopfaaW.PrintWords Go.Proofs.YtmomohljnmopfaaW.PrintLast Go.Proofs.YtmomohljnmopfaaW.PrintMore
set_option linter.unusedVariables false
set_option linter.unusedSimpArgs false
attribute [local go_sem high] eqlNil71 eqlNil72
/-- The pairs from a key on. -/
def fromF (x : Nm) (l : List KV) : List KV := l.filter (fun p => !decide (p.1 < x))
theorem fromF_app (x : Nm) (a b : List KV) : fromF x (a ++ b) = fromF x a ++ fromF x b := List.filter_append ..
theorem fromF_all {x : Nm} {l : List KV} (h : ∀ p ∈ l, ¬ p.1 < x) : fromF x l = l := List.filter_eq_self.2 (fun p hp => by simp [h p hp])
theorem fromF_none {x : Nm} {l : List KV} (h : ∀ p ∈ l, p.1 < x) : fromF x l = [] := List.filter_eq_nil_iff.2 (fun p hp => by simp [h p hp])
theorem fromF_drop {x : Nm} : ∀ {l : List KV}, Rises l → fromF x l = l.drop (rank (keysOf l) x)
  | [], _ => rfl
  | p :: l, h => by
    obtain ⟨h1, h2⟩ := rises_cons.1 h
    rw [keysOf_cons]
    by_cases hp : p.1 < x
    · rw [rank_cons_lt hp, List.drop_succ_cons, ← fromF_drop h2]
      unfold fromF
      rw [List.filter_cons, if_neg (by simp [hp])]
    · rw [rank_cons_ge hp, List.drop_zero]
      exact fromF_all (fun q hq => by
        rcases List.mem_cons.1 hq with rfl | hq
        · exact hp
        · exact fun h9 => hp (nm_trans (h1 q hq) h9))
abbrev wantV (ob mb tob : Nat) : Value := .func (.func 32) #[] #[.pointer (some ⟨ob, 0, none⟩), .pointer (some ⟨mb, 0, none⟩), .pointer (some ⟨tob, 0, none⟩)]
def EachSpec (m : Nat) (x : Nm) (h : Nat) : Prop := ∀ (base ob mb tob : Nat) (most : Int) (til : Nm) (w : World) (b : Nat) (t : T h) (S : List Nat) (lo hi : Option Nm) (o : List KV), NodeAt h w b t S → Ok m h t lo hi → sizeT h t ≤ m → (∀ k ∈ S, k < base) → Coll base ob mb tob most til w o → o.length + (flat h t).length ≤ 4294967296 →
  Calls Try.prog 31 #[.pointer (some ⟨b, 0, none⟩), .string ⟨x.toArray⟩, wantV ob mb tob] w fun e w' => e = .returned (.bool (collect most til o (fromF x (flat h t))).2) ∧ Coll base ob mb tob most til w' (collect most til o (fromF x (flat h t))).1 ∧ Below base w w'
theorem collect_one {most : Int} {til : Nm} {o r : List KV} {p : KV} : collect most til o (p :: r) = if (collect most til o [p]).2 = true then collect most til (collect most til o [p]).1 r else collect most til o [p] := collect_app (a := [p]) (b := r)
theorem below_frame {base : Nat} {w w' : World} {k : Nat} {ob : Obj} (h : Below base w w') (hb : w.heap[k]? = some ob) (hk : k < base) : w'.heap[k]? = some ob := (h.block k hk).trans hb
set_option maxRecDepth 100000 in
set_option maxHeartbeats 8000000 in
theorem each_leaf' {base ob mb tob : Nat} {most : Int} {til x : Nm} {w : World} {b : Nat} {l : List KV} {S : List Nat} {o : List KV} (hn : LeafAt w b l S) (hr : Rises l) (hs : l.length ≤ 1000) (hS : ∀ k ∈ S, k < base) (hC : Coll base ob mb tob most til w o) (hlen : o.length + l.length ≤ 4294967296) :
    Calls Try.prog 31 #[.pointer (some ⟨b, 0, none⟩), .string ⟨x.toArray⟩, wantV ob mb tob] w fun e w' => e = .returned (.bool (collect most til o (l.drop (rank (keysOf l) x))).2) ∧ Coll base ob mb tob most til w' (collect most til o (l.drop (rank (keysOf l) x))).1 ∧ Below base w w' := by
  have HN : Aside0 (∀ wr, Below base w wr → LeafAt wr b l S) := ⟨fun wr hb => leaf_step hn (fun k hk => hb.block k (hS k hk))⟩
  obtain ⟨kv, vv, h1, hk, hv, -, -⟩ := hn
  obtain ⟨Ak, ck, rfl, hck, -⟩ := hk.shape
  obtain ⟨Av, cv, rfl, hcv, -⟩ := hv.shape
  rw [encKs_len, keysOf_len] at h1 hk hck
  rw [encVs_len] at h1 hv hcv
  obtain ⟨c0, c1, c2⟩ := leaf_cells h1
  have cS := search_calls (x := x) (hk.src rfl) (c := ck) (by rw [keysOf_len]; exact hck) (by rw [keysOf_len]; omega) (keysOf_rises hr)
  rw [keysOf_len] at cS
  have hql : rank (keysOf l) x ≤ l.length := by rw [← keysOf_len l]; exact rank_le _ _
  obtain ⟨q, hq⟩ : ∃ q, rank (keysOf l) x = q := ⟨_, rfl⟩
  rw [hq] at cS hql ⊢
  generalize decide ((keysOf l)[q]? = some x) = fnd at cS
  have HR : Aside0 (∀ wr, Below base w wr → wr.heap[b]? = some (.cells #[.slice Ak l.length ck, .slice Av l.length cv, .slice none 0 0] 74 (0, 0)) ∧ RowV 9 wr (.slice Ak l.length ck) (encKs (keysOf l)) ∧ RowV 9 wr (.slice Av l.length cv) (encVs l)) := ⟨fun wr hb => by
    have hbl : b < base := hS b (by have := HN.out w (Below.refl _ _); obtain ⟨_, _, _, _, _, h9, _⟩ := this; rw [h9]; simp)
    obtain ⟨kv', vv', g1, g2, g3, -, -⟩ := HN.out wr hb
    have g4 := below_frame hb h1 hbl
    rw [g4] at g1
    simp only [Option.some.injEq, Obj.cells.injEq, Array.mk.injEq, List.cons.injEq] at g1
    obtain ⟨⟨e1, e2, -⟩, -⟩ := g1
    rw [← e1] at g2
    rw [← e2] at g3
    exact ⟨g4, g2, g3⟩⟩
  have HC := Aside0.mk hC
  have HL := Aside0.mk (And.intro hlen (And.intro hql hs))
  obtain ⟨n, hnn⟩ : ∃ n, l.length = n := ⟨_, rfl⟩
  have HNN := Aside0.mk hnn
  rw [hnn] at c0 c1 cS
  clear h1 hk hv hck hcv hr hq hC hlen hql hs hS hnn c1
  unfold wantV
  go_enter Try.func31, Try.ntmps31
  go_wp2_with (go_at_call 40; refine cS.mono ?_; rintro e w9 ⟨rfl, h9⟩; obtain rfl := h9.symm)
  clear cS c2
  go_loopg [7] (n - q) (fun kq v7 wr => ∃ (i : Nat) (o' : List KV), v7 = .int .i64 i ∧ Aside0 (i + kq = n) ∧ Aside0 (collect most til o (l.drop q) = collect most til o' (l.drop i)) ∧ Aside0 (Coll base ob mb tob most til wr o') ∧ Aside0 (Below base w wr) ∧ Aside0 (o'.length + (n - i) ≤ 4294967296))
  case atStart => exact ⟨q, o, rfl, ⟨by have := HL.out; have := HNN.out; omega⟩, ⟨rfl⟩, HC, ⟨Below.refl _ _⟩, ⟨by have := HL.out; have := HNN.out; omega⟩⟩
  case round =>
    clear c0
    obtain ⟨i, o', rfl, h1, h2, h3, h4, h5⟩ := hrel
    obtain ⟨hb, hkr, hvr⟩ := HR.out wr h4.out
    rw [HNN.out] at hb hkr hvr
    obtain ⟨c0, c1, -⟩ := leaf_cells hb
    by_cases hi : i < n
    · obtain ⟨p, hp⟩ : ∃ p, l[i]? = some p := ⟨_, List.getElem?_eq_getElem (by have := HNN.out; omega)⟩
      have e1 : decide ((i : Int) < (n : Int)) = true := decide_eq_true (by omega)
      have e1' : decide (i < n) = true := decide_eq_true hi
      have e2 : (i : Int) < (n : Int) := by omega
      obtain ⟨gx, c9, hv9, z0, -, -⟩ := hkr.at (i := i) (u := .string ⟨p.1.toArray⟩) (encKs_get (by rw [keysOf, List.getElem?_map, hp]; rfl))
      obtain ⟨gv, c8, hv8, z1, -, -⟩ := hvr.at (i := i) (u := .string p.2) (by rw [encVs, List.getElem?_map, hp]; rfl)
      simp only [Value.slice.injEq] at hv9 hv8
      obtain ⟨rfl, -, -⟩ := hv9
      obtain ⟨rfl, -, -⟩ := hv8
      have hdr : l.drop i = p :: l.drop (i + 1) := by
        have h9 := take_get hp
        have h8 : l.drop i = (l.take i ++ p :: l.drop (i + 1)).drop i := by rw [← h9]
        rw [h8, List.drop_left' (by rw [List.length_take]; have := HNN.out; omega)]
      have HP := Aside0.mk hdr
      have HG1 : Aside0 ((encKs (keysOf l))[i]? = some (.string ⟨p.1.toArray⟩)) := ⟨encKs_get (by rw [keysOf, List.getElem?_map, hp]; rfl)⟩
      have HG2 : Aside0 ((encVs l)[i]? = some (.string p.2)) := ⟨by rw [encVs, List.getElem?_map, hp]; rfl⟩
      have HI := Aside0.mk hi
      have H2 : Aside0 (collect most til o (l.drop q) = if (collect most til o' [p]).2 = true then collect most til (collect most til o' [p]).1 (l.drop (i + 1)) else collect most til o' [p]) := ⟨by rw [h2.out, hdr, collect_one]⟩
      have HW : Aside0 (∀ W, Below wr.heap.size wr W → Calls Try.prog 32 #[.agg #[.string ⟨p.1.toArray⟩, .string p.2], .pointer (some ⟨ob, 0, none⟩), .pointer (some ⟨mb, 0, none⟩), .pointer (some ⟨tob, 0, none⟩)] W fun e w' => e = .returned (.bool (collect most til o' [p]).2) ∧ Coll base ob mb tob most til w' (collect most til o' [p]).1 ∧ Below base wr w') := ⟨fun W hW => (want_calls p (h3.out.below hW) (by have := h5.out; omega)).mono (fun e w' ⟨g1, g2, g3⟩ => ⟨g1, g2, (hW.mono h3.out.lt).trans g3⟩)⟩
      have e6 : IntKind.i64.wrap ((i : Int) + 1) = ((i + 1 : Nat) : Int) := i64p (by have := HL.out; have := HNN.out; omega) rfl
      have hcl := collect_len (most := most) (til := til) (o := o') (a := [p])
      have HCL := Aside0.mk hcl
      clear hb hkr hvr hi h2 hdr hp hcl
      generalize hcc : collect most til o' [p] = cc at HW H2 HCL
      have HCC := Aside0.mk hcc
      clear hcc
      obtain ⟨o2, r⟩ := cc
      go_upto_region 5 with fail
      refine start_ (n := 18) (S := fun w' => w'.cell? ⟨b, 0, none⟩ = some (.slice (some ⟨gx, 0, none⟩) n ck) ∧ w'.cell? ⟨b, 1, none⟩ = some (.slice (some ⟨gv, 0, none⟩) n cv) ∧ w'.cell? ⟨gx, i, none⟩ = some (.string ⟨p.1.toArray⟩) ∧ w'.cell? ⟨gv, i, none⟩ = some (.string p.2)) (ds := []) (mK 18 0) (by kernel_rfl) rfl rfl ⟨c0, c1, z0, z1⟩ (fun hHeld => ?_)
      refine with_tabW (T := (true, [([], []), ([], []), ([1], [1]), ([2], [2]), ([3], [3]), ([], []), ([4, 5], [4, 5]), ([6], [6]), ([], []), ([8], [8]), ([9], [9]), ([10], [10]), ([], []), ([11, 12], [11, 12]), ([13], [13]), ([7, 14], [7, 14]), ([0, 15], [0, 15]), ([16], [16])])) (B := [0, 0, 2, 6, 14, 0, 62, 126, 0, 256, 768, 1792, 0, 7936, 16128, 32766, 65535, 131071]) (by kernel_rfl) (by kernel_rfl) (fun HT_ HW_ => ?_)
      refine pK 0 34 (mK 18 1) rfl rfl HT_ ?_
      refine pK 1 35 (mK 18 3) rfl rfl HT_ ?_
      refine pK 2 36 (mK 18 7) rfl rfl HT_ ?_
      refine pK 3 37 (mK 18 15) rfl rfl HT_ ?_
      refine pK 5 39 (mK 18 47) rfl rfl HT_ ?_
      refine pK 8 42 (mK 18 303) rfl rfl HT_ ?_
      refine pK 9 43 (mK 18 815) rfl rfl HT_ ?_
      refine pK 10 44 (mK 18 1839) rfl rfl HT_ ?_
      refine pK 12 46 (mK 18 5935) rfl rfl HT_ ?_
      refine take_ (i := 4) (N := some 38) (v := ?_) (a' := ?_) (mK 18 5951) rfl rfl (take_ofW HT_.out HW_.out (by kernel_rfl)) (fun _ _ _ h => h) (Or.inl ⟨by rfl, ?_⟩) hHeld ?_ ?_
      rotate_left; focus (rintro w' ⟨s0, s1, s2, s3⟩; go_simp; with_reducible rfl; done)
      rotate_left; focus (first | (simp only [Act.put, List.setIfInBounds_toArray, List.set_cons_zero, List.set_cons_succ, i64_w, i32_w]; rfl; done) | (rfl; done))
      refine pK 6 40 (mK 18 6015) rfl rfl HT_ ?_
      refine take_ (i := 7) (N := some 41) (v := ?_) (a' := ?_) (mK 18 6143) rfl rfl (take_ofW HT_.out HW_.out (by kernel_rfl)) (fun _ _ _ h => h) (Or.inl ⟨by rfl, ?_⟩) hHeld ?_ ?_
      rotate_left; focus (rintro w' ⟨s0, s1, s2, s3⟩; go_simp; with_reducible rfl; done)
      rotate_left; focus (first | (simp only [Act.put, List.setIfInBounds_toArray, List.set_cons_zero, List.set_cons_succ, i64_w, i32_w]; rfl; done) | (rfl; done))
      refine take_ (i := 11) (N := some 45) (v := ?_) (a' := ?_) (mK 18 8191) rfl rfl (take_ofW HT_.out HW_.out (by kernel_rfl)) (fun _ _ _ h => h) (Or.inl ⟨by rfl, ?_⟩) hHeld ?_ ?_
      rotate_left; focus (rintro w' ⟨s0, s1, s2, s3⟩; go_simp; with_reducible rfl; done)
      rotate_left; focus (first | (simp only [Act.put, List.setIfInBounds_toArray, List.set_cons_zero, List.set_cons_succ, i64_w, i32_w]; rfl; done) | (rfl; done))
      refine pK 13 47 (mK 18 16383) rfl rfl HT_ ?_
      refine take_ (i := 14) (N := some 48) (v := ?_) (a' := ?_) (mK 18 32767) rfl rfl (take_ofW HT_.out HW_.out (by kernel_rfl)) (fun _ _ _ h => h) (Or.inl ⟨by rfl, ?_⟩) hHeld ?_ ?_
      rotate_left; focus (rintro w' ⟨s0, s1, s2, s3⟩; go_simp; with_reducible rfl; done)
      rotate_left; focus (first | (simp only [Act.put, List.setIfInBounds_toArray, List.set_cons_zero, List.set_cons_succ, i64_w, i32_w]; rfl; done) | (rfl; done))
      refine pK 15 49 (mK 18 65535) rfl rfl HT_ ?_
      refine one_ (i := 16) (N := some 50) (mK 18 131071) rfl rfl (one_of HT_.out (by kernel_rfl)) (by decide) (fun K hK => ?_)
      focus
       go_simp
       refine (HW.out _ ?_).mono ?_
       exact (by first | exact below_drew1 (Below.refl _ _) | exact Below.refl _ _)
       rintro e w2 ⟨rfl, c2, b2⟩
       have C2 := Aside0.mk c2
       have B2 := Aside0.mk (h4.out.trans b2)
       clear c2 b2
       go_simp
       refine hK.out _ _ (by obtain ⟨g1, g2, g3⟩ := HR.out w2 B2.out; rw [HNN.out] at g1 g2 g3; exact ⟨(leaf_cells g1).1, (leaf_cells g1).2.1, (g2.cellAt HG1.out).1, (g3.cellAt HG2.out).1⟩) (fun hHeld => ?_)
       clear hK K
       refine pK 17 51 (mK 18 262143) rfl rfl HT_ ?_
       refine done_ (done_of HT_.out (by kernel_rfl)) ?_
       cases r
       case' true =>
         go_wp2
         go_roundg (gk - 1)
         case measure => have := h1.out; have := HI.out; omega
         case rel => exact ⟨i + 1, o2, rfl, ⟨by have := h1.out; have := HI.out; omega⟩, ⟨H2.out⟩, C2, B2, ⟨by have := h5.out; have h8 : o2.length ≤ o'.length + 1 := HCL.out; have := HI.out; omega⟩⟩
       case' false =>
         go_wp2
         go_ret
         rw [H2.out]
         exact ⟨rfl, C2.out, B2.out⟩
    · have e1 : decide ((i : Int) < (n : Int)) = false := decide_eq_false (by omega)
      have e1' : decide (i < n) = false := decide_eq_false hi
      have HI := Aside0.mk hi
      clear hb hkr hvr hi
      go_wp2
      go_ret
      have h9 := h2.out
      rw [show l.drop i = [] from List.drop_eq_nil_of_le (by have := HI.out; have := HNN.out; omega)] at h9
      rw [h9]
      exact ⟨rfl, h3.out, h4.out⟩
theorem each_leaf (m : Nat) (x : Nm) (hm : m ≤ 64) : EachSpec m x 0 := fun base ob mb tob most til w b t S lo hi o hn hk hs hS hC hlen => by
  have hr : Rises (flat 0 t) := hk.1
  have hs : (flat 0 t).length ≤ m := hs
  have h9 := each_leaf' (x := x) (l := flat 0 t) hn hr (Nat.le_trans hs (by omega)) hS hC hlen
  rw [← fromF_drop hr] at h9
  exact h9
end Go.Proofs.YtmomohljnmopfaaX
end
section
namespace Go.Proofs.YtmomohljnmopfaaX
open Go.RowKit Go.Lib Go.Proofs.YtmomohljnmopfaaW.PrintWords Go.Proofs.YtmomohljnmopfaaW.PrintLast Go.Proofs.YtmomohljnmopfaaW.PrintMore
set_option linter.unusedVariables false
set_option linter.unusedSimpArgs false
attribute [local go_sem high] eqlNil71 eqlNil72
theorem last_at {x : Nm} : ∀ {ks : List Nm} {lo : Option Nm}, 0 < atK ks x → ∃ a, lastO lo (ks.take (atK ks x)) = some a ∧ ¬ x < a
  | [], lo, h => absurd h (Nat.lt_irrefl 0)
  | k :: ks, lo, h => by
    unfold atK at h ⊢
    split at h
    · exact absurd h (Nat.lt_irrefl 0)
    · rename_i hk
      rw [if_neg hk, List.take_succ_cons]
      rcases Nat.eq_zero_or_pos (atK ks x) with h0 | h0
      · rw [h0]
        exact ⟨k, rfl, hk⟩
      · exact last_at (ks := ks) (lo := some k) h0
theorem from_at {m h : Nat} {ks : List Nm} {cs : List (T h)} {lo hi : Option Nm} {x : Nm} (hs : Seps lo ks hi) (hL : OkL (Kid m h) ks cs lo hi) : fromF x (flats cs) = fromF x (flats (cs.drop (atK ks x))) := by
  have hq := at_le ks x
  have e : flats cs = flats (cs.take (atK ks x)) ++ flats (cs.drop (atK ks x)) := by rw [← flats_app, List.take_append_drop]
  rw [e, fromF_app, fromF_none, List.nil_append]
  intro p hp
  rcases Nat.eq_zero_or_pos (atK ks x) with h0 | h0
  · rw [h0] at hp
    simp [flats] at hp
  · obtain ⟨c, hc, hA, -, -⟩ := okL_at hL hq
    have hs2 : Seps lo (ks.take (atK ks x)) (headO (ks.drop (atK ks x)) hi) := by
      have h9 := hs
      rw [← List.take_append_drop (atK ks x) ks] at h9
      exact (seps_app.1 h9).1
    have hW := (okA_flat (P := Kid m h) (fun c lo hi hc => ok_flat hc.1) hA hs2).2 p hp
    obtain ⟨a, ha, hxa⟩ := last_at (lo := lo) h0
    have h8 := hW.2 a ha
    exact nm_lt_le h8 hxa
set_option maxRecDepth 100000 in
set_option maxHeartbeats 8000000 in
theorem each_inner {m h : Nat} {x : Nm} (hm : m ≤ 64) (ih : EachSpec m x h) : EachSpec m x (h + 1) := fun base ob mb tob most til w b t S lo hi o hn hk hs hS hC hlen => by
  obtain ⟨ks, cs⟩ := t
  have hs : cs.length ≤ m := hs
  have hsep : Seps lo ks hi := hk.1
  have hL : OkL (Kid m h) ks cs lo hi := hk.2
  have hlen : o.length + (flats cs).length ≤ 4294967296 := hlen
  rw [show flat (h + 1) (ks, cs) = flats cs from rfl, from_at hsep hL]
  obtain ⟨kv, gv, cv, hb, hkr, hlen2, hcv, hkid⟩ := inner_kids (ks := ks) (cs := cs) hn
  obtain ⟨c0, c1, c2⟩ := inner_cells hb
  have hql := at_le ks x
  have cA := fun j => at_calls (w := w.drewN j) (x := x) c0 (hkr.step (fun _ _ => rfl)) (by omega) (seps_rises hsep)
  obtain ⟨q, hq⟩ : ∃ q, atK ks x = q := ⟨_, rfl⟩
  rw [hq] at cA hql ⊢
  have cB : ∀ j, Calls Try.prog 44 #[.pointer (some ⟨b, 0, none⟩), .string ⟨x.toArray⟩] (w.drewN j) fun e w' => e = .returned (.int .i64 q) ∧ ∃ m, w' = w.drewN m := fun j => (cA j).mono (fun e w' ⟨g1, g2⟩ => ⟨g1, j, g2⟩)
  obtain ⟨n, hnn⟩ : ∃ n, cs.length = n := ⟨_, rfl⟩
  rw [hnn] at hs c2 hlen2 hcv
  have hdl : (flats (cs.drop q)).length ≤ (flats cs).length := by
    have e : flats cs = flats (cs.take q) ++ flats (cs.drop q) := by rw [← flats_app, List.take_append_drop]
    rw [e, List.length_append]; omega
  have HKID : Aside0 (∀ wr, Below base w wr → ∀ j c, cs[j]? = some c → ∃ kb, wr.cell? ⟨gv, j, none⟩ = some (encP kb) ∧ ∀ o', Coll base ob mb tob most til wr o' → o'.length + (flat h c).length ≤ 4294967296 → Calls Try.prog 31 #[.pointer (some ⟨kb, 0, none⟩), .string ⟨x.toArray⟩, wantV ob mb tob] wr fun e w' => e = .returned (.bool (collect most til o' (fromF x (flat h c))).2) ∧ Coll base ob mb tob most til w' (collect most til o' (fromF x (flat h c))).1 ∧ Below base wr w') := ⟨fun wr hbw j c hc => by
    have hn' : NodeAt (h + 1) wr b (mkT ks cs) S := node_step hn (fun k hk => hbw.block k (hS k hk))
    obtain ⟨kv', gv', cv', hb', -, -, -, hkid'⟩ := inner_kids (ks := ks) (cs := cs) hn'
    rw [hbw.block b (hS b (node_own hn)), hb] at hb'
    have e9 : gv' = gv := by
      simp only [Option.some.injEq, Obj.cells.injEq, Array.mk.injEq, List.cons.injEq, Value.slice.injEq, Addr.mk.injEq] at hb'
      exact hb'.1.2.2.1.1.1.symm
    obtain ⟨kb, Sc, g1, g2, g3⟩ := hkid' j c hc
    rw [e9] at g1
    obtain ⟨lo9, hi9, hK⟩ := okL_all hL c (List.mem_of_getElem? hc)
    exact ⟨kb, g1, fun o' hC' hl' => ih base ob mb tob most til wr kb c Sc lo9 hi9 o' g2 hK.1 hK.2.2 (fun k hk => hS k (g3 k hk)) hC' hl'⟩⟩
  have HC := Aside0.mk hC
  have HL := Aside0.mk (And.intro hnn (And.intro (show q < n by omega) (And.intro (show n ≤ 64 by omega) (show o.length + (flats (cs.drop q)).length ≤ 4294967296 by omega))))
  have e1 : (q : Int) ≤ (n : Int) := by omega
  have e2 : (q : Int) ≤ (cv : Int) := by omega
  have e3 : ¬ (cv = q) := by omega
  have e4 : q ≤ n := by omega
  clear hn hk hs hL hlen hb hkr hlen2 hcv hkid c0 c1 hql cA hq hnn hdl hsep hS hC ih
  unfold wantV
  go_enter Try.func31, Try.ntmps31
  go_upto_region 8 with fail
  go_quiet ((go_at_call 44; exact cB _))
  obtain ⟨W, hW⟩ : ∃ W, w.drewN nq = W := ⟨_, rfl⟩
  have HCW : Aside0 (Coll base ob mb tob most til W o) := ⟨by rw [← hW]; exact HC.out.below (pw_below_drewN (Below.refl _ _) _)⟩
  have HBW : Aside0 (Below base w W) := ⟨by rw [← hW]; exact (pw_below_drewN (Below.refl w.heap.size w) _).mono HC.out.lt⟩
  rw [hW]
  clear cB hW c2
  go_wp2
  go_loopg [61] (n - q) (fun kq v61 wr => ∃ (i : Nat) (o' : List KV), v61 = .int .i64 i ∧ Aside0 (q + i + kq = n) ∧ Aside0 (collect most til o (fromF x (flats (cs.drop q))) = collect most til o' (fromF x (flats (cs.drop (q + i))))) ∧ Aside0 (Coll base ob mb tob most til wr o') ∧ Aside0 (Below base w wr) ∧ Aside0 (o'.length + (flats (cs.drop (q + i))).length ≤ 4294967296))
  case atStart => exact ⟨0, o, rfl, ⟨by have := HL.out; omega⟩, ⟨rfl⟩, HCW, HBW, ⟨HL.out.2.2.2⟩⟩
  case round =>
    obtain ⟨i, o', rfl, h1, h2, h3, h4, h5⟩ := hrel
    by_cases hi : q + i < n
    · obtain ⟨c, hc⟩ : ∃ c, cs[q + i]? = some c := ⟨_, List.getElem?_eq_getElem (by have := HL.out.1; omega)⟩
      obtain ⟨kb, hcell, hcall⟩ := HKID.out wr h4.out (q + i) c hc
      have hfl : flats (cs.drop (q + i)) = flat h c ++ flats (cs.drop (q + (i + 1))) := by
        have h9 := take_get hc
        have h8 : cs.drop (q + i) = (cs.take (q + i) ++ c :: cs.drop (q + i + 1)).drop (q + i) := by rw [← h9]
        rw [h8, List.drop_left' (by rw [List.length_take]; have := HL.out.1; omega), flats_cons]
        rfl
      have H2 : Aside0 (collect most til o (fromF x (flats (cs.drop q))) = if (collect most til o' (fromF x (flat h c))).2 = true then collect most til (collect most til o' (fromF x (flat h c))).1 (fromF x (flats (cs.drop (q + (i + 1))))) else collect most til o' (fromF x (flat h c))) := ⟨by rw [h2.out, hfl, fromF_app, collect_app]⟩
      have hl5 := h5.out
      rw [hfl, List.length_append] at hl5
      have HK := hcall o' h3.out (by omega)
      have hcl := collect_len (most := most) (til := til) (o := o') (a := fromF x (flat h c))
      have hfi : (fromF x (flat h c)).length ≤ (flat h c).length := List.length_filter_le _ _
      have H5 : Aside0 ((collect most til o' (fromF x (flat h c))).1.length + (flats (cs.drop (q + (i + 1)))).length ≤ 4294967296) := ⟨by omega⟩
      have f1 : decide ((i : Int) < ((n - q : Nat) : Int)) = true := decide_eq_true (by omega)
      have f2 : decide ((i : Int) < (n : Int) - (q : Int)) = true := decide_eq_true (by omega)
      have f3 : decide (i < n - q) = true := decide_eq_true (by omega)
      have f4 : (i : Int) < ((n - q : Nat) : Int) := by omega
      have f5 : (i : Int) < (n : Int) - (q : Int) := by omega
      have f6 : IntKind.i64.wrap ((i : Int) + 1) = ((i + 1 : Nat) : Int) := i64p (by have := HL.out.2.2.1; omega) rfl
      have HI := Aside0.mk hi
      unfold encP at hcell
      generalize collect most til o' (fromF x (flat h c)) = cc at HK H2 H5
      obtain ⟨o2, r⟩ := cc
      unfold wantV at HK
      clear h2 h3 h5 hi hc hcall hfl hl5 hcl hfi
      cases r
      case' true =>
        go_wp2_with (go_at_call 31; refine HK.mono ?_; rintro e w2 ⟨rfl, c2, b2⟩; have C2 := Aside0.mk c2; have B2 := Aside0.mk (h4.out.trans b2); clear c2 b2)
        go_roundg (gk - 1)
        case measure => have := h1.out; have := HI.out; omega
        case rel => exact ⟨i + 1, o2, rfl, ⟨by have := h1.out; have := HI.out; omega⟩, ⟨H2.out⟩, C2, B2, H5⟩
      case' false =>
        go_wp2_with (go_at_call 31; refine HK.mono ?_; rintro e w2 ⟨rfl, c2, b2⟩; have C2 := Aside0.mk c2; have B2 := Aside0.mk (h4.out.trans b2); clear c2 b2)
        go_ret
        rw [H2.out]
        exact ⟨rfl, C2.out, B2.out⟩
    · have f1 : decide ((i : Int) < ((n - q : Nat) : Int)) = false := decide_eq_false (by omega)
      have f2 : decide ((i : Int) < (n : Int) - (q : Int)) = false := decide_eq_false (by omega)
      have f3 : decide (i < n - q) = false := decide_eq_false (by omega)
      have HI := Aside0.mk hi
      clear hi
      go_wp2
      go_ret
      have h9 := h2.out
      rw [show cs.drop (q + i) = [] from List.drop_eq_nil_of_le (by have := HI.out; have := HL.out.1; omega)] at h9
      rw [h9]
      exact ⟨rfl, h3.out, h4.out⟩
theorem each_node (m : Nat) (x : Nm) (hm : m ≤ 64) : ∀ h, EachSpec m x h
  | 0 => each_leaf m x hm
  | h + 1 => each_inner hm (each_node m x hm h)
end Go.Proofs.YtmomohljnmopfaaX
end
section
namespace Go.Proofs.YtmomohljnmopfaaX
open Go.RowKit Go.Lib Go.Proofs.YtmomohljnmopfaaW.PrintWords Go.Proofs.YtmomohljnmopfaaW.PrintLast Go.Proofs.YtmomohljnmopfaaW.PrintMore
set_option linter.unusedVariables false
set_option linter.unusedSimpArgs false
attribute [local go_sem high] eqlNil71 eqlNil72
/-- What List tells. -/
def listF (frm til : Nm) (most : Int) (l : List KV) : List KV := (collect most til [] (fromF frm l)).1
theorem coll_start (w : World) (most : Int) (til : Nm) : Coll w.heap.size (w.heap.size + 1 + 1) (w.heap.size + 1) w.heap.size most til (((w.alloc (.cells #[.string ⟨til.toArray⟩] 9)).alloc (.cells #[.int .i64 most] 3)).alloc (.cells #[.slice none 0 0] 22)) [] := by
  have s1 : (w.alloc (.cells #[.string ⟨til.toArray⟩] 9)).heap.size = w.heap.size + 1 := by simp
  obtain ⟨W1, hW1⟩ : ∃ W1, w.alloc (.cells #[.string ⟨til.toArray⟩] 9) = W1 := ⟨_, rfl⟩
  have b1 : W1.heap[w.heap.size]? = some (.cells #[.string ⟨til.toArray⟩] 9 (0, 0)) := by rw [← hW1]; exact blk_new w _
  rw [hW1] at s1 ⊢
  have s2 : (W1.alloc (.cells #[.int .i64 most] 3)).heap.size = w.heap.size + 1 + 1 := by simp [s1]
  obtain ⟨W2, hW2⟩ : ∃ W2, W1.alloc (.cells #[.int .i64 most] 3) = W2 := ⟨_, rfl⟩
  have b2 : W2.heap[w.heap.size + 1]? = some (.cells #[.int .i64 most] 3 (0, 0)) := by rw [← hW2, ← s1]; exact blk_new W1 _
  have b12 : W2.heap[w.heap.size]? = some (.cells #[.string ⟨til.toArray⟩] 9 (0, 0)) := by rw [← hW2]; exact blk_alloc b1 _
  rw [hW2] at s2 ⊢
  have b3 := blk_new W2 (.cells #[.slice none 0 0] 22)
  rw [s2] at b3
  exact ⟨⟨_, b3, RowC.nil 2 40 _, fun k hk => by simp [Value.ownBlock] at hk⟩, blk_alloc b2 _, blk_alloc b12 _, by omega, by omega, Nat.le_refl _, by omega, by omega⟩
set_option maxRecDepth 100000 in
set_option maxHeartbeats 8000000 in
theorem listTree_calls {m : Nat} {w : World} {tb : Nat} {l : List KV} {S : List Nat} (frm til : Nm) (most : Int) (hm : m ≤ 64) (hl : l.length ≤ 4294967296) (hT : Tr m w tb l S) :
    Calls Try.prog 13 #[.pointer (some ⟨tb, 0, none⟩), .string ⟨frm.toArray⟩, .string ⟨til.toArray⟩, .int .i64 most] w fun e w' => ∃ v, e = .returned v ∧ RowP w' v (listF frm til most l) ∧ Below w.heap.size w w' ∧ ∀ k ∈ v.ownBlock.toList, w.heap.size ≤ k := by
  obtain ⟨h, t, ⟨root, S0, hb, hn, rfl, hts⟩, hR, rfl⟩ := hT
  obtain ⟨c0, c1, c2⟩ := tree_cells hb
  have BW : Below w.heap.size w (((w.alloc (.cells #[.string ⟨til.toArray⟩] 9)).alloc (.cells #[.int .i64 most] 3)).alloc (.cells #[.slice none 0 0] 22)) := below_alloc (below_alloc (below_alloc (Below.refl _ _) _) _) _
  have cE := each_node m frm hm h w.heap.size (w.heap.size + 1 + 1) (w.heap.size + 1) w.heap.size most til _ root t S0 none none [] (node_below hn BW) hR.1 hR.2.1 (fun k hk => node_lt hn k hk) (coll_start w most til) (by simpa using hl)
  have c2' := (blk_cell (blk_below hb BW) 2).trans rfl
  have HB := Aside0.mk BW
  obtain ⟨W, hW⟩ : ∃ W, ((w.alloc (.cells #[.string ⟨til.toArray⟩] 9)).alloc (.cells #[.int .i64 most] 3)).alloc (.cells #[.slice none 0 0] 22) = W := ⟨_, rfl⟩
  unfold wantV at cE
  clear hb hn hts hR c0 c1 c2 BW hW hl
  go_enter Try.func13, Try.ntmps13
  go_wp2_with (go_at_call 31; refine cE.mono ?_; rintro e w1 ⟨rfl, cc, bb⟩; have CC := Aside0.mk cc; have BB := Aside0.mk (HB.out.trans bb); obtain ⟨v, ho, hr, hv⟩ := cc.out; have HR := Aside0.mk (And.intro hr hv); have d0 := (blk_cell ho 0).trans rfl; clear cc bb ho hr hv)
  go_ret
  exact ⟨v, rfl, HR.out.1, BB.out, fun k hk => (HR.out.2 k hk).1⟩
theorem listF_one (frm : Nm) (l : List KV) : listF frm [] 1 l = (fromF frm l).take 1 := by
  unfold listF
  cases fromF frm l with
  | nil => rfl
  | cons p r =>
    rw [collect, if_neg (fun h9 => h9.elim (fun h8 => absurd h8 (by show ¬ (1 : Int) ≤ 0; omega)) (fun h8 => h8.1 rfl))]
    cases r with
    | nil => rfl
    | cons q r => rw [collect, if_pos (.inl (by show (1 : Int) ≤ 1; omega))]; rfl
theorem cur_cells {w : World} {cb : Nat} {a b : Value} (h : w.heap[cb]? = some (.cells #[a, b] 85 (0, 0))) : w.cell? ⟨cb, 0, none⟩ = some a ∧ w.cell? ⟨cb, 1, none⟩ = some b := ⟨(blk_cell h 0).trans rfl, (blk_cell h 1).trans rfl⟩
/-- What Next leaves. -/
def NextP (w : World) (cb tb : Nat) (frm : Nm) (l : List KV) (e : Ending) (w' : World) : Prop := match (fromF frm l).head? with
  | none => e = .returned (.tuple #[.string ⟨#[]⟩, .string ⟨#[]⟩, .bool false]) ∧ Below w.heap.size w w'
  | some p => e = .returned (.tuple #[.string ⟨p.1.toArray⟩, .string p.2, .bool true]) ∧ w'.heap[cb]? = some (.cells #[.pointer (some ⟨tb, 0, none⟩), .string ⟨(p.1 ++ [0]).toArray⟩] 85 (0, 0)) ∧ Fr [cb] w w'
set_option maxRecDepth 100000 in
set_option maxHeartbeats 8000000 in
theorem next_calls {m : Nat} {w : World} {tb cb : Nat} {frm : Nm} {l : List KV} {S : List Nat} (hm : m ≤ 64) (hl : l.length ≤ 4294967296) (hkb : ∀ p ∈ l, p.1.length ≤ 4294967296) (hT : Tr m w tb l S) (hc : w.heap[cb]? = some (.cells #[.pointer (some ⟨tb, 0, none⟩), .string ⟨frm.toArray⟩] 85 (0, 0))) :
    Calls Try.prog 15 #[.pointer (some ⟨cb, 0, none⟩)] w (NextP w cb tb frm l) := by
  have HL : Aside0 (∀ W, Below w.heap.size w W → Calls Try.prog 13 #[.pointer (some ⟨tb, 0, none⟩), .string ⟨frm.toArray⟩, .string ⟨#[]⟩, .int .i64 1] W fun e w' => ∃ v, e = .returned v ∧ RowP w' v ((fromF frm l).take 1) ∧ Below w.heap.size w w' ∧ ∀ k ∈ v.ownBlock.toList, w.heap.size ≤ k) := ⟨fun W hW => (listTree_calls frm [] 1 hm hl (tr_below hT hW)).mono (fun e w' ⟨v, h1, h2, h3, h4⟩ => ⟨v, h1, by rw [← listF_one]; exact h2, hW.trans (h3.mono hW.size), fun k hk => Nat.le_trans hW.size (h4 k hk)⟩)⟩
  obtain ⟨c0, c1⟩ := cur_cells hc
  have HC := Aside0.mk hc
  have HKB := Aside0.mk hkb
  clear hT hc hl hkb
  unfold NextP
  go_enter Try.func15, Try.ntmps15
  go_upto_region 1 with fail
  refine start_ (n := 10) (S := fun w' => w'.cell? ⟨cb, 0, none⟩ = some (.pointer (some ⟨tb, 0, none⟩)) ∧ w'.cell? ⟨cb, 1, none⟩ = some (.string ⟨frm.toArray⟩)) (ds := []) (mK 10 0) (by kernel_rfl) rfl rfl ⟨c0, c1⟩ (fun hHeld => ?_)
  refine with_tabW (T := (true, [([], []), ([0], [0]), ([1], [1]), ([2], [2]), ([], []), ([4], [4]), ([5], [5]), ([6], [6]), ([3, 7], [3, 7]), ([8, 8, 0, 1, 2, 3, 4, 5, 6, 7, 8], [8])])) (B := [0, 1, 3, 7, 0, 16, 48, 112, 255, 511]) (by kernel_rfl) (by kernel_rfl) (fun HT_ HW_ => ?_)
  refine pK 0 6 (mK 10 1) rfl rfl HT_ ?_
  refine pK 1 7 (mK 10 3) rfl rfl HT_ ?_
  refine pK 2 8 (mK 10 7) rfl rfl HT_ ?_
  refine pK 4 10 (mK 10 23) rfl rfl HT_ ?_
  refine pK 5 11 (mK 10 55) rfl rfl HT_ ?_
  refine pK 6 12 (mK 10 119) rfl rfl HT_ ?_
  refine take_ (i := 3) (N := some 9) (v := ?_) (a' := ?_) (mK 10 127) rfl rfl (take_ofW HT_.out HW_.out (by kernel_rfl)) (fun _ _ _ h => h) (Or.inl ⟨by rfl, ?_⟩) hHeld ?_ ?_
  rotate_left; focus (rintro w' ⟨s0, s1⟩; go_simp; with_reducible rfl; done)
  rotate_left; focus (first | (simp only [Act.put, List.setIfInBounds_toArray, List.set_cons_zero, List.set_cons_succ, i64_w, i32_w]; rfl; done) | (rfl; done))
  refine take_ (i := 7) (N := some 13) (v := ?_) (a' := ?_) (mK 10 255) rfl rfl (take_ofW HT_.out HW_.out (by kernel_rfl)) (fun _ _ _ h => h) (Or.inl ⟨by rfl, ?_⟩) hHeld ?_ ?_
  rotate_left; focus (rintro w' ⟨s0, s1⟩; go_simp; with_reducible rfl; done)
  rotate_left; focus (first | (simp only [Act.put, List.setIfInBounds_toArray, List.set_cons_zero, List.set_cons_succ, i64_w, i32_w]; rfl; done) | (rfl; done))
  refine one_ (i := 8) (N := some 14) (mK 10 511) rfl rfl (one_of HT_.out (by kernel_rfl)) (by decide) (fun K hK => ?_)
  focus
   go_simp
   refine (HL.out _ ?_).mono ?_
   exact (by first | exact below_drew1 (Below.refl _ _) | exact Below.refl _ _)
   rintro e w2 ⟨v, rfl, h1, h2, h3⟩
   have HV := Aside0.mk (And.intro h1 (And.intro h2 h3))
   clear h1 h2 h3
   go_simp
   refine hK.out _ _ (cur_cells (blk_below HC.out HV.out.2.1)) (fun hHeld => ?_)
   clear hK K
   refine pK 9 5 (mK 10 1023) rfl rfl HT_ ?_
   refine done_ (done_of HT_.out (by kernel_rfl)) ?_
   cases hL : fromF frm l with
   | nil =>
     rw [hL] at HV
     have hrow : RowC 2 40 w2 v 0 [] := HV.out.1
     obtain ⟨A, c, rfl, -, -⟩ := hrow.shape
     go_wp2
     go_ret3
     exact ⟨rfl, HV.out.2.1⟩
   | cons p r =>
     rw [hL] at HV
     have hrow : RowP w2 v [p] := HV.out.1
     obtain ⟨g, c, rfl, z0, z1, zf⟩ := RowP.at hrow (i := 0) (p := p) rfl
     have hg := HV.out.2.2 g (by simp [Value.ownBlock])
     have hcb := blk_lt HC.out
     have hne : cb ≠ g := by omega
     have hb2 := blk_below HC.out HV.out.2.1
     have d0 := (cur_cells hb2).1
     have d1 := (cur_cells hb2).2
     have df := blk_frozen hb2 1
     have hpm : p ∈ fromF frm l := by rw [hL]; simp
     have HP : Aside0 (p.1.length ≤ 4294967296) := ⟨HKB.out p (List.mem_filter.1 hpm).1⟩
     have FIN : Aside0 (∀ n, NextP w cb tb frm l (.returned (.tuple #[.string ⟨p.1.toArray⟩, .string p.2, .bool true])) ((w2.setCell ⟨cb, 1, none⟩ (.string ⟨(p.1 ++ [0]).toArray⟩)).drewN n)) := ⟨fun n => by
       unfold NextP
       rw [hL]
       refine ⟨rfl, blk_put hb2 1 _ rfl, ?_⟩
       exact (((Fr.of_below HV.out.2.1 [cb]).setCell (p := ⟨cb, 1, none⟩) (.inl (by simp)) _)).drewN n⟩
     unfold NextP at FIN
     have es : (⟨p.1.toArray⟩ : ByteArray) ++ (⟨#[0]⟩ : ByteArray) = ⟨(p.1 ++ [0]).toArray⟩ := by
       apply ByteArray.ext
       simp
     clear hb2 hrow hg hcb hpm
     have e20 : ([p] : List KV).length = 1 := rfl
     have e21 : ¬ (9223372036854775807 < p.1.length + 1) := by have := HP.out; omega
     have e22 : p.1.length + 1 ≤ 9223372036854775807 := by have := HP.out; omega
     have e23 : p.1.length ≤ 9223372036854775806 := by have := HP.out; omega
     go_upto_region 5 with fail
     go_quiet (fail)
     go_wp2
     go_ret3
     have F9 := FIN.out nq
     rw [hL] at F9
     exact F9
end Go.Proofs.YtmomohljnmopfaaX
end
