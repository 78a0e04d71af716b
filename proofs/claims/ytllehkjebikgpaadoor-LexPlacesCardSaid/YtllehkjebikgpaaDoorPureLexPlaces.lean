/- The plain law LexPlaces: tokens stand where they are told to stand; no conditions beyond those in each theorem's head. -/
import Derived.Test.YtllehkjebikgpaaDoorLXR
import Derived.Test.YtllehkjebikgpaaDoorPFLLexPlaces
namespace Go.Proofs.YtllehkjebikgpaaDoor.PS
open Go.RowKit Go.Proofs.YtllehkjebikgpaaDoorW.PrintWords Go.Proofs.YtllehkjebikgpaaDoorW.PrintLast Go.Proofs.YtllehkjebikgpaaDoorW.PrintMore Go.Proofs.YtllehkjebikgpaaDoorX Go.Proofs.YtllehkjebikgpaaDoorL Go.Proofs.YtllehkjebikgpaaDoor.PA
set_option linter.unusedVariables false
set_option linter.unusedSimpArgs false
/-- What a token's text is in the source. -/
def srcOf (t : S29) : List UInt8 := if t.f0 = 6 then 58 :: bl t.f2 else bl t.f2
/-- A token stands in a list that begins at a place, the next one at another. -/
def Stands (l : List UInt8) (i : Nat) (t : S29) (nx : Int) : Prop :=
  (i : Int) ≤ t.f3 ∧ t.f3 < nx ∧ nx ≤ (i : Int) + (l.length : Int) ∧ 2 ≤ t.f0 ∧ t.f0 ≤ 7 ∧ (t.f0 ≠ 2 → t.f0 ≠ 5 → ((srcOf t).length : Int) ≤ nx - t.f3 ∧ (l.drop (t.f3.toNat - i)).take (srcOf t).length = srcOf t)
theorem takeW (l : List UInt8) : (runL l) <+: l := List.takeWhile_prefix _
theorem prefix_take {a l : List UInt8} (h : a <+: l) : l.take a.length = a := by
  obtain ⟨t, rfl⟩ := h
  simp
theorem cls_colon : ∀ c : Fin 256, (clsI (c.val : Int) = 5 ↔ c.val = 58) := by decide +kernel
theorem tok_stands (c : UInt8) (r : List UInt8) (i : Nat) (nx : Int) (he : (tokL (c :: r)).2.2 = 0) (h1 : (i : Int) + ((tokL (c :: r)).2.1 : Int) ≤ nx) (h2 : nx ≤ (i : Int) + ((c :: r).length : Int)) : Stands (c :: r) i (mkT (tokL (c :: r)).1 i) nx := by
  have hz := tok_size c r he
  refine ⟨Int.le_refl _, by show (i : Int) < nx; omega, h2, ?_⟩
  have hn : (mkT (tokL (c :: r)).1 i).f3.toNat - i = 0 := by show (i : Int).toNat - i = 0; omega
  rw [hn, List.drop_zero]
  have hf3 : (mkT (tokL (c :: r)).1 i).f3 = (i : Int) := rfl
  rw [hf3]
  suffices h : 2 ≤ (tokL (c :: r)).1.1 ∧ (tokL (c :: r)).1.1 ≤ 7 ∧ ((tokL (c :: r)).1.1 ≠ 2 → (tokL (c :: r)).1.1 ≠ 5 → (srcOf (mkT (tokL (c :: r)).1 i)).length ≤ (tokL (c :: r)).2.1 ∧ srcOf (mkT (tokL (c :: r)).1 i) <+: (c :: r)) by
    refine ⟨h.1, h.2.1, fun a b => ?_⟩
    have := h.2.2 a b
    exact ⟨by omega, prefix_take this.2⟩
  unfold srcOf mkT
  dsimp only
  rw [bl_mk]
  rw [tokL] at he ⊢
  by_cases k2 : cls c = 2
  · rw [if_pos k2] at he ⊢
    split at he
    · next hn =>
      rw [if_pos hn]
      exact ⟨by show (2 : Int) ≤ 2; omega, by show (2 : Int) ≤ 7; omega, fun a => absurd rfl a⟩
    · exact absurd he (by decide)
  · rw [if_neg k2] at he ⊢
    by_cases k3 : cls c = 3 ∨ cls c = 4
    · rw [if_pos k3] at he ⊢
      split at he
      · next hn =>
        rw [if_pos hn]
        refine ⟨by show (2 : Int) ≤ 4; omega, by show (4 : Int) ≤ 7; omega, fun _ _ => ?_⟩
        rw [if_neg (by show ¬ (4 : Int) = 6; omega)]
        exact ⟨Nat.le_refl _, takeW _⟩
      · next hn =>
        rw [if_neg hn]
        split at he
        · next hm =>
          rw [if_pos hm]
          refine ⟨by show (2 : Int) ≤ 3; omega, by show (3 : Int) ≤ 7; omega, fun _ _ => ?_⟩
          rw [if_neg (by show ¬ (3 : Int) = 6; omega)]
          exact ⟨Nat.le_refl _, takeW _⟩
        · exact absurd he (by decide)
    · rw [if_neg k3] at he ⊢
      by_cases k5 : cls c = 5
      · have hc : c = 58 := by
          have := (cls_colon ⟨c.toNat, c.toNat_lt⟩).1 k5
          exact UInt8.toNat_inj.1 this
        rw [if_pos k5] at he ⊢
        split at he
        · next hn =>
          rw [if_pos hn]
          refine ⟨by show (2 : Int) ≤ 6; omega, by show (6 : Int) ≤ 7; omega, fun _ _ => ?_⟩
          rw [if_pos (by show (6 : Int) = 6; rfl)]
          refine ⟨by show (58 :: runL r).length ≤ (runL r).length + 1; simp, ?_⟩
          subst hc
          exact List.cons_prefix_cons.2 ⟨rfl, takeW r⟩
        · exact absurd he (by decide)
      · rw [if_neg k5] at he ⊢
        by_cases k6 : cls c = 6
        · rw [if_pos k6] at he ⊢
          split at he
          · next t n hn => exact ⟨by show (2 : Int) ≤ 5; omega, by show (5 : Int) ≤ 7; omega, fun _ b => absurd rfl b⟩
          · exact absurd he (by decide)
        · rw [if_neg k6] at he ⊢
          by_cases k7 : cls c = 7 ∨ cls c = 8
          · rw [if_pos k7]
            refine ⟨by show (2 : Int) ≤ 7; omega, by show (7 : Int) ≤ 7; omega, fun _ _ => ?_⟩
            rw [if_neg (by show ¬ (7 : Int) = 6; omega)]
            exact ⟨Nat.le_refl _, List.take_prefix _ _⟩
          · rw [if_neg k7] at he; exact absurd he (by decide)
theorem Stands.later {l : List UInt8} {i n : Nat} {t : S29} {nx : Int} (hn : n ≤ l.length) (h : Stands (l.drop n) (i + n) t nx) : Stands l i t nx := by
  obtain ⟨a, b, c, d, e, f⟩ := h
  rw [List.length_drop] at c
  refine ⟨by omega, b, by omega, d, e, fun x y => ?_⟩
  have := f x y
  refine ⟨this.1, ?_⟩
  have h2 := this.2
  rw [List.drop_drop, show n + (t.f3.toNat - (i + n)) = t.f3.toNat - i by omega] at h2
  exact h2
/-- What Scan tells of a source that it takes: the end, and each token ahead of it. -/
theorem run_stands {l : List UInt8} {i : Nat} {ts : List S29} {e : Option (Nat × Int)} (h : Run l i ts e) : e = none → ts.getLast? = some (endT (i + l.length)) ∧ ∀ (j : Nat) (hj : j + 1 < ts.length), Stands l i (ts[j]'(by omega)) (ts[j + 1]'hj).f3 := by
  induction h with
  | fin i => intro _; exact ⟨rfl, fun j hj => by simp at hj⟩
  | @blank c r i ts e h hr ih =>
    intro he
    obtain ⟨a, b⟩ := ih he
    refine ⟨by rw [a, List.length_cons]; congr 2; omega, fun j hj => Stands.later (n := 1) (by simp) (b j hj)⟩
  | @rem l i ts e h hr ih =>
    intro he
    obtain ⟨a, b⟩ := ih he
    have hle := remN_le l
    refine ⟨by rw [a, List.length_drop]; congr 2; omega, fun j hj => Stands.later hle (b j hj)⟩
  | bad h hm he => intro e; cases e
  | @tok c r i ts e h hm he hr ih =>
    intro hn
    obtain ⟨a, b⟩ := ih hn
    have hz := tok_size c r he
    have hne := run_ne hr hn
    have hat := run_at hr
    rw [List.length_drop, List.length_cons] at hat
    refine ⟨?_, fun j hj => ?_⟩
    · rw [List.getLast?_cons_of_ne_nil hne, a, List.length_drop, List.length_cons]; congr 2; omega
    · cases j with
      | zero =>
        have hj0 : 0 < ts.length := by simpa using hj
        have := hat _ (List.getElem_mem hj0)
        refine tok_stands c r i _ he ?_ ?_
        · show _ ≤ (ts[0]'hj0).f3; omega
        · show (ts[0]'hj0).f3 ≤ _; rw [List.length_cons]; omega
      | succ j =>
        have hj' : j + 1 < ts.length := by simpa using hj
        exact Stands.later (n := (tokL (c :: r)).2.1) (by rw [List.length_cons]; exact hz.2) (b j hj')
theorem rd_natP (xs : List S29) (i : Nat) (h : i < xs.length) : rd_T29 xs (i : Int) = xs[i] := by
  unfold rd_T29
  rw [Int.toNat_natCast, List.getD_eq_getElem?_getD, List.getElem?_eq_getElem h]; rfl
theorem run_countP {l : List UInt8} {i : Nat} {ts : List S29} {e : Option (Nat × Int)} (h : Run l i ts e) : ts.length ≤ l.length + 1 := by
  induction h with
  | fin i => simp
  | blank h hr ih => simp; omega
  | @rem l i ts e h hr ih => rw [List.length_drop] at ih; omega
  | bad h hm he => simp
  | @tok c r i ts e h hm he hr ih =>
    have hz := tok_size c r he
    rw [List.length_drop] at ih
    simp at ih ⊢; omega
theorem bl_mid (s : ByteArray) (a b : Nat) : bl (s.extract a b) = ((bl s).drop a).take (b - a) := by
  show (s.extract a b).data.toList = _
  rw [Lib.extract_data]; rfl
theorem places_loop (s : ByteArray) (hs : s.size ≤ 1000) (ts : List S29) (hl : ts.length ≤ 2000) (h : ∀ (j : Nat) (hj : j + 1 < ts.length), Stands (bl s) 0 (ts[j]'(by omega)) (ts[j + 1]'hj).f3) :
    ∀ (d i : Nat), ts.length ≤ i + d → i ≤ 4000 → ∀ k, 10 * d + 10 ≤ k → unisonlaw10_LexPlaces.l0 k s true ts (i : Int) = some true
  | d, i, hd, hi4, 0, hk => by omega
  | d, i, hd, hi4, k + 1, hk => by
    have hw := wn1 (n := i) (by omega)
    rw [unisonlaw10_LexPlaces.l0, hw]
    by_cases hi : i + 1 < ts.length
    · obtain ⟨d, rfl⟩ : ∃ e, d = e + 1 := ⟨d - 1, by omega⟩
      obtain ⟨k, rfl⟩ : ∃ e, k = e + 1 + 1 := ⟨k - 2, by omega⟩
      have ih := places_loop s hs ts hl h d (i + 1) (by omega) (by omega) k (by omega)
      obtain ⟨a, b, c, e, f, g⟩ := h i hi
      rw [bl_length] at c
      rw [if_pos (by omega), if_pos (by omega), if_pos (by omega), rd_natP ts i (by omega), rd_natP ts (i + 1) hi]
      generalize ht : ts[i]'(by omega) = t at a b e f g ⊢
      generalize hu : (ts[i + 1]'hi).f3 = nx at b c g ⊢
      have hto : ∃ n : Nat, nx = (n : Int) := ⟨nx.toNat, by omega⟩
      obtain ⟨n, rfl⟩ := hto
      have hat : ∃ m : Nat, t.f3 = (m : Int) := ⟨t.f3.toNat, by omega⟩
      obtain ⟨m, hm⟩ := hat
      rw [if_neg (by omega), if_pos (by omega), if_neg (by omega), if_neg (by omega), if_neg (by omega), decide_eq_false (by omega), unisonlaw10_LexPlaces.j2, if_neg (by decide)]
      simp only [hw, rd_natP ts (i + 1) hi, hu]
      have hsz : (bl (s.extract m n)).length = n - m := by rw [bl_mid, List.length_take, List.length_drop, bl_length]; omega
      rw [bl_length] at hsz
      have key : ∀ (x : ByteArray), bl x = srcOf t → t.f0 ≠ 2 → t.f0 ≠ 5 → ¬ ((s.extract m n).size : Int) < (x.size : Int) ∧ (x.size : Int) ≤ ((s.extract m n).size : Int) ∧ ((s.extract m n).extract 0 (x.size : Int).toNat).toList = x.toList := by
        intro x hx h2 h5
        obtain ⟨g1, g2⟩ := g h2 h5
        have hxs : x.size = (srcOf t).length := by rw [← bl_length, hx]
        rw [hm] at g1 g2
        refine ⟨by omega, by omega, ?_⟩
        rw [Int.toNat_natCast, toList_bl, toList_bl, bl_front, bl_mid, hx, hxs, List.take_take, Nat.min_eq_left (by omega)]
        rw [Int.toNat_natCast, Nat.sub_zero] at g2
        exact g2
      have hx1 : (m : Int).toNat = m := Int.toNat_natCast m
      have hx2 : (n : Int).toNat = n := Int.toNat_natCast n
      by_cases k6 : t.f0 = 6
      · have hps : t.f2.size + 1 ≤ 1002 := by
          have g1 := (g (by omega) (by omega)).1
          unfold srcOf at g1
          rw [if_pos k6, List.length_cons, bl_length] at g1
          omega
        rw [if_pos k6, if_pos (by omega), if_pos (by omega), if_pos (by omega), if_pos (by omega), if_pos (by omega), if_pos (by omega), unisonlaw10_LexPlaces.j3, if_neg (by omega), if_neg (by omega), hm, hx1, hx2]
        obtain ⟨q1, q2, q3⟩ := key ((⟨#[58]⟩ : ByteArray) ++ t.f2) (by
          unfold srcOf; rw [if_pos k6]
          show ((⟨#[58]⟩ : ByteArray) ++ t.f2).data.toList = _
          rw [ByteArray.data_append, Array.toList_append]; rfl) (by omega) (by omega)
        rw [if_neg q1, if_pos (by omega), if_pos q2, if_pos q3, hw]
        exact ih
      · rw [if_neg k6, if_pos (by omega), if_pos (by omega), if_pos (by omega), if_pos (by omega), if_pos (by omega), unisonlaw10_LexPlaces.j4, hm, hx1, hx2]
        by_cases k2 : t.f0 = 2
        · rw [if_pos k2, hw]; exact ih
        · rw [if_neg k2]
          by_cases k5 : t.f0 = 5
          · rw [if_pos k5, hw]; exact ih
          · obtain ⟨q1, q2, q3⟩ := key t.f2 (by unfold srcOf; rw [if_neg k6]) k2 k5
            rw [if_neg k5, if_neg q1, if_pos (by omega), if_pos q2, if_pos q3, hw]
            exact ih
    · rw [if_neg (by omega)]
end Go.Proofs.YtllehkjebikgpaaDoor.PS
namespace Go.Proofs.YtllehkjebikgpaaDoor.Pure
open Go.RowKit Go.Proofs.YtllehkjebikgpaaDoorW.PrintWords Go.Proofs.YtllehkjebikgpaaDoorW.PrintLast Go.Proofs.YtllehkjebikgpaaDoorW.PrintMore Go.Proofs.YtllehkjebikgpaaDoorX Go.Proofs.YtllehkjebikgpaaDoorL Go.Proofs.YtllehkjebikgpaaDoor.PA Go.Proofs.YtllehkjebikgpaaDoor.PS
theorem LexPlaces : ∀ (a0 : ByteArray), a0.size ≤ 140737488351232 → ∃ k, unisonlaw10_LexPlaces.f k a0 = some true := by
  intro s hs
  refine ⟨100000 + 1, ?_⟩
  unfold unisonlaw10_LexPlaces.f
  rw [awake_all (by omega), some_bind]
  by_cases h1 : s.size ≤ 1000
  · obtain ⟨ts, e, hR⟩ := scan_all s h1
    have hls := bl_length s
    have hc := run_countP hR
    cases e with
    | some p =>
      rw [scan_of hR h1 (by omega), some_bind]
      have := run_err hR p.1 p.2 rfl
      show (if p.2 = 0 then _ else if true = true then (if (0 : Int) = 0 then (if (p.1 : Int) ≥ 0 then some (decide ((p.1 : Int) ≤ (s.size : Int))) else none) else none) else none) = some true
      rw [if_neg this.2.2, if_pos rfl, if_pos rfl, if_pos (by omega), decide_eq_true (by omega)]
    | none =>
      obtain ⟨ha, hb⟩ := run_stands hR rfl
      have hne := run_ne hR rfl
      have hl1 : 1 ≤ ts.length := by cases ts with | nil => exact absurd rfl hne | cons _ _ => simp
      have hw : wrap64 ((ts.length : Int) - 1) = ((ts.length - 1 : Nat) : Int) := by rw [wrap64_of (by omega) (by omega)]; omega
      have hlast : ts[ts.length - 1]'(by omega) = endT s.size := by
        rw [List.getLast?_eq_getElem?, List.getElem?_eq_getElem (by omega)] at ha
        have := Option.some.inj ha
        rw [this]; congr 1; omega
      have hsc : lex_Scan.f (100000 + 1) s = some (ts, 0, 0) := scan_of hR h1 (by omega)
      rw [hsc, some_bind]
      dsimp only
      rw [if_pos rfl, if_neg (by omega), hw, if_pos (by omega), if_pos (by omega), rd_natP ts _ (by omega), hlast, unisonlaw10_LexPlaces.j0, if_neg (by simp [endT])]
      exact places_loop s h1 ts (by omega) hb ts.length 0 (by omega) (by omega) 100000 (by omega)
  · rw [scan_long h1, some_bind]
    show (if (2 : Int) = 0 then _ else if true = true then (if (0 : Int) = 0 then (if (0 : Int) ≥ 0 then some (decide ((0 : Int) ≤ (s.size : Int))) else none) else none) else none) = some true
    rw [if_neg (by decide), if_pos rfl, if_pos rfl, if_pos (by omega), decide_eq_true (by omega)]
end Go.Proofs.YtllehkjebikgpaaDoor.Pure
