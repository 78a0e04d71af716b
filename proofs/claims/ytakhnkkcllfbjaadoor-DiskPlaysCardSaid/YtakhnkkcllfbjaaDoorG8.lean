/- DiskCrashes: the plain laws; no conditions beyond those in each theorem's head. -/
import Derived.Test.YtakhnkkcllfbjaaDoorR4
import Derived.Test.YtakhnkkcllfbjaaDoorG2
import Derived.Test.YtakhnkkcllfbjaaDoorG6
import Derived.Test.YtakhnkkcllfbjaaDoorPAx14
namespace Go.Proofs.YtakhnkkcllfbjaaDoorX
open Go.RowKit Go.Proofs.YtakhnkkcllfbjaaDoorW.PrintWords Go.Proofs.YtakhnkkcllfbjaaDoorW.PrintLast Go.Proofs.YtakhnkkcllfbjaaDoorW.PrintMore
open Go.Proofs.YtakhnkkcllfbjaaDoor.PA (S37 k37 z37 rd_T37 at_T37 unisonlaw04_same.f unisonlaw04_same.l0 unisonlaw04_same.calls unisonlaw04_begins.f unisonlaw04_begins.calls)
set_option linter.unusedVariables false
set_option linter.unusedSimpArgs false
theorem ba_ne {s t : ByteArray} : (s.toList == t.toList) = decide (s = t) := by
  rw [Bool.eq_iff_iff, decide_eq_true_iff, beq_iff_eq, toList_is, toList_is]
  exact ⟨fun h => Go.WideShapes.bytes_inj h, fun h => by rw [h]⟩
instance : DecidableEq S37 := fun x y => by
  obtain ⟨x0, x1, x2⟩ := x
  obtain ⟨y0, y1, y2⟩ := y
  by_cases h : x0 = y0 ∧ x1 = y1 ∧ x2 = y2
  · obtain ⟨rfl, rfl, rfl⟩ := h; exact isTrue rfl
  · exact isFalse (fun e => h (by cases e; exact ⟨rfl, rfl, rfl⟩))
theorem file_ne (x y : S37) : ((!(x.f0.toList == y.f0.toList)) || ((!(x.f1.toList == y.f1.toList)) || (!(x.f2 == y.f2)))) = !decide (x = y) := by
  rw [ba_ne, ba_ne]
  obtain ⟨x0, x1, x2⟩ := x
  obtain ⟨y0, y1, y2⟩ := y
  simp only
  by_cases h1 : x0 = y0
  · by_cases h2 : x1 = y1
    · by_cases h3 : x2 = y2
      · subst h1; subst h2; subst h3; simp
      · simp [h1, h2, h3]
    · simp [h1, h2]
  · simp [h1]
theorem same_loop (l0 l1 : List S37) (hl : l0.length = l1.length) (hb : l0.length ≤ 140737488351232) : ∀ (m i : Nat), l0.length - i = m → i ≤ l0.length → ∃ k, unisonlaw04_same.l0 k l0 l1 i = some (decide (l0.drop i = l1.drop i)) := by
  intro m
  induction m with
  | zero =>
    intro i hm hi
    refine ⟨1, ?_⟩
    simp only [unisonlaw04_same.l0]
    rw [if_neg (by omega), List.drop_of_length_le (by omega : l0.length ≤ i), List.drop_of_length_le (by omega : l1.length ≤ i)]
    simp
  | succ m ih =>
    intro i hm hi
    have hi2 : i < l0.length := by omega
    have hi3 : i < l1.length := by omega
    obtain ⟨k, hk⟩ := ih (i + 1) (by omega) (by omega)
    have r0 : rd_T37 l0 (i : Int) = l0[i] := by
      show l0.getD (i : Int).toNat z37 = _
      rw [Int.toNat_natCast, List.getD_eq_getElem?_getD, List.getElem?_eq_getElem hi2]; rfl
    have r1 : rd_T37 l1 (i : Int) = l1[i] := by
      show l1.getD (i : Int).toNat z37 = _
      rw [Int.toNat_natCast, List.getD_eq_getElem?_getD, List.getElem?_eq_getElem hi3]; rfl
    refine ⟨k + 1, ?_⟩
    simp only [unisonlaw04_same.l0]
    rw [if_pos (by omega), if_pos (by omega), if_pos (by omega), r0, r1, file_ne, wnext (by omega), hk]
    rw [List.drop_eq_getElem_cons hi2, List.drop_eq_getElem_cons hi3]
    by_cases h : l0[i] = l1[i]
    · rw [decide_eq_true h, if_neg (by decide)]
      congr 1
      rw [Bool.eq_iff_iff, decide_eq_true_iff, decide_eq_true_iff, List.cons.injEq]
      exact ⟨fun e => ⟨h, e⟩, fun e => e.2⟩
    · rw [decide_eq_false h, if_pos (by decide), decide_eq_false (fun e => h (List.cons.inj e).1)]
theorem same_some (l0 l1 : List S37) (h0 : l0.length ≤ 140737488351232) : ∃ k, unisonlaw04_same.f k l0 l1 = some (decide (l0 = l1)) := by
  by_cases hl : l0.length = l1.length
  · obtain ⟨k, hk⟩ := same_loop l0 l1 hl h0 _ 0 rfl (Nat.zero_le _)
    refine ⟨k, ?_⟩
    unfold unisonlaw04_same.f
    rw [if_pos (by omega)]
    exact hk
  · refine ⟨0, ?_⟩
    unfold unisonlaw04_same.f
    rw [if_neg (by omega), decide_eq_false (fun e => hl (by rw [e]))]
theorem same37 {w : World} {v0 v1 : Value} {l0 l1 : List S37} (h0 : Row37 w v0 l0) (h1 : Row37 w v1 l1) (hb : l0.length ≤ 140737488351232) : Calls Tryd.prog 22 #[v0, v1] w fun e w' => e = .returned (.bool (decide (l0 = l1))) ∧ Below w.heap.size w w' := by
  obtain ⟨A0, c0, rfl, hc0, C0⟩ := h0.reads
  obtain ⟨A1, c1, rfl, hc1, C1⟩ := h1.reads
  obtain ⟨k, hk⟩ := same_some l0 l1 hb
  exact (unisonlaw04_same.calls k A0 c0 l0 A1 c1 l1 _ w C0 hc0 C1 hc1 hk).mono (fun e w' hh => ⟨hh.1, by first | exact hh.2 | (obtain ⟨n, rfl⟩ := hh.2; exact pw_below_drewN (Below.refl _ _) n)⟩)
theorem begins_some {s t : ByteArray} (h : t.size ≤ s.size) (he : s.extract 0 t.size = t) : unisonlaw04_begins.f s t = some true := by
  unfold unisonlaw04_begins.f
  rw [if_pos (by omega), if_pos (by omega), if_pos (by omega), Int.toNat_natCast, he]
  simp
theorem begins23 (s t : ByteArray) (h : t.size ≤ s.size) (he : s.extract 0 t.size = t) (W : World) : Calls Tryd.prog 23 #[.string s, .string t] W fun e w' => e = .returned (.bool true) ∧ ∃ n, w' = W.drewN n :=
  (unisonlaw04_begins.calls s t true W (begins_some h he)).mono (fun e w' hh => by
    obtain ⟨h1, n, h2⟩ := hh
    first | exact ⟨h1, n, h2⟩ | exact ⟨h1, n, h2.symm⟩)
theorem quiet2 {f : FuncId} {args : Array Value} {v : Value} (h : ∀ W, Calls Tryd.prog f args W fun e w' => e = .returned v ∧ ∃ n, w' = W.drewN n) (w : World) (a b : Nat) : Calls Tryd.prog f args (w.drewN (a + b)) fun e w'' => e = .returned v ∧ ∃ n, w'' = w.drewN (a + n) :=
  (h _).mono (fun e w' ⟨h1, n, h2⟩ => ⟨h1, b + n, by rw [h2, World.drewN_drewN, Nat.add_assoc]⟩)
theorem extract_take (s : ByteArray) {a b : Nat} (h : a ≤ b) : (s.extract 0 b).extract 0 a = s.extract 0 a := by
  apply Go.WideShapes.bytes_inj
  simp only [ByteArray.data_extract, Array.toList_extract, List.extract_eq_take_drop, List.drop_zero, Nat.sub_zero]
  rw [List.take_take, Nat.min_eq_left h]
theorem extract_size {s : ByteArray} {a : Nat} (h : a ≤ s.size) : (s.extract 0 a).size = a := by rw [ByteArray.size_extract]; omega
theorem extract_all (s : ByteArray) : s.extract 0 s.size = s := by
  apply Go.WideShapes.bytes_inj
  simp only [ByteArray.data_extract, Array.toList_extract, List.extract_eq_take_drop, List.drop_zero, Nat.sub_zero]
  exact List.take_of_length_le (by rw [Array.length_toList]; exact Nat.le_refl _)
/-- What a crash leaves of each file. -/
theorem crash_each : ∀ (L : List AF) (ks : List Int), (∀ f ∈ L, 0 ≤ f.safe ∧ f.safe ≤ f.data.size) → ∀ (i : Nat) (f : AF), L[i]? = some f → ∃ s m : Nat, f.safe = (s : Int) ∧ s ≤ m ∧ m ≤ f.data.size ∧ (crashL L ks)[i]? = some ⟨f.name, f.data.extract 0 m, m⟩
  | [], _, _, i, f, h => by simp at h
  | g :: r, ks, hs, i, f, h => by
    obtain ⟨g0, g1⟩ := hs g (by simp)
    have hr : ∀ f ∈ r, 0 ≤ f.safe ∧ f.safe ≤ f.data.size := fun f hf => hs f (List.mem_cons_of_mem _ hf)
    unfold crashL
    by_cases hlt : g.safe < (g.data.size : Int)
    · rw [if_pos hlt]
      cases i with
      | zero =>
        obtain rfl := Option.some.inj h
        obtain ⟨k0, k1⟩ := keepN_b ks (t := (g.data.size : Int) - g.safe) (by omega)
        refine ⟨g.safe.toNat, (g.safe + keepN ks ((g.data.size : Int) - g.safe)).toNat, by omega, by omega, by omega, ?_⟩
        rw [List.getElem?_cons_zero]
        unfold cutF
        congr 2
        omega
      | succ i => exact crash_each r ks.tail hr i f (by simpa using h)
    · rw [if_neg hlt]
      cases i with
      | zero =>
        obtain rfl := Option.some.inj h
        refine ⟨g.data.size, g.data.size, by omega, Nat.le_refl _, Nat.le_refl _, ?_⟩
        rw [List.getElem?_cons_zero, extract_all]
        rfl
      | succ i => exact crash_each r ks hr i f (by simpa using h)
theorem crash_safe_id : ∀ (L : List AF) (ks : List Int), (∀ f ∈ L, f.safe = f.data.size) → crashL L ks = L
  | [], _, _ => rfl
  | g :: r, ks, h => by
    unfold crashL
    rw [if_neg (by rw [h g (by simp)]; exact Int.lt_irrefl _), crash_safe_id r ks (fun f hf => h f (List.mem_cons_of_mem _ hf))]
    congr 1
    unfold safeF
    rw [← h g (by simp)]
/-- Twice is once. -/
theorem crash_twice {D : AD} (h : D.Ok) (ks : List Int) : ((D.crash ks).crash ks).L = (D.crash ks).L :=
  crash_safe_id _ ks (fun f hf => (crashL_safe h.safe ks f hf).2)
theorem Mine.did2 {B : Nat} {w0 w w' : World} {a : Nat} {S : List Nat} {D D' : AD} {m : Nat} {lay : Lay} (hS : S = a :: m :: ownL lay D.L) (h3 : Below B w0 w) (h4 : B ≤ w.heap.size) (h5 : ∀ k ∈ S, B ≤ k) (hd : Did w w' a m lay D D') : ∃ S', Mine B w0 w' a S' D' ∧ Fr S w w' ∧ ∀ k ∈ S', k ∈ S ∨ w.heap.size ≤ k := by
  subst hS
  obtain ⟨lay', k1, k2, k3⟩ := hd
  have hsub : ∀ k ∈ a :: m :: ownL lay' D'.L, k ∈ a :: m :: ownL lay D.L ∨ w.heap.size ≤ k := fun k hk => by
    simp only [List.mem_cons] at hk ⊢
    rcases hk with hk | hk | hk
    · exact .inl (.inl hk)
    · exact .inl (.inr (.inl hk))
    · rcases k3 k hk with h9 | h9
      · exact .inl (.inr (.inr h9))
      · exact .inr h9
  exact ⟨_, ⟨m, lay', k1, rfl, h3.trans (k2.below_base h5 h4), Nat.le_trans h4 k2.size, fun k hk => (hsub k hk).elim (h5 k) (Nat.le_trans h4)⟩, k2, hsub⟩
theorem M_crash2 {B : Nat} {w0 w : World} {a : Nat} {S : List Nat} {D : AD} (h : Mine B w0 w a S D) (A : Option Addr) (c : Nat) (ks : List Int) (hk : Keeps S w A ks) (hc : ks.length ≤ c) (hkl : ks.length ≤ 4611686018427387904) :
    Calls Tryd.prog 17 #[.pointer (some ⟨a, 0, none⟩), .slice A ks.length c] w fun e w' => e = .returned (.tuple #[]) ∧ ∃ S', Mine B w0 w' a S' (D.crash ks) ∧ Fr S w w' ∧ ∀ k ∈ S', k ∈ S ∨ w.heap.size ≤ k := by
  obtain ⟨m, lay, h1, h2, h3, h4, h5⟩ := h
  subst h2
  exact (Crash_calls h1 A c ks hk hc hkl).mono (fun e w' hh => ⟨hh.1, Mine.did2 rfl h3 h4 h5 hh.2⟩)
/-- The files told lie in a row of their own. -/
theorem M_files2 {B : Nat} {w0 w : World} {a : Nat} {S : List Nat} {D : AD} (h : Mine B w0 w a S D) : Calls Tryd.prog 13 #[.pointer (some ⟨a, 0, none⟩)] w fun e w' => ∃ v, e = .returned v ∧ Row37 w' v (filesT D.L) ∧ (∀ k ∈ v.ownBlock.toList, w.heap.size ≤ k) ∧ Mine B w0 w' a S D ∧ Below w.heap.size w w' :=
  (M_files h).mono (fun e w' ⟨v, h1, h2, h3, h4⟩ => ⟨v, h1, Kd.R_lower h2 (Nat.zero_le _), fun k hk => Kd.R_base h2 k (by simpa using hk), h3, h4⟩)
theorem Row37.below {w w' : World} {v : Value} {l : List S37} (h : Row37 w v l) (hb : Below w.heap.size w w') : Row37 w' v l := h.step (fun k hk => hb.block k (h.lt k hk))
theorem Row37.fr {w w' : World} {v : Value} {l : List S37} {S : List Nat} (h : Row37 w v l) (hf : Fr S w w') (hn : ∀ k ∈ v.ownBlock.toList, k ∉ S) : Row37 w' v l := h.step (fun k hk => hf.block k (h.lt k hk) (hn k hk))
end Go.Proofs.YtakhnkkcllfbjaaDoorX
