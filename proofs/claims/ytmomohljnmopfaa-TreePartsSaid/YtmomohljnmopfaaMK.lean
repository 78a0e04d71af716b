/- Several texts in one: WE; no conditions beyond those in each theorem's head. -/
import Derived.Test.YtmomohljnmopfaaME
section
namespace Go.Proofs.YtmomohljnmopfaaX
open Go.RowKit Go.Lib Go.Proofs.YtmomohljnmopfaaW.PrintWords Go.Proofs.YtmomohljnmopfaaW.PrintLast Go.Proofs.YtmomohljnmopfaaW.PrintMore
set_option linter.unusedVariables false
set_option linter.unusedSimpArgs false
theorem run_copy_k {P : Program} (w : World) (dT sT ty elem : TypeId) (b o dLen dCap : Nat) (a : Addr) (sLen sCap n k : Nat) (cs : List Value)
    (hu : P.underlying dT = some (.slice elem)) (hs : (P.info? elem).map (·.size) = some k) (hn : n = Nat.min sLen dLen) (hcn : cs.length = n * k)
    (hsrc : ∀ j v, cs[j]? = some v → w.cell? (a.add j) = some v) (hc : ∀ j, j < cs.length → (w.cell? ⟨b, o + j, none⟩).isSome = true) (hf : ∀ j, j < cs.length → w.frozen? ⟨b, o + j, none⟩ = false) (h1 : ∀ v ∈ cs, v.oneCell' = true) :
    (Builtin.copy_ #[dT, sT] ty #[.slice (some ⟨b, o, none⟩) dLen dCap, .slice (some a) sLen sCap]).run P w = .ok (goInt n) (w.setCells b o cs) := by
  have hl := run_loadCells_list (P := P) w a cs hsrc
  have hst := run_storeCells_cells (P := P) b o cs 0 w (by simpa using hc) (by simpa using hf) h1
  rw [hcn] at hl
  cases hq : P.info? elem with
  | none => simp [hq] at hs
  | some i =>
    have hi : i.size = k := by simpa [hq] using hs
    simp [Builtin.copy_, run_underlying hu, Builtin.lenOf, Builtin.firstCells, sizeOf, typeInfo, hq, hi, ← hn, hl, hst]
theorem run_copy_k0 {P : Program} (w : World) (dT sT ty elem : TypeId) (d a : Option Addr) (dLen dCap sLen sCap k : Nat) (hu : P.underlying dT = some (.slice elem)) (hs : (P.info? elem).map (·.size) = some k) (hn : Nat.min sLen dLen = 0) :
    (Builtin.copy_ #[dT, sT] ty #[.slice d dLen dCap, .slice a sLen sCap]).run P w = .ok (goInt 0) w := by
  cases hq : P.info? elem with
  | none => simp [hq] at hs
  | some i =>
    have hl : ∀ (x : Addr), (loadCells x 0).run P w = .ok #[] w := fun x => by simpa using run_loadCells_list (P := P) w x [] (by simp)
    cases d <;> cases a <;> simp [Builtin.copy_, run_underlying hu, Builtin.lenOf, Builtin.firstCells, sizeOf, typeInfo, hq, hn, storeCells, hl]
theorem info40 : (Try.prog.info? 40).map (·.size) = some 2 := by kernel_rfl
def zeroP : Array Value := #[.string ⟨#[]⟩, .string ⟨#[]⟩]
theorem madeP_size (n : Nat) : (madeCells zeroP (n * 2)).size = n * 2 := size_madeCells _ _
theorem run_make22 (w : World) (n : Nat) (hn : n ≤ 4294967296) : (Instr.makeSlice 22 (.int .i64 n) (.int .i64 n)).run Try.prog w = .ok (.slice (some ⟨w.heap.size, 0, none⟩) n n) (w.alloc (.cells (madeCells zeroP (n * 2)) 40)) := by
  obtain ⟨i0, hi, hz⟩ := Option.map_eq_some_iff.1 infoP
  simp only [Prod.mk.injEq] at hz
  obtain ⟨hz0, hz1, hz2⟩ := hz
  have hr := run_make (P := Try.prog) w 22 40 i0 _ Try.underlying22 hi hz0 .i64 .i64 (n : Int) (n : Int) (by omega) (by omega) (by rw [hz2]; omega) (by omega)
  simp only [Int.toNat_natCast] at hr
  rw [hz1] at hr
  exact hr
theorem pc_drop' (l : List KV) (q : Nat) : (pc l).drop (q * 2) = pc (l.drop q) := by
  induction l generalizing q with
  | nil => simp [pc]
  | cons p l ih =>
    cases q with
    | zero => simp
    | succ q => rw [pc_cons, show (q + 1) * 2 = q * 2 + 1 + 1 by omega, List.drop_succ_cons, List.drop_succ_cons, ih, List.drop_succ_cons]
theorem add_odd (ad : Addr) (i : Nat) : ad.add (i * 2 + 1) = ⟨(ad.add (i * 2)).block, (ad.add (i * 2)).off + 1, none⟩ := by
  cases i with
  | zero => simp [Addr.add]
  | succ i =>
    have h : ¬ (i + 1) * 2 = 0 := by omega
    simp only [Addr.add, if_neg h, if_neg (Nat.succ_ne_zero _), Nat.add_assoc]
theorem srcP_srcV {w : World} {A : Option Addr} {l : List KV} (h : SrcP w A l) : SrcV w A (pc l) := fun hne => by
  match l, h, hne with
  | [], _, hne => exact absurd rfl hne
  | p0 :: r, h, hne =>
    obtain ⟨ad, hA, -⟩ := h 0 p0 rfl
    refine ⟨ad, hA, fun j u hj => ?_⟩
    have hl : j < (p0 :: r).length * 2 := by have := (List.getElem?_eq_some_iff.1 hj).1; rw [pc_len] at this; exact this
    obtain ⟨p, hp⟩ : ∃ p, (p0 :: r)[j / 2]? = some p := ⟨_, List.getElem?_eq_getElem (by omega)⟩
    obtain ⟨ad', h1, h2, h3⟩ := h _ p hp
    rw [hA] at h1
    cases h1
    obtain ⟨g1, g2⟩ := pc_get hp
    rw [← add_odd] at h3
    rcases Nat.mod_two_eq_zero_or_one j with h0 | h0
    · have e : j / 2 * 2 = j := by omega
      rw [e] at g1 h2
      rw [g1] at hj
      cases hj
      exact h2
    · have e : j / 2 * 2 + 1 = j := by omega
      rw [e] at g2 h3
      rw [g2] at hj
      cases hj
      exact h3
theorem RowC.srcP {w : World} {l : List KV} {A : Option Addr} {n c : Nat} (h : RowP w (.slice A n c) l) : SrcP w A l := fun i p hi => by
  obtain ⟨g, c', hv, z0, z1, -⟩ := RowP.at h hi
  cases hv
  refine ⟨_, rfl, ?_, ?_⟩
  · rw [add_lit0]; exact z0
  · rw [add_lit0]; exact z1
def zKV : KV := ([], ⟨#[]⟩)
theorem made_pc : ∀ n : Nat, (madeCells zeroP (n * 2)).toList = pc (List.replicate n zKV)
  | 0 => by simp [madeCells, pc]
  | n + 1 => by
    have ih := made_pc n
    unfold madeCells at ih ⊢
    rw [Array.toList_map, Array.toList_range] at ih ⊢
    rw [show (n + 1) * 2 = n * 2 + 1 + 1 by omega, List.range_succ, List.range_succ, List.map_append, List.map_append, ih, List.replicate_succ', pc_app, List.append_assoc]
    have e0 : (n * 2) % 2 = 0 := by omega
    have e1 : (n * 2 + 1) % 2 = 1 := by omega
    have z2 : zeroP.size = 2 := rfl
    simp only [List.map_cons, List.map_nil, z2, e0, e1]
    rfl
theorem rowP_made (w : World) {n : Nat} (hn : n ≤ 4294967296) : RowP (w.alloc (.cells (madeCells zeroP (n * 2)) 40)) (.slice (some ⟨w.heap.size, 0, none⟩) n n) (List.replicate n zKV) := by
  refine .inr ⟨w.heap.size, n, _, ?_, blk_new w _, ?_, ?_, ?_, ?_, ?_, pc_one _⟩
  · rw [List.length_replicate]
  · rw [List.length_replicate]; exact Nat.le_refl _
  · rw [size_madeCells]; exact Nat.le_refl _
  · unfold maxLen; omega
  · rw [pc_len]
  · rw [made_pc, List.take_of_length_le (by rw [pc_len]; exact Nat.le_refl _)]
theorem copy_rowp {w : World} {g c cA : Nat} {L l : List KV} {A : Option Addr} (hr : RowP w (.slice (some ⟨g, 0, none⟩) L.length c) L) (hs : SrcP w A l) (hn : l.length ≤ L.length) :
    ∃ w', (Builtin.copy_ #[22, 22] 3 #[.slice (some ⟨g, 0, none⟩) L.length c, .slice A l.length cA]).run Try.prog w = .ok (.int .i64 l.length) w' ∧ RowP w' (.slice (some ⟨g, 0, none⟩) L.length c) (l ++ L.drop l.length) ∧ w.grownBy w' (some g) := by
  match l, hs, hn with
  | [], hs, hn =>
    refine ⟨w, run_copy_k0 w 22 22 3 40 _ _ _ _ _ _ 2 Try.underlying22 info40 (Nat.min_eq_left (Nat.zero_le _)), by simpa using hr, ⟨rfl, rfl, rfl, Nat.le_refl _, fun _ _ _ => rfl⟩⟩
  | p0 :: r, hs, hn =>
    obtain ⟨ad, rfl, hsrc⟩ := srcP_srcV hs (by rw [pc_cons]; simp)
    generalize p0 :: r = l at *
    rcases hr with ⟨h0, -⟩ | ⟨g', cap, cur, h0, hg, h1, h2, h3, h4, h5, h6⟩
    · cases h0
    · cases h0
      have hcl : L.length * 2 ≤ cur.size := by
        have : (cur.toList.take (L.length * 2)).length = (pc L).length := by rw [h5]
        rw [List.length_take, pc_len, Array.length_toList] at this
        omega
      have hfit : 0 + (pc l).length ≤ cur.size := by rw [pc_len]; omega
      obtain ⟨cur', k1, k2, k3⟩ := setCells_row (pc l) 0 w cur hg hfit
      obtain ⟨s1, s2, s3, s4⟩ := setCells_same g (pc l) 0 w
      refine ⟨w.setCells g 0 (pc l), run_copy_k w 22 22 3 40 g 0 _ _ ad _ _ l.length 2 (pc l) Try.underlying22 info40 (Nat.min_eq_left hn).symm (pc_len l) hsrc (fun j hj => ?_) (fun j hj => blk_frozen hg _) (pc_one l), ?_, ⟨s1, s2, s3, by rw [s4]; exact Nat.le_refl _, fun k hk hne => setCells_far (pc l) 0 k (fun e9 => hne (by rw [e9]))⟩⟩
      · rw [pc_len] at hj
        rw [cell_of_row w g (0 + j) cur 40 (0, 0) hg, Array.getElem?_eq_getElem (by omega)]
        rfl
      · have hlen : (l ++ L.drop l.length).length = L.length := by rw [List.length_append, List.length_drop]; omega
        refine .inr ⟨g, c, cur', by rw [hlen], k1, by rw [hlen]; exact h1, by rw [k2]; exact h2, h3, by rw [pc_len], ?_, pc_one _⟩
        rw [hlen, k3, List.take_zero, List.nil_append, Nat.zero_add, pc_len, pc_app, List.take_append, pc_len, List.take_of_length_le (by rw [pc_len]; omega), List.take_drop, Nat.add_sub_cancel' (by omega), h5, pc_drop']
end Go.Proofs.YtmomohljnmopfaaX
end
