/- The plain law LexBlanks: blanks and remarks between tokens; no conditions beyond those in each theorem's head. -/
import Derived.Test.YtllehkjebikgpaaDoorLXC
import Derived.Test.YtllehkjebikgpaaDoorPFLLexBlanks
namespace Go.Proofs.YtllehkjebikgpaaDoor.PS
open Go.RowKit Go.Proofs.YtllehkjebikgpaaDoorW.PrintWords Go.Proofs.YtllehkjebikgpaaDoorW.PrintLast Go.Proofs.YtllehkjebikgpaaDoorW.PrintMore Go.Proofs.YtllehkjebikgpaaDoorX Go.Proofs.YtllehkjebikgpaaDoorL Go.Proofs.YtllehkjebikgpaaDoor.PA
set_option linter.unusedVariables false
set_option linter.unusedSimpArgs false
def putsB : List ByteArray := [(⟨#[32]⟩ : ByteArray), (⟨#[10]⟩ : ByteArray), (⟨#[9, 32]⟩ : ByteArray), (⟨#[32, 45, 45, 32, 120, 33, 10]⟩ : ByteArray), (⟨#[32, 45, 45, 10]⟩ : ByteArray)]
/-- What is put ahead of the token of a number. -/
def which (w : List Int) (n : Nat) : Nat := if n < w.length ∧ 0 ≤ rd w (n : Int) then (Int.tmod (rd w (n : Int)) 5).toNat else 0
theorem which_lt (w : List Int) (n : Nat) : which w n < 5 := by
  unfold which
  split
  · next h =>
    have := Int.tmod_lt_of_pos (rd w (n : Int)) (show (0 : Int) < 5 by decide)
    have := Int.tmod_nonneg 5 h.2
    omega
  · omega
def putOf (w : List Int) (n : Nat) : List UInt8 := bl (putsB.getD (which w n) ByteArray.empty)
theorem putOf_mem (w : List Int) (n : Nat) : putOf w n ∈ putsL := by
  unfold putOf
  have := which_lt w n
  generalize which w n = k at this
  have all : ∀ k : Fin 5, bl (putsB.getD k.val ByteArray.empty) ∈ putsL := by decide
  exact all ⟨k, this⟩
theorem rd_natB (xs : List S29) (i : Nat) (h : i < xs.length) : rd_T29 xs (i : Int) = xs[i] := by
  unfold rd_T29
  rw [Int.toNat_natCast, List.getD_eq_getElem?_getD, List.getElem?_eq_getElem h]; rfl
theorem likes_loop (ts us : List S29) (hl : ts.length ≤ 3000) (h : us.map st = ts.map st) : ∀ (d i : Nat), i + d = ts.length → ∀ k, d + 1 ≤ k → unisonlaw10_LexBlanks.l1 k true ts us (i : Int) = some true
  | d, i, hd, 0, hk => by omega
  | 0, i, hd, k + 1, hk => by rw [unisonlaw10_LexBlanks.l1, if_neg (by omega)]
  | d + 1, i, hd, k + 1, hk => by
    have ih := likes_loop ts us hl h d (i + 1) (by omega) k (by omega)
    have hw := wn1 (n := i) (by omega)
    have hlen : us.length = ts.length := by have := congrArg List.length h; simpa using this
    have hi : i < ts.length := by omega
    have hs : st (us[i]'(by omega)) = st ts[i] := by
      have := congrArg (fun l => l[i]?) h
      simp only [List.getElem?_map, List.getElem?_eq_getElem hi, List.getElem?_eq_getElem (show i < us.length by omega), Option.map_some] at this
      exact Option.some.inj this
    unfold st at hs
    simp only [Prod.mk.injEq] at hs
    rw [unisonlaw10_LexBlanks.l1, if_pos (by omega), if_pos (by omega), if_pos (by omega), rd_natB ts i hi, rd_natB us i (by omega)]
    unfold unisonlaw10_like.f
    rw [hs.1, hs.2.1, hs.2.2, if_pos rfl, if_pos rfl, some_bind, if_pos (by simp), hw]
    exact ih
theorem bl_mid' (s : ByteArray) (a b : Nat) : bl (s.extract a b) = ((bl s).drop a).take (b - a) := by
  show (s.extract a b).data.toList = _
  rw [Lib.extract_data]; rfl
theorem bl_app' (s t : ByteArray) : bl (s ++ t) = bl s ++ bl t := by
  show (s ++ t).data.toList = s.data.toList ++ t.data.toList
  rw [ByteArray.data_append, Array.toList_append]
theorem blanks_loop (F : Nat) (hF : 4000 ≤ F) (s : ByteArray) (w : List Int) (ts us : List S29) (O : ByteArray) (hs : s.size ≤ 1000) (hwl : w.length ≤ 140737488351232) (hl : ts.length ≤ 3000) (hO : Run (bl O) 0 us none) (hOs : O.size ≤ 1000) (hlike : us.map st = ts.map st)
    (hat : ∀ (j : Nat) (hj : j < ts.length), 0 ≤ ts[j].f3 ∧ ts[j].f3 ≤ (s.size : Int)) (hasc : ∀ (j : Nat) (hj : j + 1 < ts.length), (ts[j]'(by omega)).f3 ≤ (ts[j + 1]'hj).f3) :
    ∀ (d i : Nat) (out : ByteArray) (a : Nat), i + d = ts.length → (∀ (hi : i < ts.length), (a : Int) ≤ ts[i].f3) → a ≤ s.size → bl O = bl out ++ ins (putOf w) ((bl s).drop a) a (ts.drop i) i → ∀ k, F + ts.length + 3 * d + 10 ≤ k →
      unisonlaw10_LexBlanks.l0 k s w true ts putsB out (a : Int) (i : Int) = some true := by
  intro d
  induction d with
  | zero =>
    intro i out a hd ha has hbl k hk
    obtain ⟨k, rfl⟩ : ∃ j, k = j + 1 + 1 + 1 := ⟨k - 3, by omega⟩
    have hOl := bl_length O
    have hol := bl_length out
    have hout : out.size ≤ 1000 := by
      have := congrArg List.length hbl
      rw [List.length_append, hOl, hol] at this
      omega
    have hdrop : ts.drop i = [] := List.drop_of_length_le (by omega)
    rw [hdrop, ins] at hbl
    have hOo : out ++ s.extract a s.size = O := bl_inj (by rw [bl_app', bl_tail, hbl])
    have hsz : (s.extract a s.size).size ≤ 1000 := by rw [ByteArray.size_extract]; omega
    have hsc : lex_Scan.f (k + 1) O = some (us, 0, 0) := scan_of hO hOs (by omega)
    have hlen : us.length = ts.length := by have := congrArg List.length hlike; simpa using this
    rw [unisonlaw10_LexBlanks.l0, if_neg (by omega), unisonlaw10_LexBlanks.j2, if_neg (by decide), Int.toNat_natCast, if_pos (by omega), if_pos (by omega), if_pos (by omega), hOo, hsc, some_bind]
    dsimp only
    rw [if_pos rfl, hlen, unisonlaw10_LexBlanks.j3, if_neg (by simp)]
    exact likes_loop ts us hl hlike ts.length 0 (by omega) k (by omega)
  | succ d ih =>
    intro i out a hd ha has hbl k hk
    obtain ⟨k, rfl⟩ : ∃ j, k = j + 1 + 1 + 1 := ⟨k - 3, by omega⟩
    have hOl := bl_length O
    have hol := bl_length out
    have hout : out.size ≤ 1000 := by
      have := congrArg List.length hbl
      rw [List.length_append, hOl, hol] at this
      omega
    have hi : i < ts.length := by omega
    have h0 := hat i hi
    have h1 := ha hi
    have hi9 : i + 1 ≤ 9223372036854775807 := by omega
    obtain ⟨b, hb⟩ : ∃ b : Nat, ts[i].f3 = (b : Int) := ⟨ts[i].f3.toNat, by omega⟩
    rw [hb] at h0 h1
    have hdrop : ts.drop i = ts[i] :: ts.drop (i + 1) := List.drop_eq_getElem_cons hi
    have hins : ins (putOf w) ((bl s).drop a) a (ts.drop i) i = ((bl s).drop a).take (b - a) ++ (putOf w i ++ ins (putOf w) ((bl s).drop b) b (ts.drop (i + 1)) (i + 1)) := by
      rw [hdrop, ins, hb, Int.toNat_natCast, List.drop_drop, show a + (b - a) = b by omega]
    have next : ∀ p : ByteArray, bl p = putOf w i → unisonlaw10_LexBlanks.l0 (k + 1) s w true ts putsB ((out ++ s.extract a b) ++ p) (b : Int) ((i + 1 : Nat) : Int) = some true := fun p hp => by
      refine ih (i + 1) _ b (by omega) (fun hj => ?_) (by omega) ?_ (k + 1) (by omega)
      · have := hasc i hj
        rw [hb] at this
        exact this
      · rw [bl_app', bl_app', bl_mid', hp, hbl, hins]; simp only [List.append_assoc]
    have hez : (s.extract a b).size = b - a := by rw [ByteArray.size_extract]; omega
    have hez2 : (out ++ s.extract a b).size = out.size + (b - a) := by rw [ByteArray.size_append, hez]
    have hps : ∀ n : Nat, (rdOf ByteArray.empty putsB (n : Int)).size ≤ 10 := fun n => by
      unfold rdOf
      rw [Int.toNat_natCast]
      by_cases hn : n < 5
      · have all : ∀ k : Fin 5, (putsB.getD k.val ByteArray.empty).size ≤ 10 := by decide
        exact all ⟨n, hn⟩
      · rw [List.getD_eq_getElem?_getD, List.getElem?_eq_none (by show 5 ≤ n; omega)]; decide
    have ht1 : ((a : Int)).toNat = a := Int.toNat_natCast a
    have ht2 : ((b : Int)).toNat = b := Int.toNat_natCast b
    have f1 : (i : Int) < (ts.length : Int) := by omega
    have f2 : (0 : Int) ≤ (i : Int) := by omega
    have f3 : (b : Int) ≥ (a : Int) := h1
    have f4 : (b : Int) ≤ (s.size : Int) := h0.2
    have f5 : (0 : Int) ≤ (a : Int) := by omega
    have fr : rd_T29 ts (i : Int) = ts[i] := rd_natB ts i hi
    clear hins hdrop
    rw [unisonlaw10_LexBlanks.l0, if_pos f1, if_pos f2, fr, hb, if_pos f3, decide_eq_true f4, unisonlaw10_LexBlanks.j2, if_pos rfl]
    simp only [fr, hb, ht1, ht2]
    have hp5 : (putsB.length : Int) = 5 := rfl
    have zero : ∀ (hz : which w i = 0), (if 0 ≤ (a : Int) then (if (a : Int) ≤ (b : Int) then (if (b : Int) ≤ (s.size : Int) then (if out.size + (s.extract a b).size ≤ 9223372036854775807 then (if 0 < (putsB.length : Int) then (if (out ++ s.extract a b).size + (rdOf ByteArray.empty putsB 0).size ≤ 9223372036854775807 then unisonlaw10_LexBlanks.l0 (k + 1) s w true ts putsB ((out ++ s.extract a b) ++ rdOf ByteArray.empty putsB 0) (b : Int) (wrap64 ((i : Int) + 1)) else none) else none) else none) else none) else none) else none) = some true := fun hz => by
      have hp0 := hps 0
      rw [show ((0 : Nat) : Int) = 0 from rfl] at hp0
      rw [if_pos f5, if_pos h1, if_pos f4, if_pos (by omega), if_pos (by rw [hp5]; decide), if_pos (by omega), wn1 hi9]
      exact next _ (by unfold putOf; rw [hz]; rfl)
    by_cases hiw : i < w.length
    · rw [if_pos (by omega), if_pos (by omega)]
      by_cases hr0 : 0 ≤ rd w (i : Int)
      · have hx1 := Int.tmod_nonneg 5 hr0
        have hx2 := Int.tmod_lt_of_pos (rd w (i : Int)) (show (0 : Int) < 5 by decide)
        obtain ⟨x, hx⟩ : ∃ x : Nat, Int.tmod (rd w (i : Int)) 5 = (x : Int) := ⟨(Int.tmod (rd w (i : Int)) 5).toNat, by omega⟩
        have hwx : which w i = x := by unfold which; rw [if_pos ⟨hiw, hr0⟩, hx, Int.toNat_natCast]
        have hpx := hps x
        rw [if_pos hr0, if_neg (by rw [hp5]; decide), hp5, hx]
        rw [if_pos (by omega), if_pos (by omega), if_pos (by omega), if_pos (by omega), if_pos (by omega), if_pos (by omega), if_pos (by omega), if_pos (by omega), wn1 hi9]
        exact next _ (by unfold putOf rdOf; rw [hwx, Int.toNat_natCast])
      · have hz : which w i = 0 := by unfold which; rw [if_neg (by rintro ⟨_, h⟩; exact hr0 h)]
        rw [if_neg (show ¬ rd w (i : Int) ≥ 0 from hr0), if_pos (by omega)]
        exact zero hz
    · have hz : which w i = 0 := by unfold which; rw [if_neg (by rintro ⟨h, _⟩; exact hiw h)]
      rw [if_neg (by omega), if_pos (by omega), if_pos (by omega)]
      exact zero hz
theorem run_countB {l : List UInt8} {i : Nat} {ts : List S29} {e : Option (Nat × Int)} (h : Run l i ts e) : ts.length ≤ l.length + 1 := by
  induction h with
  | fin i => simp
  | blank h hr ih => simp; omega
  | @rem l i ts e h hr ih => rw [List.length_drop] at ih; omega
  | bad h hm he => simp
  | @tok c r i ts e h hm he hr ih =>
    have hz := tok_size c r he
    rw [List.length_drop] at ih
    simp at ih ⊢; omega
end Go.Proofs.YtllehkjebikgpaaDoor.PS
namespace Go.Proofs.YtllehkjebikgpaaDoor.Pure
open Go.RowKit Go.Proofs.YtllehkjebikgpaaDoorW.PrintWords Go.Proofs.YtllehkjebikgpaaDoorW.PrintLast Go.Proofs.YtllehkjebikgpaaDoorW.PrintMore Go.Proofs.YtllehkjebikgpaaDoorX Go.Proofs.YtllehkjebikgpaaDoorL Go.Proofs.YtllehkjebikgpaaDoor.PA Go.Proofs.YtllehkjebikgpaaDoor.PS
theorem LexBlanks : ∀ (a0 : ByteArray) (l1 : List Int), a0.size ≤ 140737488351232 → l1.length ≤ maxLen → l1.length * 8 ≤ 140737488351232 → (∀ x ∈ l1, (Lit.int .i64 x).wf = true) → ∃ k, unisonlaw10_LexBlanks.f k a0 l1 = some true := by
  intro s w hs _ hw8 _
  obtain ⟨K, hK⟩ : ∃ K : Nat, 20000 ≤ K := ⟨20000, Nat.le_refl _⟩
  refine ⟨K + 1, ?_⟩
  have early : ∀ (ts : List S29), unisonlaw10_LexBlanks.j0 (K + 1) s w true ts true = some true := fun ts => by rw [unisonlaw10_LexBlanks.j0, if_pos rfl]
  unfold unisonlaw10_LexBlanks.f
  rw [awake_all (by omega), some_bind]
  by_cases h1 : s.size ≤ 1000
  · obtain ⟨ts, e, hR⟩ := scan_all s h1
    have hls := PS.bl_length s
    have hc := run_countB hR
    cases e with
    | some p =>
    have := run_err hR p.1 p.2 rfl
    have hsc : lex_Scan.f (K + 1) s = some ([], (p.1 : Int), p.2) := scan_of hR h1 (by omega)
    rw [hsc, some_bind]
    dsimp only
    rw [if_neg this.2.2]; exact early _
    | none =>
    have hsc : lex_Scan.f (K + 1) s = some (ts, 0, 0) := scan_of hR h1 (by omega)
    rw [hsc, some_bind]
    dsimp only
    have hwr : wrap64 ((s.size : Int) + wrap64 (8 * (ts.length : Int))) = (s.size : Int) + 8 * (ts.length : Int) := by
      rw [wrap64_of (n := 8 * (ts.length : Int)) (by omega) (by omega), wrap64_of (by omega) (by omega)]
    rw [if_pos rfl, hwr]
    by_cases h8 : s.size + 8 * ts.length ≤ 1000
    · rw [decide_eq_false (by omega), unisonlaw10_LexBlanks.j0, if_neg (by decide)]
      have hq := putOf_mem w
      obtain ⟨us, hu, hst⟩ := blanks_run hq hR rfl 0 0
      have hil := ins_length hq ts (PS.bl s) 0 0
      have hat := run_at hR
      refine blanks_loop 4000 (Nat.le_refl _) s w ts us ⟨(ins (putOf w) (PS.bl s) 0 ts 0).toArray⟩ h1 (by omega) (by omega) (by rw [bl_mk]; exact hu) (by rw [size_mk']; omega) hst (fun j hj => ?_) (run_asc hR) ts.length 0 ⟨#[]⟩ 0 (by omega) (fun hi => ?_) (by omega) ?_ K (by omega)
      · have := hat _ (List.getElem_mem hj)
        omega
      · have := hat _ (List.getElem_mem hi)
        omega
      · rw [bl_mk]; rfl
    · rw [decide_eq_true (by omega)]; exact early _
  · rw [scan_long h1, some_bind]
    dsimp only
    rw [if_neg (by decide)]; exact early _
end Go.Proofs.YtllehkjebikgpaaDoor.Pure

