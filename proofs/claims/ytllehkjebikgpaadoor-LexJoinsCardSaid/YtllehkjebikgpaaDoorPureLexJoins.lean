/- The plain law LexJoins: two sources, a line's end between them; no conditions beyond those in each theorem's head. -/
import Derived.Test.YtllehkjebikgpaaDoorLXR
import Derived.Test.YtllehkjebikgpaaDoorPFLLexJoins
namespace Go.Proofs.YtllehkjebikgpaaDoor.PS
open Go.RowKit Go.Proofs.YtllehkjebikgpaaDoorW.PrintWords Go.Proofs.YtllehkjebikgpaaDoorW.PrintLast Go.Proofs.YtllehkjebikgpaaDoorW.PrintMore Go.Proofs.YtllehkjebikgpaaDoorX Go.Proofs.YtllehkjebikgpaaDoorL Go.Proofs.YtllehkjebikgpaaDoor.PA
set_option linter.unusedVariables false
set_option linter.unusedSimpArgs false
theorem rd_nat (xs : List S29) (i : Nat) (h : i < xs.length) : rd_T29 xs (i : Int) = xs[i] := by
  unfold rd_T29
  rw [Int.toNat_natCast, List.getD_eq_getElem?_getD, List.getElem?_eq_getElem h]; rfl
theorem joins_loop (s : ByteArray) (a b : List S29) (hs : s.size ≤ 1000) (hab : a.length ≤ 3000) (hbb : b.length ≤ 3000) (ha : a ≠ []) (hb : ∀ t ∈ b, 0 ≤ t.f3 ∧ t.f3 ≤ 1000) :
    ∀ (d i : Nat), i + d = (a.dropLast ++ b.map (sh (s.size + 1))).length → ∀ k, d + 1 ≤ k → unisonlaw10_LexJoins.l0 k s true a b (a.dropLast ++ b.map (sh (s.size + 1))) (i : Int) = some true
  | d, i, hd, 0, hk => by omega
  | 0, i, hd, k + 1, hk => by
    rw [unisonlaw10_LexJoins.l0, if_neg (by omega)]
  | d + 1, i, hd, k + 1, hk => by
    have ih := joins_loop s a b hs hab hbb ha hb d (i + 1) (by omega) k (by omega)
    have hlen : (a.dropLast ++ b.map (sh (s.size + 1))).length = a.length - 1 + b.length := by rw [List.length_append, List.length_dropLast, List.length_map]
    have ha1 : 1 ≤ a.length := by cases a with | nil => exact absurd rfl ha | cons _ _ => simp
    have hw := wn1 (n := i) (by omega)
    have hi : i < (a.dropLast ++ b.map (sh (s.size + 1))).length := by omega
    have hwl : wrap64 ((a.length : Int) - 1) = (a.length : Int) - 1 := wrap64_of (by omega) (by omega)
    rw [unisonlaw10_LexJoins.l0, if_pos (by omega), hwl, rd_nat _ i hi]
    by_cases h : i < a.length - 1
    · have hd : i < a.dropLast.length := by rw [List.length_dropLast]; exact h
      rw [if_pos (by omega), if_pos (by omega), if_pos (by omega), rd_nat a i (by omega), List.getElem_append_left hd, List.getElem_dropLast, if_neg (by simp), hw]
      exact ih
    · have hj : i - (a.length - 1) < b.length := by omega
      have hw1 : wrap64 ((i : Int) - (a.length : Int)) = (i : Int) - (a.length : Int) := wrap64_of (by omega) (by omega)
      have hw2 : wrap64 ((i : Int) - (a.length : Int) + 1) = ((i - (a.length - 1) : Nat) : Int) := by rw [wrap64_of (by omega) (by omega)]; omega
      have hm := hb _ (List.getElem_mem hj)
      have hx : (b[i - (a.length - 1)]'hj).f3 + (s.size : Int) + 1 = (b[i - (a.length - 1)]'hj).f3 + ((s.size + 1 : Nat) : Int) := by omega
      have hw3 : wrap64 (wrap64 ((b[i - (a.length - 1)]'hj).f3 + (s.size : Int)) + 1) = (b[i - (a.length - 1)]'hj).f3 + ((s.size + 1 : Nat) : Int) := by
        rw [wrap64_of (n := (b[i - (a.length - 1)]'hj).f3 + (s.size : Int)) (by omega) (by omega), wrap64_of (by omega) (by omega), hx]
      have hr : (a.dropLast ++ b.map (sh (s.size + 1)))[i] = sh (s.size + 1) (b[i - (a.length - 1)]'hj) := by
        rw [List.getElem_append_right (by rw [List.length_dropLast]; omega), List.getElem_map]
        congr 2
        rw [List.length_dropLast]
      rw [if_neg (by omega), hw1, hw2, if_pos (by omega), if_pos (by omega), if_pos (by omega), rd_nat b _ hj, hr, hw3, if_neg (by simp [sh]), hw]
      exact ih
theorem bl_app (s t : ByteArray) : bl (s ++ t) = bl s ++ bl t := by
  show (s ++ t).data.toList = s.data.toList ++ t.data.toList
  rw [ByteArray.data_append, Array.toList_append]
theorem run_count {l : List UInt8} {i : Nat} {ts : List S29} {e : Option (Nat × Int)} (h : Run l i ts e) : ts.length ≤ l.length + 1 := by
  induction h with
  | fin i => simp
  | blank h hr ih => simp; omega
  | @rem l i ts e h hr ih => rw [List.length_drop] at ih; omega
  | bad h hm he => simp
  | @tok c r i ts e h hm he hr ih =>
    have hz := tok_size c r he
    rw [List.length_drop] at ih
    simp at ih ⊢; omega
end Go.Proofs.YtllehkjebikgpaaDoor.PS
namespace Go.Proofs.YtllehkjebikgpaaDoor.Pure
open Go.RowKit Go.Proofs.YtllehkjebikgpaaDoorW.PrintWords Go.Proofs.YtllehkjebikgpaaDoorW.PrintLast Go.Proofs.YtllehkjebikgpaaDoorW.PrintMore Go.Proofs.YtllehkjebikgpaaDoorX Go.Proofs.YtllehkjebikgpaaDoorL Go.Proofs.YtllehkjebikgpaaDoor.PA Go.Proofs.YtllehkjebikgpaaDoor.PS
theorem LexJoins : ∀ (a0 : ByteArray) (a1 : ByteArray), a0.size ≤ 140737488351232 → a1.size ≤ 140737488351232 → ∃ k, unisonlaw10_LexJoins.f k a0 a1 = some true := by
  intro s t hs ht
  have early : ∀ k, unisonlaw10_LexJoins.j0 (k + 1) s t true true = some true := fun k => by rw [unisonlaw10_LexJoins.j0, if_pos rfl]
  refine ⟨10000 + 1 + 1, ?_⟩
  unfold unisonlaw10_LexJoins.f
  rw [awake_all (by omega), some_bind]
  by_cases h1 : s.size ≤ 1000
  · by_cases h2 : t.size ≤ 1000
    · rw [if_neg (by omega), if_neg (by omega)]
      have hw : wrap64 (wrap64 ((s.size : Int) + (t.size : Int)) + 1) = (s.size : Int) + (t.size : Int) + 1 := by
        rw [wrap64_of (n := (s.size : Int) + (t.size : Int)) (by omega) (by omega), wrap64_of (by omega) (by omega)]
      rw [hw]
      by_cases h3 : s.size + t.size + 1 ≤ 1000
      · rw [decide_eq_false (by omega), unisonlaw10_LexJoins.j0, if_neg (by decide)]
        obtain ⟨ts, e, hR⟩ := scan_all s h1
        obtain ⟨us, e', hU⟩ := scan_all t h2
        have hbl : bl ((s ++ (⟨#[10]⟩ : ByteArray)) ++ t) = bl s ++ 10 :: bl t := by
          rw [bl_app, bl_app, List.append_assoc]; rfl
        have hsz1 : (s ++ (⟨#[10]⟩ : ByteArray)).size = s.size + 1 := by rw [ByteArray.size_append]; rfl
        have hsz : ((s ++ (⟨#[10]⟩ : ByteArray)) ++ t).size = s.size + 1 + t.size := by rw [ByteArray.size_append, hsz1]
        have hJ := join_run hR (bl t) _ _ (by
          have := run_shift hU (s.size + 1)
          rw [bl_length, show 0 + s.size + 1 = 0 + (s.size + 1) by omega]; exact this)
        rw [scan_of hR h1 (by omega), some_bind, scan_of hU h2 (by omega), some_bind, if_pos (by omega), if_pos (by rw [hsz1]; omega)]
        rw [scan_of (ts := jT ts (us.map (sh (s.size + 1))) e) (e := jE (e'.map fun p => (p.1 + (s.size + 1), p.2)) e) (by rw [hbl]; exact hJ) (by rw [hsz]; omega) (by omega), some_bind]
        cases e with
        | some p =>
          have := run_err hR p.1 p.2 rfl
          show (if p.2 = 0 then _ else _) = _
          rw [if_neg this.2.2, if_pos rfl]
          show (if p.2 = p.2 then some ((p.1 : Int) == (p.1 : Int)) else none) = some true
          rw [if_pos rfl]; simp
        | none =>
          cases e' with
          | some p =>
            have := run_err hU p.1 p.2 rfl
            have hw2 : wrap64 (wrap64 ((s.size : Int) + 1) + (p.1 : Int)) = ((p.1 + (s.size + 1) : Nat) : Int) := by
              have hl := bl_length t
              rw [wrap64_of (n := (s.size : Int) + 1) (by omega) (by omega), wrap64_of (by omega) (by omega)]; omega
            show (if (0 : Int) = 0 then (if p.2 = 0 then _ else if true = true then (if p.2 = p.2 then some (((p.1 + (s.size + 1) : Nat) : Int) == wrap64 (wrap64 ((s.size : Int) + 1) + (p.1 : Int))) else none) else none) else _) = _
            rw [if_pos rfl, if_neg this.2.2, if_pos rfl, if_pos rfl, hw2]; simp
          | none =>
            have hne := run_ne hR rfl
            have hca := run_count hR
            have hcb := run_count hU
            have hls := bl_length s
            have hlt := bl_length t
            have ha1 : 1 ≤ ts.length := by cases ts with | nil => exact absurd rfl hne | cons _ _ => simp
            show (if (0 : Int) = 0 then (if (0 : Int) = 0 then (if (0 : Int) = 0 then (if (ts.length : Int) = 0 then _ else unisonlaw10_LexJoins.j1 (10000 + 1) s true ts us (ts.dropLast ++ us.map (sh (s.size + 1))) (((ts.dropLast ++ us.map (sh (s.size + 1))).length : Int) != wrap64 (wrap64 ((ts.length : Int) - 1) + (us.length : Int)))) else _) else _) else _) = _
            have hw2 : wrap64 (wrap64 ((ts.length : Int) - 1) + (us.length : Int)) = ((ts.dropLast ++ us.map (sh (s.size + 1))).length : Int) := by
              rw [wrap64_of (n := (ts.length : Int) - 1) (by omega) (by omega), wrap64_of (by omega) (by omega), List.length_append, List.length_dropLast, List.length_map]; omega
            rw [if_pos rfl, if_pos rfl, if_pos rfl, if_neg (by omega), hw2, unisonlaw10_LexJoins.j1, if_neg (by simp)]
            refine joins_loop s ts us h1 (by omega) (by omega) hne ?_ _ 0 (Nat.zero_add _) 10000 ?_
            · intro x hx
              have := run_at hU x hx
              omega
            · rw [List.length_append, List.length_dropLast, List.length_map]; omega
      · rw [decide_eq_true (by omega)]; exact early _
    · rw [if_neg (by omega), if_pos (by omega)]; exact early _
  · rw [if_pos (by omega)]; exact early _
end Go.Proofs.YtllehkjebikgpaaDoor.Pure
