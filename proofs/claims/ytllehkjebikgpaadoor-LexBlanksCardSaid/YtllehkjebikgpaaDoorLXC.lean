/- Blanks and remarks between tokens: what stands behind a token, what is put ahead of one; no program's steps in sight; no conditions beyond those in each theorem's head. -/
import Derived.Test.YtllehkjebikgpaaDoorLXR
namespace Go.Proofs.YtllehkjebikgpaaDoor.PS
open Go.RowKit Go.Proofs.YtllehkjebikgpaaDoorSh Go.Proofs.YtllehkjebikgpaaDoorW.PrintWords Go.Proofs.YtllehkjebikgpaaDoorW.PrintLast Go.Proofs.YtllehkjebikgpaaDoorW.PrintMore Go.Proofs.YtllehkjebikgpaaDoorX Go.Proofs.YtllehkjebikgpaaDoorL Go.Proofs.YtllehkjebikgpaaDoor.PA
set_option linter.unusedVariables false
set_option linter.unusedSimpArgs false

def Soft (b : UInt8) : Prop := b = 9 ∨ b = 10 ∨ b = 32 ∨ b = 45
theorem soft_run {b : UInt8} (h : Soft b) : inRun b = false := by
  rcases h with rfl | rfl | rfl | rfl <;> decide +kernel
theorem soft_quote {b : UInt8} (h : Soft b) : ¬ b.toNat = 39 := by
  rcases h with rfl | rfl | rfl | rfl <;> decide
/-- A token cut out, something soft behind it, is the same token. -/
theorem tok_cut (c : UInt8) (r z : List UInt8) (he : (tokL (c :: r)).2.2 = 0) (hz : ∀ b y, z = b :: y → Soft b) : tokL ((c :: r).take (tokL (c :: r)).2.1 ++ z) = tokL (c :: r) := by
  have hzr : ∀ b y, z = b :: y → inRun b = false := fun b y h => soft_run (hz b y h)
  have hzq : ∀ b y, z = b :: y → ¬ b.toNat = 39 := fun b y h => soft_quote (hz b y h)
  have cut : ∀ l : List UInt8, l.take (runL l).length = runL l := take_run
  have self := runL_self z hzr
  have hd : ∀ l : List UInt8, inRun c = true → l = c :: r → ∃ l', runL l = c :: l' := fun l h e => by
    subst e
    exact ⟨r.takeWhile inRun, by unfold runL; rw [List.takeWhile_cons, if_pos h]⟩
  rw [tokL] at he ⊢
  by_cases k2 : cls c = 2
  · rw [if_pos k2] at he ⊢
    split at he
    · next hn =>
      rw [if_pos hn]
      show tokL ((c :: r).take (runL (c :: r)).length ++ z) = _
      rw [cut]
      have e := self (c :: r)
      obtain ⟨l', hl'⟩ := hd (c :: r) (inRun_of (.inl k2)) rfl
      rw [hl'] at e hn ⊢
      show tokL (c :: (l' ++ z)) = _
      rw [show c :: l' ++ z = c :: (l' ++ z) from rfl] at e
      rw [tokL, if_pos k2, e, if_pos hn]
    · exact absurd he (by decide)
  · rw [if_neg k2] at he ⊢
    by_cases k3 : cls c = 3 ∨ cls c = 4
    · have e := self (c :: r)
      obtain ⟨l', hl'⟩ := hd (c :: r) (inRun_of (.inr k3)) rfl
      have goal : ∀ n, n = (runL (c :: r)).length → tokL ((c :: r).take n ++ z) = (if wordL (runL (c :: r)) = true then ((4, 0, runL (c :: r)), (runL (c :: r)).length, 0) else if nameL (runL (c :: r)) = true then ((3, 0, runL (c :: r)), (runL (c :: r)).length, 0) else ((0, 0, []), 0, 102)) := fun n hn => by
        rw [hn, cut]
        rw [hl'] at e ⊢
        show tokL (c :: (l' ++ z)) = _
        rw [show c :: l' ++ z = c :: (l' ++ z) from rfl] at e
        rw [tokL, if_neg k2, if_pos k3, e]
      rw [if_pos k3] at he ⊢
      cases hw : wordL (runL (c :: r)) with
      | true =>
        rw [hw] at goal
        exact goal _ rfl
      | false =>
        rw [hw] at he goal
        cases hm : nameL (runL (c :: r)) with
        | true =>
          rw [hm] at goal
          exact goal _ rfl
        | false => rw [hm] at he; exact absurd (show (102 : Int) = 0 from he) (by decide)
    · rw [if_neg k3] at he ⊢
      by_cases k5 : cls c = 5
      · rw [if_pos k5] at he ⊢
        split at he
        · next hn =>
          rw [if_pos hn]
          show tokL ((c :: r).take ((runL r).length + 1) ++ z) = _
          rw [List.take_succ_cons, cut]
          show tokL (c :: (runL r ++ z)) = _
          rw [tokL, if_neg k2, if_neg k3, if_pos k5, self r, if_pos hn]
        · exact absurd he (by decide)
      · rw [if_neg k5] at he ⊢
        by_cases k6 : cls c = 6
        · rw [if_pos k6] at he ⊢
          cases hq : qend r with
          | none => rw [hq] at he; exact absurd (show (103 : Int) = 0 from he) (by decide)
          | some m =>
            have hm := qend_le _ _ (Nat.le_refl _) m hq
            rw [hq, some_bind] at he
            rw [some_bind]
            cases hl : litL ((c :: r).take (1 + m)) with
            | none => rw [hl] at he; exact absurd (show (103 : Int) = 0 from he) (by decide)
            | some t =>
              show tokL ((c :: r).take (1 + m) ++ z) = ((5, 0, t), 1 + m, 0)
              have h1 : (c :: r).take (1 + m) = c :: r.take m := by rw [show 1 + m = m + 1 by omega, List.take_succ_cons]
              rw [h1]
              show tokL (c :: (r.take m ++ z)) = _
              have h2 : (c :: (r.take m ++ z)).take (1 + m) = (c :: r).take (1 + m) := by
                rw [h1, show 1 + m = m + 1 by omega, List.take_succ_cons, List.take_append_of_le_length (by rw [List.length_take]; omega), List.take_take, Nat.min_self]
              rw [tokL, if_neg k2, if_neg k3, if_neg k5, if_pos k6, qend_cut z hzq _ r (Nat.le_refl _) m hq, some_bind, h2, hl]
              rfl
        · rw [if_neg k6] at he ⊢
          by_cases k7 : cls c = 7 ∨ cls c = 8
          · rw [if_pos k7]
            show tokL ((c :: r).take ((c :: r).take (sgn (c :: r))).length ++ z) = _
            have goal : ∀ y : List UInt8, sgn (c :: y) = sgn (c :: r) → (c :: y).take (sgn (c :: r)) = (c :: r).take (sgn (c :: r)) → tokL (c :: y) = ((7, 0, (c :: r).take (sgn (c :: r))), ((c :: r).take (sgn (c :: r))).length, 0) := fun y h1 h2 => by
              rw [tokL, if_neg k2, if_neg k3, if_neg k5, if_neg k6, if_pos k7, h1, h2]
            cases r with
            | nil =>
              show tokL (c :: z) = _
              have hs : sgn (c :: z) = 1 := by
                cases z with
                | nil => rfl
                | cons b y =>
                  have hb : ¬ b.toNat = 62 ∧ ¬ b.toNat = 61 := by rcases hz b y rfl with rfl | rfl | rfl | rfl <;> decide
                  simp [sgn, hb.1, hb.2]
              exact goal z hs rfl
            | cons d r =>
              have hr := sgn_range (c :: d :: r)
              by_cases h2 : sgn (c :: d :: r) = 2
              · rw [h2]
                show tokL (c :: d :: z) = _
                rw [← h2]
                refine goal (d :: z) ?_ ?_
                · rfl
                · rw [h2]; rfl
              · have h1 : sgn (c :: d :: r) = 1 := by omega
                rw [h1]
                show tokL (c :: z) = _
                rw [← h1]
                have hs : sgn (c :: z) = 1 := by
                  cases z with
                  | nil => rfl
                  | cons b y =>
                    have hb : ¬ b.toNat = 62 ∧ ¬ b.toNat = 61 := by rcases hz b y rfl with rfl | rfl | rfl | rfl <;> decide
                    simp [sgn, hb.1, hb.2]
                refine goal z (by rw [hs, h1]) ?_
                rw [h1]; rfl
          · rw [if_neg k7] at he; exact absurd he (by decide)
theorem rem_cut (c : UInt8) (r z : List UInt8) (n : Nat) (hn : 1 ≤ n) (hnl : n ≤ r.length + 1) (hm : isRem (c :: r) = false) (hz : ∀ y, z = 45 :: y → ∃ y', (c :: r).drop n = 45 :: y') : isRem ((c :: r).take n ++ z) = false := by
  obtain ⟨n, rfl⟩ : ∃ j, n = j + 1 := ⟨n - 1, by omega⟩
  rw [List.take_succ_cons]
  unfold isRem at hm ⊢
  cases n with
  | zero =>
    show List.isPrefixOf [45, 45] (c :: z) = false
    cases hx : List.isPrefixOf ([45, 45] : List UInt8) (c :: z) with
    | false => rfl
    | true =>
      exfalso
      obtain ⟨t, ht⟩ := List.isPrefixOf_iff_prefix.1 hx
      injection ht with h1 h2
      obtain ⟨y', hy⟩ := hz t h2.symm
      have hy : r = 45 :: y' := hy
      subst h1; subst hy
      simp [List.isPrefixOf] at hm
  | succ n =>
    cases r with
    | nil => simp at hnl
    | cons d r =>
      rw [List.take_succ_cons]
      simpa [List.isPrefixOf] using hm

/-! ### what is put ahead of tokens -/
def putsL : List (List UInt8) := [[32], [10], [9, 32], [32, 45, 45, 32, 120, 33, 10], [32, 45, 45, 10]]
theorem cls_sp : cls 32 = 1 := by decide +kernel
theorem cls_tab : cls 9 = 1 := by decide +kernel
theorem put_head {p : List UInt8} (h : p ∈ putsL) : ∃ b y, p = b :: y ∧ (b = 9 ∨ b = 10 ∨ b = 32) := by
  simp only [putsL, List.mem_cons, List.not_mem_nil, or_false] at h
  rcases h with rfl | rfl | rfl | rfl | rfl
  · exact ⟨_, _, rfl, .inr (.inr rfl)⟩
  · exact ⟨_, _, rfl, .inr (.inl rfl)⟩
  · exact ⟨_, _, rfl, .inl rfl⟩
  · exact ⟨_, _, rfl, .inr (.inr rfl)⟩
  · exact ⟨_, _, rfl, .inr (.inr rfl)⟩
theorem rem_skip {l : List UInt8} {Y : List UInt8} {j : Nat} {us : List S29} {e : Option (Nat × Int)} (hl : isRem l = true) (hn : remN l = l.length) (h : Run Y (j + l.length + 1) us e) : Run (l ++ 10 :: Y) j us e := by
  have hp := rem_pos hl
  match l, hl, hn, h, hp with
  | [], _, _, _, hp => exact absurd hp (by decide)
  | c :: r, hl, hn, h, hp =>
    refine .rem (by rw [rem_join]; exact hl) ?_
    rw [remN_app, hn, List.drop_append_of_le_length (Nat.le_refl _), List.drop_length]
    exact .blank cls_nl h
theorem put_run {p : List UInt8} (hp : p ∈ putsL) {Y : List UInt8} {j : Nat} {us : List S29} {e : Option (Nat × Int)} (h : Run Y (j + p.length) us e) : Run (p ++ Y) j us e := by
  simp only [putsL, List.mem_cons, List.not_mem_nil, or_false] at hp
  rcases hp with rfl | rfl | rfl | rfl | rfl
  · exact .blank cls_sp h
  · exact .blank cls_nl h
  · exact .blank cls_tab (.blank cls_sp h)
  · exact .blank cls_sp (rem_skip (l := [45, 45, 32, 120, 33]) rfl rfl h)
  · exact .blank cls_sp (rem_skip (l := [45, 45]) rfl rfl h)
theorem remN_all {l p : List UInt8} (h : remN l = l.length) : remN (l ++ p) = l.length + remN p := by
  unfold remN at h ⊢
  induction l with
  | nil => simp
  | cons c l ih =>
    rw [List.takeWhile_cons] at h
    split at h
    · next hc =>
      rw [List.length_cons, List.length_cons] at h
      have := ih (by omega)
      rw [List.cons_append, List.takeWhile_cons, hc, if_pos rfl, List.length_cons, List.length_cons, this]; omega
    · simp at h
theorem rem_more {l : List UInt8} (h : isRem l = true) (p : List UInt8) : isRem (l ++ p) = true := by
  obtain ⟨t, rfl⟩ := List.isPrefixOf_iff_prefix.1 h
  rw [List.append_assoc]
  exact List.isPrefixOf_iff_prefix.2 (List.prefix_append _ _)
/-- A remark that ends its source, something put behind it. -/
theorem rem_put {l p : List UInt8} (hl : isRem l = true) (hn : remN l = l.length) (hp : p ∈ putsL) (j : Nat) : Run (l ++ p) j [endT (j + (l.length + p.length))] none := by
  have whole : remN p = p.length → Run (l ++ p) j [endT (j + (l.length + p.length))] none := fun h => by
    refine .rem (rem_more hl p) ?_
    rw [remN_all hn, h, List.drop_of_length_le (by rw [List.length_append]; exact Nat.le_refl _)]
    exact .fin _
  have part : ∀ q, p = q ++ [10] → remN p = q.length → Run (l ++ p) j [endT (j + (l.length + p.length))] none := fun q hq h => by
    refine .rem (rem_more hl p) ?_
    rw [remN_all hn, h, hq, ← List.append_assoc, List.drop_append_of_le_length (by rw [List.length_append]; exact Nat.le_refl _), List.drop_of_length_le (by rw [List.length_append]; exact Nat.le_refl _)]
    have := Run.blank (c := 10) (r := []) (i := j + (l.length + q.length)) cls_nl (.fin _)
    have hl1 : (q ++ [(10 : UInt8)]).length = q.length + 1 := by simp
    rw [hl1]
    exact this
  simp only [putsL, List.mem_cons, List.not_mem_nil, or_false] at hp
  rcases hp with rfl | rfl | rfl | rfl | rfl
  · exact whole rfl
  · exact part [] rfl rfl
  · exact whole rfl
  · exact part [32, 45, 45, 32, 120, 33] rfl rfl
  · exact part [32, 45, 45] rfl rfl

/-! ### the source with something put ahead of each token -/
def ins (q : Nat → List UInt8) : List UInt8 → Nat → List S29 → Nat → List UInt8
  | l, _, [], _ => l
  | l, i, t :: ts, m => l.take (t.f3.toNat - i) ++ (q m ++ ins q (l.drop (t.f3.toNat - i)) t.f3.toNat ts (m + 1))
def st (t : S29) : Int × Int × ByteArray := (t.f0, t.f1, t.f2)
theorem ins_take (q : Nat → List UInt8) (l : List UInt8) (i n : Nat) (t : S29) (ts : List S29) (m : Nat) (h : i + n ≤ t.f3.toNat) : ins q l i (t :: ts) m = l.take n ++ ins q (l.drop n) (i + n) (t :: ts) m := by
  rw [ins, ins]
  obtain ⟨d, hd⟩ : ∃ d, t.f3.toNat = i + n + d := ⟨t.f3.toNat - (i + n), by omega⟩
  rw [show t.f3.toNat - i = n + d by omega, show t.f3.toNat - (i + n) = d by omega, List.take_add, List.drop_drop, List.append_assoc]
theorem run_head {l : List UInt8} {i : Nat} {ts : List S29} {e : Option (Nat × Int)} (h : Run l i ts e) (he : e = none) : ∃ t ts', ts = t :: ts' ∧ i ≤ t.f3.toNat ∧ t.f3.toNat ≤ i + l.length := by
  have hne := run_ne h he
  cases ts with
  | nil => exact absurd rfl hne
  | cons t ts =>
    have := run_at h t List.mem_cons_self
    exact ⟨t, ts, rfl, by omega, by omega⟩
theorem cls1 : ∀ c : Fin 256, clsI (c.val : Int) = 1 → c.val = 9 ∨ c.val = 10 ∨ c.val = 32 := by decide +kernel
theorem blank_soft {c : UInt8} (h : cls c = 1) : c = 9 ∨ c = 10 ∨ c = 32 := by
  rcases cls1 ⟨c.toNat, c.toNat_lt⟩ h with h | h | h
  · exact .inl (UInt8.toNat_inj.1 h)
  · exact .inr (.inl (UInt8.toNat_inj.1 h))
  · exact .inr (.inr (UInt8.toNat_inj.1 h))
/-- How what is put together begins. -/
theorem ins_head {q : Nat → List UInt8} (hq : ∀ m, q m ∈ putsL) {l : List UInt8} {i : Nat} {ts : List S29} {e : Option (Nat × Int)} (h : Run l i ts e) (he : e = none) (m : Nat) :
    ∀ b y, ins q l i ts m = b :: y → (b = 9 ∨ b = 10 ∨ b = 32) ∨ (b = 45 ∧ ∃ y', l = 45 :: y') := by
  intro b y hb
  obtain ⟨t, ts', rfl, h1, h2⟩ := run_head h he
  rw [ins] at hb
  by_cases h0 : t.f3.toNat - i = 0
  · obtain ⟨c, z, hc, hs⟩ := put_head (hq m)
    rw [h0, hc] at hb
    injection hb with hb _
    subst hb
    exact .inl hs
  · cases h with
    | fin i => exact absurd (show (endT i).f3.toNat - i = 0 by show (i : Int).toNat - i = 0; omega) h0
    | @blank c r _ _ _ hc hr =>
      obtain ⟨d, hd⟩ : ∃ d, t.f3.toNat - i = d + 1 := ⟨t.f3.toNat - i - 1, by omega⟩
      rw [hd, List.take_succ_cons] at hb
      injection hb with hb _
      subst hb
      exact .inl (blank_soft hc)
    | rem hm hr =>
      obtain ⟨z, rfl⟩ := List.isPrefixOf_iff_prefix.1 hm
      obtain ⟨d, hd⟩ : ∃ d, t.f3.toNat - i = d + 1 := ⟨t.f3.toNat - i - 1, by omega⟩
      rw [hd, show ([45, 45] : List UInt8) ++ z = 45 :: 45 :: z from rfl, List.take_succ_cons] at hb
      injection hb with hb _
      exact .inr ⟨hb.symm, _, rfl⟩
    | @tok c r _ _ _ hc hm he' hr => exact absurd (show (mkT (tokL (c :: r)).1 i).f3.toNat - i = 0 by show (i : Int).toNat - i = 0; omega) h0
theorem st_mk (x : Int × Int × List UInt8) (i j : Nat) : st (mkT x i) = st (mkT x j) := rfl
/-- Blanks and remarks ahead of tokens change their places alone. -/
theorem blanks_run {q : Nat → List UInt8} (hq : ∀ m, q m ∈ putsL) {l : List UInt8} {i : Nat} {ts : List S29} {e : Option (Nat × Int)} (h : Run l i ts e) : e = none → ∀ j m, ∃ us, Run (ins q l i ts m) j us none ∧ us.map st = ts.map st := by
  induction h with
  | fin i =>
    intro _ j m
    refine ⟨[endT (j + (q m).length)], ?_, rfl⟩
    show Run (([] : List UInt8).take _ ++ (q m ++ ([] : List UInt8).drop _)) j _ _
    rw [List.take_nil, List.drop_nil, List.nil_append]
    exact put_run (hq m) (.fin _)
  | @blank c r i ts e h hr ih =>
    intro he j m
    obtain ⟨t, ts', rfl, h1, h2⟩ := run_head hr he
    obtain ⟨us, hu, hs⟩ := ih he (j + 1) m
    refine ⟨us, ?_, hs⟩
    rw [ins_take q (c :: r) i 1 t ts' m h1]
    exact .blank h hu
  | @rem l i ts e h hr ih =>
    intro he j m
    have hle := remN_le l
    obtain ⟨t, ts', rfl, h1, h2⟩ := run_head hr he
    rw [ins_take q l i (remN l) t ts' m h1]
    by_cases hx : remN l = l.length
    · have hd : l.drop (remN l) = [] := List.drop_of_length_le (by omega)
      rw [hd] at hr ⊢
      rw [hx, List.take_length]
      cases hr with
      | fin _ =>
        refine ⟨[endT (j + (l.length + (q m).length))], ?_, rfl⟩
        show Run (l ++ (([] : List UInt8).take _ ++ (q m ++ ([] : List UInt8).drop _))) j _ _
        rw [List.take_nil, List.drop_nil, List.nil_append, List.append_nil]
        exact rem_put h hx (hq m) j
      | rem hm _ => exact absurd hm (by decide)
    · obtain ⟨us, hu, hs⟩ := ih he (j + remN l) m
      refine ⟨us, ?_, hs⟩
      have hlt : remN l < l.length := by omega
      have hten : l[remN l] = 10 := by
        have := takeWhile_stop l hlt
        exact this
      have hd : l.drop (remN l) = 10 :: l.drop (remN l + 1) := by rw [List.drop_eq_getElem_cons hlt, hten]
      rw [hd] at hr hu ⊢
      have hblank : ∃ Y, ins q (10 :: l.drop (remN l + 1)) (i + remN l) (t :: ts') m = 10 :: Y := by
        cases hr with
        | blank hc hr' =>
          obtain ⟨t2, ts2, e2, g1, _⟩ := run_head hr' he
          injection e2 with e2 e3
          subst e2; subst e3
          rw [ins_take q (10 :: l.drop (remN l + 1)) (i + remN l) 1 t ts' m g1]
          exact ⟨_, rfl⟩
        | rem hm _ => simp [isRem, List.isPrefixOf] at hm
        | tok hc _ _ _ => exact absurd cls_nl hc
      obtain ⟨Y, hY⟩ := hblank
      rw [hY] at hu ⊢
      have htk : remN (l.take (remN l)) = (l.take (remN l)).length := takeWhile_take l
      have hlen : (l.take (remN l)).length = remN l := by rw [List.length_take]; omega
      have hrm : isRem (l.take (remN l) ++ 10 :: Y) = true := by
        have hp := rem_pos h
        obtain ⟨z, hz⟩ := List.isPrefixOf_iff_prefix.1 h
        obtain ⟨n, hn⟩ : ∃ n, remN l = n + 2 := ⟨remN l - 2, by omega⟩
        rw [hn, ← hz]
        simp [isRem, List.isPrefixOf]
      refine .rem hrm ?_
      rw [remN_app, htk, hlen, List.drop_append_of_le_length (by omega), List.drop_of_length_le (by omega)]
      exact hu
  | bad h hm he => intro e; cases e
  | @tok c r i ts e h hm he hr ih =>
    intro hn j m
    have hz := tok_size c r he
    obtain ⟨t, ts', rfl, h1, h2⟩ := run_head hr hn
    obtain ⟨us, hu, hs⟩ := ih hn (j + (q m).length + (tokL (c :: r)).2.1) (m + 1)
    have hhead := ins_head hq hr hn (m + 1)
    have hI : ins q (c :: r) i (mkT (tokL (c :: r)).1 i :: t :: ts') m = q m ++ ((c :: r).take (tokL (c :: r)).2.1 ++ ins q ((c :: r).drop (tokL (c :: r)).2.1) (i + (tokL (c :: r)).2.1) (t :: ts') (m + 1)) := by
      rw [ins, show (mkT (tokL (c :: r)).1 i).f3.toNat = i from Int.toNat_natCast i, Nat.sub_self, List.take_zero, List.drop_zero, List.nil_append, ins_take q (c :: r) i _ t ts' (m + 1) h1]
    rw [hI]
    generalize hZ : ins q ((c :: r).drop (tokL (c :: r)).2.1) (i + (tokL (c :: r)).2.1) (t :: ts') (m + 1) = Z at hu hhead
    refine ⟨mkT (tokL (c :: r)).1 (j + (q m).length) :: us, put_run (hq m) ?_, by rw [List.map_cons, List.map_cons, hs, st_mk _ i]⟩
    have hc := tok_cut c r Z he (fun b y hb => by
      rcases hhead b y hb with (h | h | h) | ⟨h, _⟩
      · exact .inl h
      · exact .inr (.inl h)
      · exact .inr (.inr (.inl h))
      · exact .inr (.inr (.inr h)))
    have hr' := rem_cut c r Z (tokL (c :: r)).2.1 hz.1 hz.2 hm (fun y hy => by
      rcases hhead 45 y hy with (h | h | h) | ⟨_, h⟩
      · exact absurd h (by decide)
      · exact absurd h (by decide)
      · exact absurd h (by decide)
      · exact h)
    have hlen : ((c :: r).take (tokL (c :: r)).2.1).length = (tokL (c :: r)).2.1 := by rw [List.length_take, List.length_cons]; omega
    have hdr : ((c :: r).take (tokL (c :: r)).2.1 ++ Z).drop (tokL (c :: r)).2.1 = Z := by
      rw [List.drop_append_of_le_length (by omega), List.drop_of_length_le (by omega), List.nil_append]
    obtain ⟨n, hn1⟩ : ∃ n, (tokL (c :: r)).2.1 = n + 1 := ⟨(tokL (c :: r)).2.1 - 1, by omega⟩
    have hcons : (c :: r).take (tokL (c :: r)).2.1 ++ Z = c :: (r.take n ++ Z) := by rw [hn1]; rfl
    rw [hcons] at hc hr' hdr ⊢
    have := Run.tok (i := j + (q m).length) (r := r.take n ++ Z) (ts := us) (e := none) h hr' (by rw [hc]; exact he) (by rw [hc, hdr]; exact hu)
    rw [hc] at this
    exact this
where
  takeWhile_stop (l : List UInt8) (h : remN l < l.length) : l[remN l] = 10 := by
    induction l with
    | nil => simp at h
    | cons c l ih =>
      by_cases hc : (c == 10) = true
      · have : remN (c :: l) = 0 := by unfold remN; rw [List.takeWhile_cons, hc]; rfl
        simp only [this, List.getElem_cons_zero]
        exact beq_iff_eq.1 hc
      · have hc' := Bool.eq_false_iff.mpr hc
        have e : remN (c :: l) = remN l + 1 := by unfold remN; rw [List.takeWhile_cons, hc']; rfl
        simp only [e, List.getElem_cons_succ]
        exact ih (by rw [e, List.length_cons] at h; omega)
  takeWhile_take (l : List UInt8) : remN (l.take (remN l)) = (l.take (remN l)).length := by
    induction l with
    | nil => rfl
    | cons c l ih =>
      by_cases hc : (c == 10) = true
      · have : remN (c :: l) = 0 := by unfold remN; rw [List.takeWhile_cons, hc]; rfl
        rw [this]; rfl
      · have hc' := Bool.eq_false_iff.mpr hc
        have e : remN (c :: l) = remN l + 1 := by unfold remN; rw [List.takeWhile_cons, hc']; rfl
        rw [e, List.take_succ_cons]
        have e2 : remN (c :: l.take (remN l)) = remN (l.take (remN l)) + 1 := by unfold remN; rw [List.takeWhile_cons, hc']; rfl
        rw [e2, ih, List.length_cons]
theorem ins_length {q : Nat → List UInt8} (hq : ∀ m, q m ∈ putsL) : ∀ (ts : List S29) (l : List UInt8) (i m : Nat), (ins q l i ts m).length ≤ l.length + 8 * ts.length
  | [], l, i, m => by rw [ins]; simp
  | t :: ts, l, i, m => by
    have ih := ins_length hq ts (l.drop (t.f3.toNat - i)) t.f3.toNat (m + 1)
    have h8 : (q m).length ≤ 8 := by
      have := hq m
      simp only [putsL, List.mem_cons, List.not_mem_nil, or_false] at this
      rcases this with h | h | h | h | h <;> rw [h] <;> decide
    rw [ins, List.length_append, List.length_append, List.length_take, List.length_cons]
    rw [List.length_drop] at ih
    omega
theorem run_asc {l : List UInt8} {i : Nat} {ts : List S29} {e : Option (Nat × Int)} (h : Run l i ts e) : ∀ (j : Nat) (hj : j + 1 < ts.length), (ts[j]'(by omega)).f3 ≤ (ts[j + 1]'hj).f3 := by
  induction h with
  | fin i => intro j hj; simp at hj
  | blank h hr ih => exact ih
  | rem h hr ih => exact ih
  | bad h hm he => intro j hj; simp at hj
  | @tok c r i ts e h hm he hr ih =>
    intro j hj
    cases j with
    | zero =>
      have hj0 : 0 < ts.length := by simpa using hj
      have := run_at hr _ (List.getElem_mem hj0)
      show (i : Int) ≤ (ts[0]'hj0).f3
      omega
    | succ j => exact ih j (by simpa using hj)
end Go.Proofs.YtllehkjebikgpaaDoor.PS
