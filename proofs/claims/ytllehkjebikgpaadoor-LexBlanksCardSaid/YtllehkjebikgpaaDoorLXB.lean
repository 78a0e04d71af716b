/- How tokens stand beside what comes behind them: a line's end behind a source, a blank behind a token; no program's steps in sight; no conditions beyond those in each theorem's head. -/
import Derived.Test.YtllehkjebikgpaaDoorLX
namespace Go.Proofs.YtllehkjebikgpaaDoor.PS
open Go.RowKit Go.Proofs.YtllehkjebikgpaaDoorSh Go.Proofs.YtllehkjebikgpaaDoorW.PrintWords Go.Proofs.YtllehkjebikgpaaDoorW.PrintLast Go.Proofs.YtllehkjebikgpaaDoorW.PrintMore Go.Proofs.YtllehkjebikgpaaDoorX Go.Proofs.YtllehkjebikgpaaDoorL Go.Proofs.YtllehkjebikgpaaDoor.PA
set_option linter.unusedVariables false
set_option linter.unusedSimpArgs false

/-! ### literals have no control bytes -/
theorem hexB_pr : ∀ d : Fin 16, 32 ≤ (hexB d.val).toNat := by decide
theorem qb_pr (c : UInt8) : ∀ b ∈ qb c, 32 ≤ b.toNat := by
  intro b hb
  unfold qb at hb
  have hc := c.toNat_lt
  split at hb
  · simp only [List.mem_cons, List.not_mem_nil, or_false] at hb
    rcases hb with rfl | rfl | rfl
    · decide
    · exact hexB_pr ⟨c.toNat / 16, by omega⟩
    · exact hexB_pr ⟨c.toNat % 16, by omega⟩
  · split at hb
    · simp only [List.mem_cons, List.not_mem_nil, or_false] at hb
      rcases hb with rfl | rfl <;> decide
    · simp only [List.mem_cons, List.not_mem_nil, or_false] at hb
      subst hb; omega
theorem fin_text {s : ByteArray} {t : ByteArray} {r : Int × Int × ByteArray × Int} (h : fin s 3 0 t = some r) (he : r.2.2.2 = 0) : bl s = YtllehkjebikgpaaDoorX.quoted (bl t) ++ [39] := by
  unfold fin value_Print.f at h
  obtain ⟨p, hp, h⟩ := Option.bind_eq_some_iff.1 h
  obtain ⟨b, hb, hp⟩ := Option.bind_eq_some_iff.1 hp
  have h := Option.some.inj h
  have hp := Option.some.inj hp
  by_cases c : p.2 = 0 ∧ p.1 = s
  · cases b with
    | false => rw [if_neg (by decide)] at hp; rw [← hp] at c; exact absurd c.1 (by decide)
    | true =>
      rw [if_pos rfl, if_neg (by decide), if_neg (by decide), if_pos rfl] at hp
      rw [← c.2, ← hp]; rfl
  · rw [if_neg c] at h; rw [← h] at he; exact absurd he (by decide)
/-- A text's literal is what Print writes. -/
theorem lit_printed {q : List UInt8} {t : List UInt8} (hq : 1 < q.length) (h0 : ∃ r, q = 39 :: r) (h : litL q = some t) : q = YtllehkjebikgpaaDoorX.quoted t ++ [39] := by
  obtain ⟨r, rfl⟩ := h0
  unfold litL at h
  obtain ⟨p, hp, h⟩ := Option.bind_eq_some_iff.1 h
  split at h
  · next he =>
    obtain rfl := Option.some.inj h
    unfold value_Parse.f at hp
    split at hp
    · have hT : ¬ (⟨(39 :: r).toArray⟩ : ByteArray).toList = [84, 82, 85, 69] := by rw [toList_bl, bl_mk]; intro e; exact absurd (List.cons.inj e).1 (by decide)
      have hF : ¬ (⟨(39 :: r).toArray⟩ : ByteArray).toList = [70, 65, 76, 83, 69] := by rw [toList_bl, bl_mk]; intro e; exact absurd (List.cons.inj e).1 (by decide)
      have hb : bt (⟨(39 :: r).toArray⟩ : ByteArray) 0 = 39 := by
        have hi : 0 < (bl (⟨(39 :: r).toArray⟩ : ByteArray)).length := by rw [bl_mk]; simp
        have := bt_bl hi
        rw [show ((0 : Nat) : Int) = 0 from rfl] at this
        rw [this]; rfl
      rw [if_neg hT, if_neg hF, dif_pos ⟨by rw [size_mk']; exact hq, hb⟩] at hp
      split at hp
      · next l _ =>
        have := fin_text hp he
        rw [bl_mk] at this
        have h2 : bl p.2.2.1 = l := by
          unfold fin at hp
          obtain ⟨z, hz, hp⟩ := Option.bind_eq_some_iff.1 hp
          have hp := Option.some.inj hp
          by_cases c : z.2 = 0 ∧ z.1 = (⟨(39 :: r).toArray⟩ : ByteArray)
          · rw [if_pos c] at hp; rw [← hp]; rfl
          · rw [if_neg c] at hp; rw [← hp] at he; exact absurd he (by decide)
        rw [h2, this]; rfl
      · have := Option.some.inj hp
        rw [← this] at he; exact absurd he (by decide)
    · cases hp
  · cases h
theorem lit_ctl {r : List UInt8} {b : UInt8} (hb : b ∈ r) (h32 : b.toNat < 32) : litL (39 :: r) = none := by
  cases h : litL (39 :: r) with
  | none => rfl
  | some t =>
    exfalso
    have hr : 1 < (39 :: r).length := by
      cases r with
      | nil => cases hb
      | cons _ _ => simp
    have e := lit_printed hr ⟨r, rfl⟩ h
    have hm : b ∈ YtllehkjebikgpaaDoorX.quoted t ++ [39] := by rw [← e]; exact List.mem_cons_of_mem _ hb
    unfold YtllehkjebikgpaaDoorX.quoted at hm
    rcases List.mem_append.1 hm with hm | hm
    · rcases List.mem_cons.1 hm with rfl | hm
      · exact absurd h32 (by decide)
      · obtain ⟨c, _, hc⟩ := List.mem_flatMap.1 hm
        have := qb_pr c b hc
        omega
    · rcases List.mem_cons.1 hm with rfl | hm
      · exact absurd h32 (by decide)
      · cases hm

/-! ### ends of texts -/
theorem qend_app {b : UInt8} (hb : ¬ b.toNat = 39) (t : List UInt8) : ∀ (n : Nat) (l : List UInt8), l.length ≤ n → ∀ m, qend l = some m → qend (l ++ b :: t) = some m
  | _, [], _, m, h => by simp [qend] at h
  | _, [c], _, m, h => by
    rw [qend] at h
    split at h
    · next hc =>
      show qend (c :: b :: t) = some m
      rw [qend, if_pos hc, if_neg hb]; exact h
    · cases h
  | 0, c :: d :: r, h, _, _ => by simp at h
  | n + 1, c :: d :: r, hl, m, h => by
    have hl' : (d :: r).length ≤ n := by simpa using hl
    show qend (c :: d :: (r ++ b :: t)) = some m
    rw [qend] at h ⊢
    split at h
    · next hc =>
      rw [if_pos hc]
      split at h
      · next hd =>
        rw [if_pos hd]
        obtain ⟨x, hx, rfl⟩ := Option.map_eq_some_iff.1 h
        rw [qend_app hb t n r (by simp at hl'; omega) x hx]; rfl
      · next hd => rw [if_neg hd]; exact h
    · next hc =>
      rw [if_neg hc]
      obtain ⟨x, hx, rfl⟩ := Option.map_eq_some_iff.1 h
      have := qend_app hb t n (d :: r) hl' x hx
      rw [show d :: r ++ b :: t = d :: (r ++ b :: t) from rfl] at this
      rw [this]; rfl
/-- Where a text has no end of its own, an end beyond it lies beyond what stands between. -/
theorem qend_far {b : UInt8} (hb : ¬ b.toNat = 39) (t : List UInt8) : ∀ (n : Nat) (l : List UInt8), l.length ≤ n → qend l = none → ∀ m, qend (l ++ b :: t) = some m → l.length < m
  | _, [], _, _, m, h => by
    have h : qend (b :: t) = some m := h
    have := qend_le _ _ (Nat.le_refl _) m h
    show 0 < m
    omega
  | _, [c], _, h0, m, h => by
    rw [qend] at h0
    split at h0
    · cases h0
    · next hc =>
      have h : qend (c :: b :: t) = some m := h
      rw [qend, if_neg hc] at h
      obtain ⟨x, hx, rfl⟩ := Option.map_eq_some_iff.1 h
      have := qend_le _ _ (Nat.le_refl _) x hx
      show 1 < x + 1
      omega
  | 0, c :: d :: r, h, _, _, _ => by simp at h
  | n + 1, c :: d :: r, hl, h0, m, h => by
    have hl' : (d :: r).length ≤ n := by simpa using hl
    have h : qend (c :: d :: (r ++ b :: t)) = some m := h
    rw [qend] at h h0
    split at h0
    · next hc =>
      rw [if_pos hc] at h
      split at h0
      · next hd =>
        rw [if_pos hd] at h
        obtain ⟨x, hx, rfl⟩ := Option.map_eq_some_iff.1 h
        have := qend_far hb t n r (by simp at hl'; omega) (by simpa using h0) x hx
        simp; omega
      · cases h0
    · next hc =>
      rw [if_neg hc] at h
      obtain ⟨x, hx, rfl⟩ := Option.map_eq_some_iff.1 h
      have := qend_far hb t n (d :: r) hl' (by simpa using h0) x hx
      simp at this ⊢; omega
theorem qend_cut (z : List UInt8) (hz : ∀ b y, z = b :: y → ¬ b.toNat = 39) : ∀ (n : Nat) (l : List UInt8), l.length ≤ n → ∀ m, qend l = some m → qend (l.take m ++ z) = some m
  | _, [], _, m, h => by simp [qend] at h
  | _, [c], _, m, h => by
    rw [qend] at h
    split at h
    · next hc =>
      cases h
      show qend (c :: z) = some 1
      cases z with
      | nil => rw [qend, if_pos hc]
      | cons b y => rw [qend, if_pos hc, if_neg (hz b y rfl)]
    · cases h
  | 0, c :: d :: r, h, _, _ => by simp at h
  | n + 1, c :: d :: r, hl, m, h => by
    have hl' : (d :: r).length ≤ n := by simpa using hl
    rw [qend] at h
    split at h
    · next hc =>
      split at h
      · next hd =>
        obtain ⟨x, hx, rfl⟩ := Option.map_eq_some_iff.1 h
        show qend (c :: d :: (r.take x ++ z)) = some (x + 2)
        rw [qend, if_pos hc, if_pos hd, qend_cut z hz n r (by simp at hl'; omega) x hx]; rfl
      · cases h
        show qend (c :: z) = some 1
        cases z with
        | nil => rw [qend, if_pos hc]
        | cons b y => rw [qend, if_pos hc, if_neg (hz b y rfl)]
    · next hc =>
      obtain ⟨x, hx, rfl⟩ := Option.map_eq_some_iff.1 h
      have := qend_cut z hz n (d :: r) hl' x hx
      show qend (c :: ((d :: r).take x ++ z)) = some (x + 1)
      rw [qend_not hc, this]; rfl

/-! ### runs -/
theorem runL_app {b : UInt8} (hb : inRun b = false) (t : List UInt8) : ∀ l : List UInt8, runL (l ++ b :: t) = runL l
  | [] => by
    show (b :: t).takeWhile inRun = []
    rw [List.takeWhile_cons, hb]; rfl
  | c :: l => by
    show (c :: (l ++ b :: t)).takeWhile inRun = (c :: l).takeWhile inRun
    rw [List.takeWhile_cons, List.takeWhile_cons]
    have := runL_app hb t l
    unfold runL at this
    rw [this]
theorem runL_self (z : List UInt8) (hz : ∀ b y, z = b :: y → inRun b = false) : ∀ l : List UInt8, runL (runL l ++ z) = runL l
  | [] => by
    cases z with
    | nil => rfl
    | cons b y =>
      show (b :: y).takeWhile inRun = []
      rw [List.takeWhile_cons, hz b y rfl]; rfl
  | c :: l => by
    have ih := runL_self z hz l
    unfold runL at ih ⊢
    rw [List.takeWhile_cons]
    split
    · next h =>
      rw [List.cons_append, List.takeWhile_cons, h, if_pos rfl, ih]
    · cases z with
      | nil => rfl
      | cons b y =>
        show (b :: y).takeWhile inRun = []
        rw [List.takeWhile_cons, hz b y rfl]; rfl
theorem nl_run : inRun 10 = false := by decide +kernel
theorem sgn_nl (c : UInt8) (r t : List UInt8) : sgn (c :: r ++ 10 :: t) = sgn (c :: r) := by
  cases r with
  | nil => simp [sgn]
  | cons d r => rfl
theorem take_sgn (c : UInt8) (r t : List UInt8) : (c :: r ++ 10 :: t).take (sgn (c :: r ++ 10 :: t)) = (c :: r).take (sgn (c :: r)) := by
  rw [sgn_nl]
  cases r with
  | nil => rfl
  | cons d r =>
    rw [List.take_append_of_le_length]
    have := sgn_range (c :: d :: r)
    simp; omega
theorem cls6 : ∀ c : Fin 256, (clsI (c.val : Int) = 6 ↔ c.val = 39) := by decide +kernel
theorem cls_quote {c : UInt8} : cls c = 6 ↔ c = 39 := by
  rw [show cls c = clsI ((⟨c.toNat, c.toNat_lt⟩ : Fin 256).val : Int) from rfl, cls6]
  exact ⟨fun h => UInt8.toNat_inj.1 h, fun h => by rw [h]; rfl⟩
/-- A line's end behind a source changes no token of it. -/
theorem tok_join (c : UInt8) (r t : List UInt8) : tokL (c :: r ++ 10 :: t) = tokL (c :: r) := by
  show tokL (c :: (r ++ 10 :: t)) = _
  have e1 : runL (c :: (r ++ 10 :: t)) = runL (c :: r) := runL_app nl_run t (c :: r)
  have e2 := runL_app nl_run t r
  have e3 : (c :: (r ++ 10 :: t)).take (sgn (c :: (r ++ 10 :: t))) = (c :: r).take (sgn (c :: r)) := take_sgn c r t
  have e4 : cls c = 6 → ((qend (r ++ 10 :: t)).bind fun n => (litL ((c :: (r ++ 10 :: t)).take (1 + n))).map fun t => (t, 1 + n)) = ((qend r).bind fun n => (litL ((c :: r).take (1 + n))).map fun t => (t, 1 + n)) := fun h6 => by
    obtain rfl := cls_quote.1 h6
    cases hq : qend r with
    | some n =>
      have := qend_le _ _ (Nat.le_refl _) n hq
      rw [qend_app (by decide) t _ r (Nat.le_refl _) n hq, some_bind, some_bind]
      rw [show (39 :: (r ++ 10 :: t) : List UInt8) = 39 :: r ++ 10 :: t from rfl, List.take_append_of_le_length (by rw [List.length_cons]; omega)]
    | none =>
      cases hq2 : qend (r ++ 10 :: t) with
      | none => rfl
      | some n =>
        have hf := qend_far (by decide) t _ r (Nat.le_refl _) hq n hq2
        rw [some_bind, show (none : Option Nat).bind _ = (none : Option (List UInt8 × Nat)) from rfl]
        rw [show 1 + n = n + 1 by omega, List.take_succ_cons, lit_ctl (b := 10) ?_ (by decide)]
        · rfl
        · obtain ⟨m, rfl⟩ : ∃ m, n = r.length + (m + 1) := ⟨n - r.length - 1, by omega⟩
          rw [List.take_append]
          apply List.mem_append_right
          rw [show r.length + (m + 1) - r.length = m + 1 by omega, List.take_succ_cons]
          exact List.mem_cons_self
  rw [tokL, tokL, e1, e2, e3]
  by_cases h6 : cls c = 6
  · rw [e4 h6]
  · simp only [if_neg h6]
theorem rem_join (c : UInt8) (r t : List UInt8) : isRem (c :: r ++ 10 :: t) = isRem (c :: r) := by
  unfold isRem
  cases r with
  | nil => simp [List.isPrefixOf]
  | cons d r => rfl
end Go.Proofs.YtllehkjebikgpaaDoor.PS
