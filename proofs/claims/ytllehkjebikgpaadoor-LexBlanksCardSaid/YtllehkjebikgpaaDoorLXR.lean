/- What holds of all that Scan tells: places, the end, another beginning; no program's steps in sight; no conditions beyond those in each theorem's head. -/
import Derived.Test.YtllehkjebikgpaaDoorLXB
namespace Go.Proofs.YtllehkjebikgpaaDoor.PS
open Go.RowKit Go.Proofs.YtllehkjebikgpaaDoorSh Go.Proofs.YtllehkjebikgpaaDoorW.PrintWords Go.Proofs.YtllehkjebikgpaaDoorW.PrintLast Go.Proofs.YtllehkjebikgpaaDoorW.PrintMore Go.Proofs.YtllehkjebikgpaaDoorX Go.Proofs.YtllehkjebikgpaaDoorL Go.Proofs.YtllehkjebikgpaaDoor.PA
set_option linter.unusedVariables false
set_option linter.unusedSimpArgs false

theorem run_at {l : List UInt8} {i : Nat} {ts : List S29} {e : Option (Nat × Int)} (h : Run l i ts e) : ∀ t ∈ ts, (i : Int) ≤ t.f3 ∧ t.f3 ≤ (i : Int) + (l.length : Int) := by
  induction h with
  | fin i =>
    intro t ht
    rcases List.mem_cons.1 ht with rfl | ht
    · show (i : Int) ≤ (i : Int) ∧ (i : Int) ≤ (i : Int) + 0; omega
    · cases ht
  | blank h hr ih =>
    intro t ht
    have := ih t ht
    rw [List.length_cons]; omega
  | @rem l i ts e h hr ih =>
    intro t ht
    have := ih t ht
    have := remN_le l
    rw [List.length_drop] at *
    omega
  | bad h hm he => intro t ht; cases ht
  | @tok c r i ts e h hm he hr ih =>
    intro t ht
    have hz := tok_size c r he
    rcases List.mem_cons.1 ht with rfl | ht
    · show (i : Int) ≤ (i : Int) ∧ (i : Int) ≤ _; omega
    · have := ih t ht
      rw [List.length_drop, List.length_cons] at this
      rw [List.length_cons]; omega
theorem run_err {l : List UInt8} {i : Nat} {ts : List S29} {e : Option (Nat × Int)} (h : Run l i ts e) : ∀ n x, e = some (n, x) → i ≤ n ∧ n ≤ i + l.length ∧ x ≠ 0 := by
  induction h with
  | fin i => intro n x e; cases e
  | blank h hr ih =>
    intro n x e
    have := ih n x e
    rw [List.length_cons]; omega
  | @rem l i ts e h hr ih =>
    intro n x e
    have := ih n x e
    have := remN_le l
    rw [List.length_drop] at *
    omega
  | bad h hm he => intro n x e; cases e; exact ⟨Nat.le_refl _, by omega, he⟩
  | @tok c r i ts e h hm he hr ih =>
    intro n x ee
    have hz := tok_size c r he
    have := ih n x ee
    rw [List.length_drop, List.length_cons] at this
    rw [List.length_cons]; omega
theorem run_ne {l : List UInt8} {i : Nat} {ts : List S29} {e : Option (Nat × Int)} (h : Run l i ts e) : e = none → ts ≠ [] := by
  induction h with
  | fin i => intro _ h; cases h
  | blank h hr ih => exact ih
  | rem h hr ih => exact ih
  | bad h hm he => intro e; cases e
  | tok h hm he hr ih => intro _ h; cases h
def sh (d : Nat) (t : S29) : S29 := ⟨t.f0, t.f1, t.f2, t.f3 + (d : Int)⟩
theorem sh_mk (t : Int × Int × List UInt8) (i d : Nat) : sh d (mkT t i) = mkT t (i + d) := by
  unfold sh mkT
  simp
theorem run_shift {l : List UInt8} {i : Nat} {ts : List S29} {e : Option (Nat × Int)} (h : Run l i ts e) (d : Nat) : Run l (i + d) (ts.map (sh d)) (e.map fun p => (p.1 + d, p.2)) := by
  induction h with
  | fin i =>
    have : [endT i].map (sh d) = [endT (i + d)] := by simp [sh, endT]
    rw [this]; exact .fin _
  | @blank c r i ts e h hr ih => exact .blank h (by rw [show i + d + 1 = i + 1 + d by omega]; exact ih)
  | @rem l i ts e h hr ih => exact .rem h (by rw [show i + d + remN l = i + remN l + d by omega]; exact ih)
  | bad h hm he => exact .bad h hm he
  | @tok c r i ts e h hm he hr ih =>
    rw [List.map_cons, sh_mk]
    exact .tok h hm he (by rw [show i + d + (tokL (c :: r)).2.1 = i + (tokL (c :: r)).2.1 + d by omega]; exact ih)

/-! ### two sources, a line's end between them -/
theorem cls_nl : cls 10 = 1 := by decide +kernel
theorem remN_app (t : List UInt8) : ∀ l : List UInt8, remN (l ++ 10 :: t) = remN l
  | [] => by unfold remN; simp
  | c :: l => by
    have ih := remN_app t l
    unfold remN at ih ⊢
    rw [List.cons_append, List.takeWhile_cons, List.takeWhile_cons]
    split
    · rw [List.length_cons, List.length_cons, ih]
    · rfl
def jT (ts us : List S29) : Option (Nat × Int) → List S29
  | none => ts.dropLast ++ us
  | some _ => ts
def jE (e' : Option (Nat × Int)) : Option (Nat × Int) → Option (Nat × Int)
  | none => e'
  | some x => some x
theorem join_run {l : List UInt8} {i : Nat} {ts : List S29} {e : Option (Nat × Int)} (h : Run l i ts e) : ∀ (t : List UInt8) (us : List S29) (e' : Option (Nat × Int)), Run t (i + l.length + 1) us e' → Run (l ++ 10 :: t) i (jT ts us e) (jE e' e) := by
  induction h with
  | fin i => intro t us e' ht; exact .blank cls_nl ht
  | @blank c r i ts e h hr ih =>
    intro t us e' ht
    exact .blank h (ih t us e' (by rw [List.length_cons] at ht; rw [show i + 1 + r.length + 1 = i + (r.length + 1) + 1 by omega]; exact ht))
  | @rem l i ts e h hr ih =>
    intro t us e' ht
    have hle := remN_le l
    have hp := rem_pos h
    match l, h, hr, ih, ht, hle, hp with
    | [], _, _, _, _, _, hp => exact absurd hp (by decide)
    | c :: r, h, hr, ih, ht, hle, hp =>
      refine .rem (by rw [rem_join]; exact h) ?_
      rw [remN_app, List.drop_append_of_le_length hle]
      exact ih t us e' (by rw [List.length_drop, show i + remN (c :: r) + ((c :: r).length - remN (c :: r)) + 1 = i + (c :: r).length + 1 by omega]; exact ht)
  | @bad c r i h hm he =>
    intro t us e' ht
    have ej := tok_join c r t
    have := Run.bad (i := i) (r := r ++ 10 :: t) h (by rw [show c :: (r ++ 10 :: t) = c :: r ++ 10 :: t from rfl, rem_join]; exact hm) (by rw [show c :: (r ++ 10 :: t) = c :: r ++ 10 :: t from rfl, ej]; exact he)
    rw [show c :: (r ++ 10 :: t) = c :: r ++ 10 :: t from rfl, ej] at this
    exact this
  | @tok c r i ts e h hm he hr ih =>
    intro t us e' ht
    have ej := tok_join c r t
    have hz := tok_size c r he
    rw [List.length_cons] at ht
    have hI := ih t us e' (by rw [List.length_drop, List.length_cons, show i + (tokL (c :: r)).2.1 + (r.length + 1 - (tokL (c :: r)).2.1) + 1 = i + (r.length + 1) + 1 by omega]; exact ht)
    have := Run.tok (i := i) (r := r ++ 10 :: t) (ts := jT ts us e) (e := jE e' e) h (by rw [show c :: (r ++ 10 :: t) = c :: r ++ 10 :: t from rfl, rem_join]; exact hm) (by rw [show c :: (r ++ 10 :: t) = c :: r ++ 10 :: t from rfl, ej]; exact he)
      (by rw [show c :: (r ++ 10 :: t) = c :: r ++ 10 :: t from rfl, ej, List.drop_append_of_le_length (by rw [List.length_cons]; exact hz.2)]; exact hI)
    rw [show c :: (r ++ 10 :: t) = c :: r ++ 10 :: t from rfl, ej] at this
    have ek : jT (mkT (tokL (c :: r)).1 i :: ts) us e = mkT (tokL (c :: r)).1 i :: jT ts us e := by
      cases e with
      | some x => rfl
      | none =>
        have hne := run_ne hr rfl
        unfold jT
        rw [List.dropLast_cons_of_ne_nil hne]; rfl
    rw [ek]; exact this
end Go.Proofs.YtllehkjebikgpaaDoor.PS
