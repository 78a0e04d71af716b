/- DiskArmed: the plain law and the walk; no conditions beyond those in each theorem's head. -/
import Derived.Test.YtakhnkkcllfbjaaDoorED
import Derived.Test.YtakhnkkcllfbjaaDoorG2
import Derived.Test.YtakhnkkcllfbjaaDoorW4
import Derived.Test.YtakhnkkcllfbjaaDoorOB
namespace Go.Proofs.YtakhnkkcllfbjaaDoorX
open Go.RowKit Go.Proofs.YtakhnkkcllfbjaaDoorW.PrintWords Go.Proofs.YtakhnkkcllfbjaaDoorW.PrintLast Go.Proofs.YtakhnkkcllfbjaaDoorW.PrintMore
open Go.Proofs.YtakhnkkcllfbjaaDoor.PA (S37 k37 S51 k51 z51 rd_T51 at_T51 eqA37 k37_open unisonlaw04_weighs.calls)
attribute [local go_sem high] eqA37
set_option linter.unusedVariables false
set_option linter.unusedSimpArgs false
/-- A step of a disk: refused, down, fallen, done. -/
def Stp (D : AD) (E : AD × Int) : Prop :=
  (E.2 ≠ 0 ∧ E.2 ≠ 3 ∧ D.down = false ∧ E.1 = D) ∨ (E.2 = 3 ∧ D.down = true ∧ E.1 = D) ∨ (E.2 = 3 ∧ D.down = false ∧ D.armed = 0 ∧ E.1 = D.fall) ∨
    (E.2 = 0 ∧ D.down = false ∧ D.armed ≠ 0 ∧ E.1.down = false ∧ E.1.armed = D.tick.armed ∧ E.1.steps = D.tick.steps)
theorem findE_val (D : AD) (x : Nm) : (D.findE x = 3 ∧ D.down = true) ∨ (D.down = false ∧ (D.findE x = 0 ∨ D.findE x = 40 ∨ D.findE x = 41)) := by
  unfold AD.findE
  cases hd : D.down with
  | true => exact .inl ⟨if_pos rfl, rfl⟩
  | false =>
    refine .inr ⟨rfl, ?_⟩
    rw [if_neg (by decide)]
    split
    · exact .inr (.inl rfl)
    · split
      · exact .inr (.inr rfl)
      · exact .inl rfl
theorem stp_step {D : AD} (hd : D.down = false) (L : List AF) : Stp D (if D.armed = 0 then (D.fall, 3) else ({ D.tick with L := L }, 0)) := by
  by_cases h0 : D.armed = 0
  · rw [if_pos h0]; exact .inr (.inr (.inl ⟨rfl, hd, h0, rfl⟩))
  · rw [if_neg h0]; exact .inr (.inr (.inr ⟨rfl, hd, h0, hd, rfl, rfl⟩))
theorem append_stp (D : AD) (x : Nm) (s : ByteArray) : Stp D (D.append x s) := by
  unfold AD.append
  rcases findE_val D x with ⟨h3, hd⟩ | ⟨hd, h⟩
  · rw [if_pos (.inl h3)]; exact .inr (.inl ⟨h3, hd, rfl⟩)
  · by_cases h40 : D.findE x = 40
    · rw [if_pos (.inr h40)]; exact .inl ⟨by show D.findE x ≠ 0; rw [h40]; decide, by show D.findE x ≠ 3; rw [h40]; decide, hd, rfl⟩
    · rw [if_neg (by rintro (h9 | h9); · rcases h with h | h | h <;> rw [h] at h9 <;> exact absurd h9 (by decide)
                     · exact h40 h9)]
      split
      · exact .inl ⟨by show (42 : Int) ≠ 0; decide, by show (42 : Int) ≠ 3; decide, hd, rfl⟩
      · exact stp_step hd _
theorem find_stp {D : AD} {e : Int} (he : (e = 3 ∧ D.down = true) ∨ (D.down = false ∧ (e = 0 ∨ e = 40 ∨ e = 41))) (L : List AF) : Stp D (if e ≠ 0 then (D, e) else if D.armed = 0 then (D.fall, 3) else ({ D.tick with L := L }, 0)) := by
  rcases he with ⟨h3, hd⟩ | ⟨hd, h⟩
  · rw [if_pos (by rw [h3]; decide)]; exact .inr (.inl ⟨h3, hd, rfl⟩)
  · rcases h with h | h | h
    · rw [if_neg (by rw [h]; decide)]; exact stp_step hd _
    · rw [if_pos (by rw [h]; decide)]; exact .inl ⟨by show e ≠ 0; rw [h]; decide, by show e ≠ 3; rw [h]; decide, hd, rfl⟩
    · rw [if_pos (by rw [h]; decide)]; exact .inl ⟨by show e ≠ 0; rw [h]; decide, by show e ≠ 3; rw [h]; decide, hd, rfl⟩
theorem rename_stp (D : AD) (x y : Nm) : Stp D (D.rename x y) := by
  unfold AD.rename
  refine find_stp ?_ _
  unfold AD.renE
  rcases findE_val D x with ⟨h3, hd⟩ | ⟨hd, h⟩
  · rw [if_neg (fun hh => hh.1 h3)]; exact .inl ⟨h3, hd⟩
  · refine .inr ⟨hd, ?_⟩
    split
    · exact .inr (.inl rfl)
    · exact h
theorem goes_stp (D : AD) (x : S51) : (1 ≤ x.f0 ∧ x.f0 ≤ 4 ∧ Stp D (D.goes x)) ∨ (¬ (1 ≤ x.f0 ∧ x.f0 ≤ 4) ∧ D.goes x = (D, 1)) := by
  unfold AD.goes
  by_cases h1 : x.f0 = 1
  · rw [if_pos h1]; exact .inl ⟨by omega, by omega, append_stp _ _ _⟩
  rw [if_neg h1]
  by_cases h2 : x.f0 = 2
  · rw [if_pos h2]; exact .inl ⟨by omega, by omega, find_stp (findE_val _ _) _⟩
  rw [if_neg h2]
  by_cases h3 : x.f0 = 3
  · rw [if_pos h3]; exact .inl ⟨by omega, by omega, rename_stp _ _ _⟩
  rw [if_neg h3]
  by_cases h4 : x.f0 = 4
  · rw [if_pos h4]; exact .inl ⟨by omega, by omega, find_stp (findE_val _ _) _⟩
  rw [if_neg h4]
  exact .inr ⟨by omega, rfl⟩
/-- How an armed disk stands after some of a script. -/
def ArmAt (armed : Int) (D : AD) (done : Int) (i : Nat) : Prop :=
  D.steps = done ∧ 0 ≤ done ∧ done ≤ i ∧ ((armed = -1 ∧ D.down = false ∧ D.armed = -1) ∨ (0 ≤ armed ∧ 0 ≤ D.armed ∧ D.armed + done = armed ∧ (D.down = true → D.armed = 0)))
/-- What one of a script does to it. -/
theorem arm_goes {armed : Int} {D : AD} {done : Int} {i : Nat} (h : ArmAt armed D done i) (hi : (i : Int) < 1000000000000000000) (x : S51) :
    (D.down = false ∧ (D.goes x).2 = 0 ∧ (D.goes x).1.down = false ∧ (armed < 0 ∨ done + 1 ≤ armed) ∧ ArmAt armed (D.goes x).1 (done + 1) (i + 1)) ∨
    (D.down = false ∧ (D.goes x).2 = 3 ∧ (D.goes x).1.down = true ∧ done = armed ∧ ArmAt armed (D.goes x).1 done (i + 1)) ∨
    (D.down = false ∧ (D.goes x).2 ≠ 0 ∧ (D.goes x).2 ≠ 3 ∧ (D.goes x).1.down = false ∧ (armed < 0 ∨ done ≤ armed) ∧ ArmAt armed (D.goes x).1 done (i + 1)) ∨
    (D.down = true ∧ (D.goes x).2 = 3 ∧ (D.goes x).1.down = true ∧ done = armed ∧ ArmAt armed (D.goes x).1 done (i + 1)) ∨
    (D.down = true ∧ (D.goes x).2 = 1 ∧ (D.goes x).1.down = true ∧ done = armed ∧ ¬ (1 ≤ x.f0 ∧ x.f0 ≤ 4) ∧ ArmAt armed (D.goes x).1 done (i + 1)) := by
  obtain ⟨hs, h0, h1, h2⟩ := h
  rcases goes_stp D x with ⟨_, _, hst⟩ | ⟨hno, he⟩
  · rcases hst with ⟨g0, g3, hd, hE⟩ | ⟨g3, hd, hE⟩ | ⟨g3, hd, ha, hE⟩ | ⟨g0, hd, ha, hd', ha', hs'⟩
    · refine .inr (.inr (.inl ⟨hd, g0, g3, by rw [hE]; exact hd, by rcases h2 with h2 | h2 <;> omega, ?_⟩))
      rw [hE]
      exact ⟨hs, h0, by omega, h2⟩
    · have e1 : done = armed := by
        rcases h2 with ⟨_, h2, _⟩ | ⟨_, _, h3, h4⟩
        · rw [hd] at h2; cases h2
        · have := h4 hd; omega
      refine .inr (.inr (.inr (.inl ⟨hd, g3, by rw [hE]; exact hd, e1, ?_⟩)))
      rw [hE]
      exact ⟨hs, h0, by omega, h2⟩
    · rcases h2 with ⟨_, _, h5⟩ | ⟨h5, h6, h7, h8⟩
      · omega
      · refine .inr (.inl ⟨hd, g3, by rw [hE]; rfl, by omega, ?_⟩)
        rw [hE]
        exact ⟨hs, h0, by omega, .inr ⟨h5, h6, h7, fun _ => ha⟩⟩
    · have e2 : (D.goes x).1.steps = done + 1 := by
        rw [hs']
        show wrap64 (D.steps + 1) = _
        rw [hs, w64 (by omega) (by omega)]
      rcases h2 with ⟨h5, _, h6⟩ | ⟨h5, h6, h7, h8⟩
      · refine .inl ⟨hd, g0, hd', .inl (by omega), e2, by omega, by omega, .inl ⟨h5, hd', ?_⟩⟩
        rw [ha']
        show (if 0 < D.armed then D.armed - 1 else D.armed) = -1
        rw [if_neg (by omega)]
        exact h6
      · have e3 : (D.goes x).1.armed = D.armed - 1 := by
          rw [ha']
          show (if 0 < D.armed then D.armed - 1 else D.armed) = _
          rw [if_pos (by omega)]
        refine .inl ⟨hd, g0, hd', .inr (by omega), e2, by omega, by omega, .inr ⟨h5, by omega, by omega, fun hh => ?_⟩⟩
        rw [hd'] at hh
        cases hh
  · have e1 : (D.goes x).1 = D := by rw [he]
    have e2 : (D.goes x).2 = 1 := by rw [he]
    cases hd : D.down with
    | false =>
      refine .inr (.inr (.inl ⟨rfl, by rw [e2]; decide, by rw [e2]; decide, by rw [e1]; exact hd, by rcases h2 with h2 | h2 <;> omega, ?_⟩))
      rw [e1]
      exact ⟨hs, h0, by omega, h2⟩
    | true =>
      have e3 : done = armed := by
        rcases h2 with ⟨_, h2, _⟩ | ⟨_, _, h3, h4⟩
        · rw [hd] at h2; cases h2
        · have := h4 hd; omega
      refine .inr (.inr (.inr (.inr ⟨rfl, e2, by rw [e1]; exact hd, e3, hno, ?_⟩)))
      rw [e1]
      exact ⟨hs, h0, by omega, h2⟩
theorem arm_start {armed : Int} (h : -1 ≤ armed) : ((AD.fresh 1048576 []).arm armed).2 = 0 ∧ ArmAt armed ((AD.fresh 1048576 []).arm armed).1 0 0 := by
  unfold AD.arm
  rw [if_neg (by omega), if_neg (by show ¬ false = true; decide)]
  refine ⟨rfl, rfl, by omega, by omega, ?_⟩
  by_cases h0 : armed < 0
  · have : armed = -1 := by omega
    subst this
    exact .inl ⟨rfl, rfl, rfl⟩
  · exact .inr ⟨by omega, by show 0 ≤ armed; omega, by show armed + 0 = armed; omega, fun hh => by cases hh⟩
theorem arm_bad {armed : Int} (h : armed < -1) : ((AD.fresh 1048576 []).arm armed).2 = 1 := by
  unfold AD.arm
  rw [if_pos h]
theorem crash_append {D : AD} (hok : D.Ok) (hl : D.L.length < 64) : ((D.crash []).append [122] ⟨#[]⟩).2 = 0 ∧ ((D.crash []).append [122] ⟨#[]⟩).1.steps = wrap64 (D.steps + 1) := by
  have hc := hok.crash []
  have e3 : (D.crash []).findE [122] ≠ 3 := by
    rcases findE_val (D.crash []) [122] with ⟨_, h⟩ | ⟨_, h | h | h⟩
    · exact absurd (show (D.crash []).down = true from h) (by show ¬ false = true; decide)
    all_goals rw [h]; decide
  have e40 : (D.crash []).findE [122] ≠ 40 := by
    unfold AD.findE
    rw [if_neg (by show ¬ false = true; decide), if_neg (by decide)]
    split <;> decide
  have hfree : ¬ ((D.crash []).free < ((⟨#[]⟩ : ByteArray).size : Int) ∨ (findL [122] (D.crash []).L = none ∧ (D.crash []).L.length = 64)) := by
    rintro (h | ⟨_, h⟩)
    · have h1 := hc.used
      have h2 : (D.crash []).free = (D.crash []).size - (D.crash []).used := rfl
      have h3 : (((⟨#[]⟩ : ByteArray).size : Nat) : Int) = 0 := rfl
      rw [h2, h3] at h
      omega
    · rw [show (D.crash []).L = crashL D.L [] from rfl, crashL_length] at h
      omega
  unfold AD.append
  rw [if_neg (by rintro (h | h); · exact e3 h
                 · exact e40 h), if_neg hfree, if_neg (show ¬ (D.crash []).armed = 0 from by show ¬ (-1 : Int) = 0; decide)]
  exact ⟨rfl, rfl⟩
theorem op_at {w : World} {A : Option Addr} {n : Nat} {xs : List S51} (h : Kd.C k51 w A n xs) {i : Nat} {x : S51} (hi : xs[i]? = some x) : ∃ ad A5 c5, A = some ad ∧ w.cell? (ad.add (i * 6)) = some (.int .i64 x.f0) ∧ w.cell? ⟨(ad.add (i * 6)).block, (ad.add (i * 6)).off + 1, none⟩ = some (.string x.f1) ∧ w.cell? ⟨(ad.add (i * 6)).block, (ad.add (i * 6)).off + 2, none⟩ = some (.string x.f2) ∧ w.cell? ⟨(ad.add (i * 6)).block, (ad.add (i * 6)).off + 3, none⟩ = some (.string x.f3) ∧ w.cell? ⟨(ad.add (i * 6)).block, (ad.add (i * 6)).off + 4, none⟩ = some (.int .i64 x.f4) ∧ w.cell? ⟨(ad.add (i * 6)).block, (ad.add (i * 6)).off + 5, none⟩ = some (.slice A5 x.f5.length c5) ∧ x.f5.length ≤ c5 ∧ (Kd.int .i64).C w A5 x.f5.length x.f5 := by
  have hl := (List.getElem?_eq_some_iff.1 hi).1
  have hx : rd_T51 xs (i : Int) = x := by
    show xs.getD (i : Int).toNat z51 = x
    rw [Int.toNat_natCast, List.getD_eq_getElem?_getD, hi]
    rfl
  have := at_T51 h (i : Int) (by omega) (by have := h.1; omega)
  rw [hx, Int.toNat_natCast] at this
  exact this
end Go.Proofs.YtakhnkkcllfbjaaDoorX
