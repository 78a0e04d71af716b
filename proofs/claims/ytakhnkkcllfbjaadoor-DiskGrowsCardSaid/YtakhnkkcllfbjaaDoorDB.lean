/- What each call does to a disk, in plain words, and that the disk stays in order; no conditions beyond those in each theorem's head. -/
import Derived.Test.YtakhnkkcllfbjaaDoorDA
namespace Go.Proofs.YtakhnkkcllfbjaaDoorX
open Go.RowKit
set_option linter.unusedVariables false
set_option linter.unusedSimpArgs false

def AD.findE (d : AD) (x : Nm) : Int := if d.down = true then 3 else if named x = false then 40 else if (findL x d.L).isNone = true then 41 else 0
def AD.fall (d : AD) : AD := { d with down := true }
def AD.tick (d : AD) : AD := { d with armed := if 0 < d.armed then d.armed - 1 else d.armed, steps := wrap64 (d.steps + 1) }
def AD.putL (d : AD) (x : Nm) (s : ByteArray) : List AF := match findL x d.L with
  | none => insL ⟨x, s, 0⟩ d.L
  | some _ => updL x (fun f => { f with data := f.data ++ s }) d.L
def AD.append (d : AD) (x : Nm) (s : ByteArray) : AD × Int :=
  if d.findE x = 3 ∨ d.findE x = 40 then (d, d.findE x)
  else if d.free < (s.size : Int) ∨ (findL x d.L = none ∧ d.L.length = 64) then (d, 42)
  else if d.armed = 0 then (d.fall, 3)
  else ({ d.tick with L := d.putL x s }, 0)
def safeF (f : AF) : AF := { f with safe := f.data.size }
def AD.sync (d : AD) (x : Nm) : AD × Int :=
  if d.findE x ≠ 0 then (d, d.findE x)
  else if d.armed = 0 then (d.fall, 3)
  else ({ d.tick with L := updL x safeF d.L }, 0)
def AD.renE (d : AD) (x y : Nm) : Int := if d.findE x ≠ 3 ∧ named y = false then 40 else d.findE x
def AD.renL (d : AD) (x y : Nm) : List AF := if x = y then d.L else match findL x d.L with
  | none => d.L
  | some f => insL { f with name := y } (delL x (delL y d.L))
def AD.rename (d : AD) (x y : Nm) : AD × Int :=
  if d.renE x y ≠ 0 then (d, d.renE x y)
  else if d.armed = 0 then (d.fall, 3)
  else ({ d.tick with L := d.renL x y }, 0)
def AD.remove (d : AD) (x : Nm) : AD × Int :=
  if d.findE x ≠ 0 then (d, d.findE x)
  else if d.armed = 0 then (d.fall, 3)
  else ({ d.tick with L := delL x d.L }, 0)
def AD.arm (d : AD) (n : Int) : AD × Int :=
  if n < -1 then (d, 1) else if d.down = true then (d, 3) else ({ d with armed := n }, 0)
def keepN (ks : List Int) (tail : Int) : Int := match ks with
  | [] => 0
  | k :: _ => min (max k 0) tail
def cutF (f : AF) (n : Int) : AF := { f with data := f.data.extract 0 (f.safe + n).toNat, safe := f.safe + n }
def crashL : List AF → List Int → List AF
  | [], _ => []
  | f :: r, ks => if f.safe < (f.data.size : Int) then cutF f (keepN ks (f.data.size - f.safe)) :: crashL r ks.tail else safeF f :: crashL r ks
def AD.crash (d : AD) (ks : List Int) : AD := { d with L := crashL d.L ks, down := false, armed := -1 }
def AD.read (d : AD) (x : Nm) : ByteArray × Int := if d.findE x ≠ 0 then (⟨#[]⟩, d.findE x) else match findL x d.L with
  | none => (⟨#[]⟩, 0)
  | some f => (f.data, 0)
/-- a new disk: the files one by one -/
def AD.fresh (size : Int) (L : List AF) : AD := { size := size, armed := -1, down := false, steps := 0, L := L }

theorem findE_ok {d : AD} {x : Nm} (h : d.findE x = 0) : d.down = false ∧ named x = true ∧ ∃ f, findL x d.L = some f := by
  unfold AD.findE at h
  split at h
  · cases h
  · split at h
    · cases h
    · split at h
      · cases h
      · rename_i h1 h2 h3
        refine ⟨by simpa using h1, by simpa using h2, ?_⟩
        cases hf : findL x d.L with
        | none => simp [hf] at h3
        | some f => exact ⟨f, rfl⟩
theorem findE_cases {d : AD} {x : Nm} (h3 : d.findE x ≠ 3) (h40 : d.findE x ≠ 40) : d.down = false ∧ named x = true := by
  unfold AD.findE at h3 h40
  split at h3
  · exact absurd rfl h3
  · rename_i h1
    rw [if_neg h1] at h40
    split at h40
    · exact absurd rfl h40
    · rename_i h2
      exact ⟨by simpa using h1, by simpa using h2⟩

theorem wrap_b (x : Int) : -9223372036854775808 ≤ wrap64 x ∧ wrap64 x ≤ 9223372036854775807 := by unfold wrap64; omega
theorem AD.Ok.fall {d : AD} (h : d.Ok) : d.fall.Ok := ⟨h.size0, h.size1, h.used, h.many, h.rising, h.safe, h.named, h.armed0, h.armed1, h.steps0, h.steps1⟩
theorem AD.Ok.tick {d : AD} (h : d.Ok) {L : List AF} (hu : (totL L : Int) ≤ d.size) (hm : L.length ≤ 64) (hr : Rising L) (hs : ∀ f ∈ L, 0 ≤ f.safe ∧ f.safe ≤ f.data.size) (hn : ∀ f ∈ L, Go.Proofs.YtakhnkkcllfbjaaDoorX.named f.name = true) :
    ({ d.tick with L := L } : AD).Ok := by
  have a0 := h.armed0
  have a1 := h.armed1
  refine ⟨h.size0, h.size1, hu, hm, hr, hs, hn, ?_, ?_, (wrap_b _).1, (wrap_b _).2⟩
  · show -1 ≤ (if 0 < d.armed then d.armed - 1 else d.armed); split <;> omega
  · show (if 0 < d.armed then d.armed - 1 else d.armed) ≤ _; split <;> omega
theorem tick_self (d : AD) : ({ d.tick with L := d.L } : AD) = d.tick := rfl
theorem appendOk {d : AD} (h : d.Ok) {x : Nm} (hx : named x = true) {s : ByteArray} (h1 : ¬ (d.free < (s.size : Int) ∨ (findL x d.L = none ∧ d.L.length = 64))) : ({ d.tick with L := d.putL x s } : AD).Ok := by
  have hu := h.used
  have hf : (s.size : Int) ≤ d.size - d.used := by
    have : ¬ d.free < (s.size : Int) := fun k => h1 (.inl k)
    unfold AD.free at this
    omega
  unfold AD.used at hu hf
  unfold AD.putL
  split
  · rename_i hn
    have hn' := findL_none.1 hn
    have hm : d.L.length ≠ 64 := fun k => h1 (.inr ⟨hn, k⟩)
    have := h.many
    refine h.tick ?_ (by rw [insL_length]; omega) (insL_rising h.rising hn') (fun f hf2 => ?_) (fun f hf2 => ?_)
    · rw [insL_tot]
      show ((totL d.L + s.size : Nat) : Int) ≤ _
      omega
    · rcases mem_insL.1 hf2 with rfl | h2
      · exact ⟨Int.le_refl _, by simp⟩
      · exact h.safe f h2
    · rcases mem_insL.1 hf2 with rfl | h2
      · exact hx
      · exact h.named f h2
  · rename_i f hf0
    have ht := updL_tot (g := fun f => { f with data := f.data ++ s }) h.rising hf0
    have hsz : (f.data ++ s).size = f.data.size + s.size := ByteArray.size_append
    simp only [hsz] at ht
    refine h.tick (by omega) (by rw [updL_length]; exact h.many) (updL_rising (g := fun f => { f with data := f.data ++ s }) (fun _ => rfl) h.rising) (fun q hq => ?_) (fun q hq => ?_)
    · rcases mem_updL hq with ⟨g, hg, _, rfl⟩ | ⟨hg, _⟩
      · have := h.safe g hg
        refine ⟨this.1, ?_⟩
        show g.safe ≤ ((g.data ++ s).size : Int)
        rw [ByteArray.size_append]
        omega
      · exact h.safe q hg
    · rcases mem_updL hq with ⟨g, hg, _, rfl⟩ | ⟨hg, _⟩
      · exact h.named g hg
      · exact h.named q hg
theorem AD.Ok.append {d : AD} (h : d.Ok) (x : Nm) (s : ByteArray) : (d.append x s).1.Ok := by
  unfold AD.append
  split
  · exact h
  · rename_i h0
    split
    · exact h
    · rename_i h1
      split
      · exact h.fall
      · exact appendOk h (findE_cases (fun k => h0 (.inl k)) (fun k => h0 (.inr k))).2 h1
theorem AD.Ok.sync {d : AD} (h : d.Ok) (x : Nm) : (d.sync x).1.Ok := by
  unfold AD.sync
  split
  · exact h
  · split
    · exact h.fall
    · rename_i h0 _
      obtain ⟨_, _, f, hf⟩ := findE_ok (Decidable.not_not.1 h0)
      have ht := updL_tot (g := safeF) h.rising hf
      have hu := h.used
      unfold AD.used at hu
      refine h.tick (by simp only [safeF] at ht; omega) (by rw [updL_length]; exact h.many) (updL_rising (g := safeF) (fun _ => rfl) h.rising) (fun q hq => ?_) (fun q hq => ?_)
      · rcases mem_updL hq with ⟨g, hg, _, rfl⟩ | ⟨hg, _⟩
        · exact ⟨by simp [safeF], by simp [safeF]⟩
        · exact h.safe q hg
      · rcases mem_updL hq with ⟨g, hg, _, rfl⟩ | ⟨hg, _⟩
        · exact h.named g hg
        · exact h.named q hg
theorem delL_tot_le (x : Nm) : ∀ L : List AF, totL (delL x L) ≤ totL L
  | [] => Nat.le_refl _
  | f :: r => by
    unfold delL
    have := delL_tot_le x r
    split <;> simp only [totL] <;> omega
theorem removeOk {d : AD} (h : d.Ok) (x : Nm) : ({ d.tick with L := delL x d.L } : AD).Ok := by
  have hu := h.used
  unfold AD.used at hu
  have := delL_tot_le x d.L
  exact h.tick (by omega) (Nat.le_trans (delL_sub x d.L).length_le h.many) (delL_rising h.rising) (fun q hq => h.safe q (mem_delL.1 hq).1) (fun q hq => h.named q (mem_delL.1 hq).1)
theorem AD.Ok.remove {d : AD} (h : d.Ok) (x : Nm) : (d.remove x).1.Ok := by
  unfold AD.remove
  split
  · exact h
  · split
    · exact h.fall
    · exact removeOk h x
theorem renL_Ok {d : AD} (h : d.Ok) {x y : Nm} (hy : named y = true) : ({ d.tick with L := d.renL x y } : AD).Ok := by
  have hu := h.used
  unfold AD.used at hu
  unfold AD.renL
  split
  · exact h.tick hu h.many h.rising h.safe h.named
  · rename_i hne
    split
    · exact h.tick hu h.many h.rising h.safe h.named
    · rename_i f hf
      have hmem := (findL_name hf).2
      have hf2 : findL x (delL y d.L) = some f := by rw [findL_delL, if_neg hne, hf]
      have ht := delL_tot (delL_rising h.rising) hf2
      have hl := delL_length (delL_rising h.rising) hf2
      have h3 := delL_tot_le y d.L
      have h4 := (delL_sub y d.L).length_le
      have h5 := h.many
      refine h.tick ?_ (by rw [insL_length]; omega) (insL_rising (delL_rising (delL_rising h.rising)) (fun q hq => (mem_delL.1 (mem_delL.1 hq).1).2)) (fun q hq => ?_) (fun q hq => ?_)
      · rw [insL_tot]
        show ((totL (delL x (delL y d.L)) + f.data.size : Nat) : Int) ≤ _
        omega
      · rcases mem_insL.1 hq with rfl | h2
        · exact h.safe f hmem
        · exact h.safe q (mem_delL.1 (mem_delL.1 h2).1).1
      · rcases mem_insL.1 hq with rfl | h2
        · exact hy
        · exact h.named q (mem_delL.1 (mem_delL.1 h2).1).1
theorem renE_ok {d : AD} {x y : Nm} (h : d.renE x y = 0) : d.findE x = 0 ∧ named y = true := by
  unfold AD.renE at h
  split at h
  · cases h
  · rename_i hh
    refine ⟨h, ?_⟩
    rw [h] at hh
    cases hy : named y with
    | true => rfl
    | false => exact absurd ⟨by decide, hy⟩ hh
theorem AD.Ok.rename {d : AD} (h : d.Ok) (x y : Nm) : (d.rename x y).1.Ok := by
  unfold AD.rename
  split
  · exact h
  · rename_i h0
    split
    · exact h.fall
    · exact renL_Ok h (renE_ok (Decidable.not_not.1 h0)).2
theorem AD.Ok.arm {d : AD} (h : d.Ok) {n : Int} (hn : n ≤ 9223372036854775807) : (d.arm n).1.Ok := by
  unfold AD.arm
  split
  · exact h
  · split
    · exact h
    · exact ⟨h.size0, h.size1, h.used, h.many, h.rising, h.safe, h.named, by show -1 ≤ n; omega, hn, h.steps0, h.steps1⟩
theorem crashL_names : ∀ (L : List AF) (ks : List Int), namesL (crashL L ks) = namesL L
  | [], _ => rfl
  | f :: r, ks => by
    unfold crashL namesL
    split
    · have := crashL_names r ks.tail
      unfold namesL at this
      simp [this, cutF]
    · have := crashL_names r ks
      unfold namesL at this
      simp [this, safeF]
theorem keepN_b (ks : List Int) {t : Int} (ht : 0 ≤ t) : 0 ≤ keepN ks t ∧ keepN ks t ≤ t := by
  unfold keepN
  split <;> omega
theorem crashL_tot {L : List AF} (h : ∀ f ∈ L, 0 ≤ f.safe ∧ f.safe ≤ f.data.size) : ∀ ks, totL (crashL L ks) ≤ totL L := by
  induction L with
  | nil => intro _; exact Nat.le_refl _
  | cons f r ih =>
    intro ks
    have ih' := ih (fun q hq => h q (by simp [hq]))
    have hf := h f (by simp)
    unfold crashL
    split
    · rename_i hlt
      simp only [totL, cutF, ByteArray.size_extract]
      have := ih' ks.tail
      omega
    · simp only [totL, safeF]
      have := ih' ks
      omega
theorem crashL_safe {L : List AF} (h : ∀ f ∈ L, 0 ≤ f.safe ∧ f.safe ≤ f.data.size) : ∀ ks, ∀ q ∈ crashL L ks, 0 ≤ q.safe ∧ q.safe = q.data.size := by
  induction L with
  | nil => intro _ q hq; cases hq
  | cons f r ih =>
    intro ks q hq
    have hf := h f (by simp)
    unfold crashL at hq
    split at hq
    · rename_i hlt
      rcases List.mem_cons.1 hq with rfl | h2
      · have hk := keepN_b ks (t := (f.data.size : Int) - f.safe) (by omega)
        simp only [cutF, ByteArray.size_extract]
        omega
      · exact ih (fun q hq => h q (by simp [hq])) _ q h2
    · rcases List.mem_cons.1 hq with rfl | h2
      · simp [safeF]
      · exact ih (fun q hq => h q (by simp [hq])) _ q h2
theorem crashL_length (L : List AF) (ks : List Int) : (crashL L ks).length = L.length := by
  have := congrArg List.length (crashL_names L ks)
  simpa [namesL] using this
theorem AD.Ok.crash {d : AD} (h : d.Ok) (ks : List Int) : (d.crash ks).Ok := by
  have hu := h.used
  unfold AD.used at hu
  have ht := crashL_tot h.safe ks
  refine ⟨h.size0, h.size1, ?_, ?_, ?_, fun f hf => ?_, fun f hf => ?_, by show (-1 : Int) ≤ -1; omega, by show (-1 : Int) ≤ _; omega, h.steps0, h.steps1⟩
  · show ((totL (crashL d.L ks) : Nat) : Int) ≤ d.size; omega
  · show (crashL d.L ks).length ≤ 64; rw [crashL_length]; exact h.many
  · show (namesL (crashL d.L ks)).Pairwise _; rw [crashL_names]; exact h.rising
  · have := crashL_safe h.safe ks f hf; omega
  · have h1 : f.name ∈ namesL (crashL d.L ks) := List.mem_map_of_mem hf
    rw [crashL_names] at h1
    obtain ⟨g, hg, e⟩ := List.mem_map.1 h1
    rw [← e]; exact h.named g hg
end Go.Proofs.YtakhnkkcllfbjaaDoorX
