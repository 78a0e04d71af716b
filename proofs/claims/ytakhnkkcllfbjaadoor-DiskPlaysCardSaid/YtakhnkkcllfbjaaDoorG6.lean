/- DiskAtomic: the plain law; no conditions beyond those in each theorem's head. -/
import Derived.Test.YtakhnkkcllfbjaaDoorN3
import Derived.Test.YtakhnkkcllfbjaaDoorW4
namespace Go.Proofs.YtakhnkkcllfbjaaDoorX
open Go.RowKit Go.Proofs.YtakhnkkcllfbjaaDoorW.PrintWords Go.Proofs.YtakhnkkcllfbjaaDoorW.PrintLast Go.Proofs.YtakhnkkcllfbjaaDoorW.PrintMore
open Go.Proofs.YtakhnkkcllfbjaaDoor.PA (S37 k37 z37)
set_option linter.unusedVariables false
set_option linter.unusedSimpArgs false
theorem M_newL {B : Nat} {w0 w : World} (size : Int) (A : Option Addr) (c : Nat) (l : List S37) (h : Below B w0 w) (hB : B ≤ w.heap.size) (hr : Kd.C k37 w A l.length l) (hsz : ∀ x ∈ l, x.f0.size ≤ maxLen ∧ x.f1.size ≤ maxLen) (hl : l.length ≤ 140737488351232) :
    Calls Tryd.prog 9 #[.int .i64 size, .slice A l.length c] w fun e w' => (newE size l ≠ 0 ∧ e = .returned (.tuple #[.pointer none, .int .i64 (newE size l)]) ∧ Below w.heap.size w w') ∨
      (newE size l = 0 ∧ ∃ a S, e = .returned (.tuple #[.pointer (some ⟨a, 0, none⟩), .int .i64 0]) ∧ Mine B w0 w' a S (newD size l) ∧ Below w.heap.size w w') :=
  (New_calls size A c l w hr hsz hl).mono (fun e w' hh => by
    rcases hh with hh | ⟨h1, a, m, lay, h2, k2, k3, k4⟩
    · exact .inl hh
    · exact .inr ⟨h1, a, _, h2, ⟨m, lay, k2, rfl, h.trans (k3.mono hB), Nat.le_trans hB k3.size, fun k hk => Nat.le_trans hB (k4 k hk)⟩, k3⟩)
/-- Numbers that came in are kept by what is made of the law's own disk. -/
theorem keeps_in {w0 w : World} {a : Nat} {S : List Nat} {D : AD} {A : Option Addr} {ks : List Int} (h : Mine w0.heap.size w0 w a S D) (hr : (Kd.int .i64).C w0 A ks.length ks) : Keeps S w A ks := fun w' hw' => by
  have hb := h.below
  obtain ⟨m, lay, h1, h2, h3, h4, h5⟩ := h
  refine Kd.Heap.C (Kd.heap_int .i64) (fun k hk => ?_) hr
  rw [hw'.block k (by omega) (fun hx => by have := h5 k hx; omega)]
  exact hb.block k hk
def oldL (old : ByteArray) : List AF := [⟨[97], old, old.size⟩]
theorem new_one {old : ByteArray} (h : old.size ≤ 100000) : newE 1048576 [⟨⟨#[97]⟩, old, old.size⟩] = 0 ∧ newD 1048576 [⟨⟨#[97]⟩, old, old.size⟩] = AD.fresh 1048576 (oldL old) := by
  refine ⟨?_, rfl⟩
  unfold newE
  have h1 : ¬ ((1048576 : Int) < 0 ∨ (1048576 : Int) < 1048576 ∨ ([⟨⟨#[97]⟩, old, old.size⟩] : List S37).any badF = true) := by
    rintro (h1 | h1 | h1)
    · cases h1
    · cases h1
    · simp [badF] at h1
      omega
  rw [if_neg h1, if_neg (not_not_intro ⟨fun x hx => by obtain rfl := List.mem_singleton.1 hx; show named [97] = true; decide, by show [[(97 : UInt8)]].Nodup; simp⟩), if_neg (not_not_intro ⟨by show 1 ≤ 64; decide, by show ((old.size + 0 : Nat) : Int) ≤ 1048576; omega⟩)]
/-- The law's disk, with the new file beside the old one. -/
def atD (L : List AF) (armed st : Int) : AD := ⟨1048576, armed, false, st, L⟩
def bothL (old fresh : ByteArray) (safe : Int) : List AF := [⟨[97], old, old.size⟩, ⟨[98], fresh, safe⟩]
theorem at_append {old fresh : ByteArray} {armed : Int} (h : old.size ≤ 100000) (k : fresh.size ≤ 100000) : (atD (oldL old) armed 0).append [98] fresh = if armed = 0 then ((atD (oldL old) armed 0).fall, 3) else ({ (atD (oldL old) armed 0).tick with L := bothL old fresh 0 }, 0) := by
  have e0 : (atD (oldL old) armed 0).findE [98] = 41 := rfl
  have h2 : ¬ ((atD (oldL old) armed 0).free < (fresh.size : Int) ∨ (findL [98] (atD (oldL old) armed 0).L = none ∧ (atD (oldL old) armed 0).L.length = 64)) := by
    rintro (h3 | h3)
    · have e1 : (atD (oldL old) armed 0).free = 1048576 - ((old.size + 0 : Nat) : Int) := rfl
      rw [e1] at h3
      omega
    · exact absurd h3.2 (by show ¬ (1 : Nat) = 64; decide)
  unfold AD.append
  rw [if_neg (by rw [e0]; decide), if_neg h2]
  rfl
theorem at_sync {old fresh : ByteArray} {armed st : Int} : (atD (bothL old fresh 0) armed st).sync [98] = if armed = 0 then ((atD (bothL old fresh 0) armed st).fall, 3) else ({ (atD (bothL old fresh 0) armed st).tick with L := bothL old fresh fresh.size }, 0) := by
  have e0 : (atD (bothL old fresh 0) armed st).findE [98] = 0 := rfl
  unfold AD.sync
  rw [if_neg (by rw [e0]; decide)]
  rfl
theorem at_rename {old fresh : ByteArray} {armed st : Int} : (atD (bothL old fresh fresh.size) armed st).rename [98] [97] = if armed = 0 then ((atD (bothL old fresh fresh.size) armed st).fall, 3) else ({ (atD (bothL old fresh fresh.size) armed st).tick with L := [⟨[97], fresh, fresh.size⟩] }, 0) := by
  have e0 : (atD (bothL old fresh fresh.size) armed st).renE [98] [97] = 0 := rfl
  unfold AD.rename
  rw [if_neg (by rw [e0]; decide)]
  rfl
theorem crash_read {D : AD} {x : Nm} {s : ByteArray} {n : Int} {r : List AF} (hD : D.L = ⟨x, s, n⟩ :: r) (hn : n = s.size) (hx : named x = true) (ks : List Int) : (D.crash ks).read x = (s, 0) := by
  have e1 : (D.crash ks).L = ⟨x, s, s.size⟩ :: crashL r ks := by
    show crashL D.L ks = _
    rw [hD]
    show (if n < (s.size : Int) then _ else _) = _
    rw [if_neg (by rw [hn]; exact Int.lt_irrefl _)]
    rfl
  have e2 : findL x (D.crash ks).L = some ⟨x, s, s.size⟩ := by rw [e1]; unfold findL; simp
  have e3 : (D.crash ks).findE x = 0 := by
    unfold AD.findE
    rw [if_neg (show ¬ (D.crash ks).down = true from by show ¬ false = true; decide), if_neg (by rw [hx]; decide), if_neg (by rw [e2]; simp)]
  unfold AD.read
  rw [if_neg (by rw [e3]; decide), e2]
end Go.Proofs.YtakhnkkcllfbjaaDoorX
