/- What a disk's memory holds; no conditions beyond those in each theorem's head. -/
import Derived.Test.YtakhnkkcllfbjaaDoorDR
import Derived.Test.YtakhnkkcllfbjaaDoorProg
import Derived.Below
import Derived.Deep.Draws
import Derived.Deep.AppendLies
import Derived.Maps.AppendAt
import Derived.OwnWalk
import Derived.Laws.BytesArg
import Derived.Laws.MakeOwn
import Derived.Laws.OwnMore
import Derived.Deep.OwnRows
import Derived.Tactics
import Derived.Lib.ConvBytes
import Derived.Laws.Slices
import Derived.WalkKit
import Derived.KernelRfl
import Derived.RowKit3
import Derived.Deep.LoopGhost
import Derived.Deep.QuietTactic
import Derived.BigQuiet
import Derived.WideLaws
import Derived.Deep.DeepCutAuto
import Derived.Deep.CutBlock
import Derived.Deep.RegionHeld3
import Derived.Laws.Rows
import Derived.Lib.AppendStr
import Derived.ArgAppend
import Derived.Laws.IdiomCopy
import Derived.OrdersHeld
import Derived.Laws.BitsLemmas
import Derived.RowKit
namespace Go.Proofs.YtakhnkkcllfbjaaDoorX
open Go.RowKit Go.Proofs.YtakhnkkcllfbjaaDoorW.PrintWords Go.Proofs.YtakhnkkcllfbjaaDoorW.PrintLast Go.Proofs.YtakhnkkcllfbjaaDoorW.PrintMore
set_option linter.unusedVariables false
set_option linter.unusedSimpArgs false

abbrev Lay := Nm → Nat × Value
def ownF (p : Nat × Value) : List Nat := p.1 :: p.2.ownBlock.toList
def ownL (lay : Lay) (L : List AF) : List Nat := L.flatMap (fun f => ownF (lay f.name))
def mapL (lay : Lay) (L : List AF) (x : Nm) : Option (Option Nat) := if hasL x L = true then some (some (lay x).1) else none
def headD (m : Nat) (D : AD) : Array Value := #[.int .i64 D.size, .map (some m), .int .i64 D.used, .int .i64 D.armed, .bool D.down, .int .i64 D.steps]
def fileD (p : Nat × Value) (safe : Int) : Array Value := #[p.2, .int .i64 safe]
def FileAt (w : World) (p : Nat × Value) (f : AF) : Prop := w.heap[p.1]? = some (.cells (fileD p f.safe) 70 (0, 0)) ∧ RowB 5 w p.2 f.data
/-- No two of the disk's blocks are one. -/
structure Sep (a m : Nat) (lay : Lay) (L : List AF) : Prop where
  am : a ≠ m
  afar : ∀ f ∈ L, a ∉ ownF (lay f.name)
  mfar : ∀ f ∈ L, m ∉ ownF (lay f.name)
  self : ∀ f ∈ L, (lay f.name).1 ∉ (lay f.name).2.ownBlock.toList
  two : ∀ f ∈ L, ∀ g ∈ L, f.name ≠ g.name → ∀ k ∈ ownF (lay f.name), k ∉ ownF (lay g.name)
structure DK (w : World) (a m : Nat) (lay : Lay) (D : AD) : Prop where
  head : w.heap[a]? = some (.cells (headD m D) 64 (0, 0))
  map : MapP Tryd.prog 9 w m D.L.length (mapL lay D.L)
  file : ∀ f ∈ D.L, FileAt w (lay f.name) f
  sep : Sep a m lay D.L
  ok : D.Ok
/-- A disk at a, of the blocks S. -/
def Disk (w : World) (a : Nat) (S : List Nat) (D : AD) : Prop := ∃ m lay, DK w a m lay D ∧ S = a :: m :: ownL lay D.L

theorem FileAt.step {w w' : World} {p : Nat × Value} {f : AF} (h : FileAt w p f) (hb : ∀ k ∈ ownF p, w'.heap[k]? = w.heap[k]?) : FileAt w' p f :=
  ⟨(hb _ (by simp [ownF])).trans h.1, h.2.step (fun k hk => hb k (by simp only [ownF, List.mem_cons]; exact .inr hk))⟩
theorem FileAt.lt {w : World} {p : Nat × Value} {f : AF} (h : FileAt w p f) : ∀ k ∈ ownF p, k < w.heap.size := fun k hk => by
  simp only [ownF, List.mem_cons] at hk
  rcases hk with rfl | hk
  · exact blk_lt h.1
  · exact h.2.lt k hk
theorem mem_ownL {lay : Lay} {L : List AF} {k : Nat} : k ∈ ownL lay L ↔ ∃ f ∈ L, k ∈ ownF (lay f.name) := by simp [ownL, List.mem_flatMap]
theorem DK.lt {w : World} {a m : Nat} {lay : Lay} {D : AD} (h : DK w a m lay D) : ∀ k ∈ a :: m :: ownL lay D.L, k < w.heap.size := fun k hk => by
  simp only [List.mem_cons] at hk
  rcases hk with rfl | rfl | hk
  · exact blk_lt h.head
  · exact h.map.lt
  · obtain ⟨f, hf, hk⟩ := mem_ownL.1 hk
    exact (h.file f hf).lt k hk
theorem Disk.lt {w : World} {a : Nat} {S : List Nat} {D : AD} (h : Disk w a S D) : ∀ k ∈ S, k < w.heap.size := by
  obtain ⟨m, lay, hk, rfl⟩ := h
  exact hk.lt
theorem DK.step {w w' : World} {a m : Nat} {lay : Lay} {D : AD} (h : DK w a m lay D) (hb : ∀ k ∈ a :: m :: ownL lay D.L, w'.heap[k]? = w.heap[k]?) : DK w' a m lay D :=
  ⟨(hb _ (by simp)).trans h.head, h.map.step (hb _ (by simp)), fun f hf => (h.file f hf).step (fun k hk => hb k (by simp only [List.mem_cons]; exact .inr (.inr (mem_ownL.2 ⟨f, hf, hk⟩)))), h.sep, h.ok⟩
theorem DK.fr {w w' : World} {a m : Nat} {lay : Lay} {D : AD} {S : List Nat} (h : DK w a m lay D) (hf : Fr S w w') (hn : ∀ k ∈ a :: m :: ownL lay D.L, k ∉ S) : DK w' a m lay D :=
  h.step (fun k hk => hf.block k (h.lt k hk) (hn k hk))
theorem Disk.fr {w w' : World} {a : Nat} {S T : List Nat} {D : AD} (h : Disk w a T D) (hf : Fr S w w') (hn : ∀ k ∈ T, k ∉ S) : Disk w' a T D := by
  obtain ⟨m, lay, hk, rfl⟩ := h
  exact ⟨m, lay, hk.fr hf hn, rfl⟩
/-- The head alone has turned. -/
theorem DK.turn {w w' : World} {a m : Nat} {lay : Lay} {D D' : AD} (h : DK w a m lay D) (hf : Fr [a] w w') (hh : w'.heap[a]? = some (.cells (headD m D') 64 (0, 0))) (hL : D'.L = D.L) (hok : D'.Ok) : DK w' a m lay D' := by
  have hm : m ∉ [a] := by simp; exact fun e => h.sep.am e.symm
  refine ⟨hh, by rw [hL]; exact h.map.fr hf hm, fun f hf' => ?_, by rw [hL]; exact h.sep, hok⟩
  rw [hL] at hf'
  refine (h.file f hf').step (fun k hk => hf.block k ((h.file f hf').lt k hk) ?_)
  simp only [List.mem_singleton]
  rintro rfl
  exact h.sep.afar f hf' hk
/-- Files are taken away, or their cells stay. -/
theorem DK.less {w w' : World} {a m : Nat} {lay : Lay} {D D' : AD} (h : DK w a m lay D) (hh : w'.heap[a]? = some (.cells (headD m D') 64 (0, 0))) (hm : MapP Tryd.prog 9 w' m D'.L.length (mapL lay D'.L)) (hL : ∀ q ∈ D'.L, q ∈ D.L) (hok : D'.Ok)
    (hb : ∀ q ∈ D'.L, ∀ k ∈ ownF (lay q.name), w'.heap[k]? = w.heap[k]?) : DK w' a m lay D' ∧ ∀ k ∈ ownL lay D'.L, k ∈ ownL lay D.L :=
  ⟨⟨hh, hm, fun f hf => (h.file f (hL f hf)).step (hb f hf), ⟨h.sep.am, fun f hf => h.sep.afar f (hL f hf), fun f hf => h.sep.mfar f (hL f hf), fun f hf => h.sep.self f (hL f hf), fun f hf g hg => h.sep.two f (hL f hf) g (hL g hg)⟩, hok⟩,
   fun k hk => by obtain ⟨f, hf, hk⟩ := mem_ownL.1 hk; exact mem_ownL.2 ⟨f, hL f hf, hk⟩⟩
def setLay (lay : Lay) (x : Nm) (p : Nat × Value) : Lay := fun y => if y = x then p else lay y
/-- One file is put under a name x, of new blocks and of those that the file z had. -/
theorem DK.one {w w' : World} {a m : Nat} {lay : Lay} {D D' : AD} (h : DK w a m lay D) (f' : AF) (z : Nm) (p : Nat × Value)
    (hh : w'.heap[a]? = some (.cells (headD m D') 64 (0, 0))) (hm : MapP Tryd.prog 9 w' m D'.L.length (mapL (setLay lay f'.name p) D'.L)) (hok : D'.Ok)
    (hL : ∀ q ∈ D'.L, q = f' ∨ (q ∈ D.L ∧ q.name ≠ f'.name ∧ q.name ≠ z)) (hat : FileAt w' p f')
    (hb : ∀ q ∈ D.L, q.name ≠ f'.name → q.name ≠ z → ∀ k ∈ ownF (lay q.name), w'.heap[k]? = w.heap[k]?)
    (hp : ∀ k ∈ ownF p, w.heap.size ≤ k ∨ ((∃ g ∈ D.L, g.name = z) ∧ k ∈ ownF (lay z))) (hself : p.1 ∉ p.2.ownBlock.toList) :
    DK w' a m (setLay lay f'.name p) D' ∧ ∀ k ∈ ownL (setLay lay f'.name p) D'.L, k ∈ ownL lay D.L ∨ w.heap.size ≤ k := by
  have e1 : setLay lay f'.name p f'.name = p := if_pos rfl
  have e2 : ∀ {q : AF}, q.name ≠ f'.name → setLay lay f'.name p q.name = lay q.name := fun hq => if_neg hq
  have hnew : ∀ k ∈ ownF p, ∀ q ∈ D.L, q.name ≠ z → k ∉ ownF (lay q.name) := fun k hk q hq hz hk2 => by
    rcases hp k hk with h1 | ⟨⟨g, hg, rfl⟩, h1⟩
    · have := (h.file q hq).lt k hk2; omega
    · exact h.sep.two g hg q hq (fun e => hz e.symm) k h1 hk2
  refine ⟨⟨hh, hm, fun q hq => ?_, ⟨h.sep.am, fun q hq => ?_, fun q hq => ?_, fun q hq => ?_, fun q hq g hg hne k hk => ?_⟩, hok⟩, fun k hk => ?_⟩
  · rcases hL q hq with rfl | ⟨h1, h2, h3⟩
    · rw [e1]; exact hat
    · rw [e2 h2]; exact (h.file q h1).step (hb q h1 h2 h3)
  · rcases hL q hq with rfl | ⟨h1, h2, h3⟩
    · rw [e1]
      intro hk
      rcases hp a hk with h1 | ⟨⟨g, hg, rfl⟩, h1⟩
      · have := blk_lt h.head; omega
      · exact h.sep.afar g hg h1
    · rw [e2 h2]; exact h.sep.afar q h1
  · rcases hL q hq with rfl | ⟨h1, h2, h3⟩
    · rw [e1]
      intro hk
      rcases hp m hk with h1 | ⟨⟨g, hg, rfl⟩, h1⟩
      · have := h.map.lt; omega
      · exact h.sep.mfar g hg h1
    · rw [e2 h2]; exact h.sep.mfar q h1
  · rcases hL q hq with rfl | ⟨h1, h2, h3⟩
    · rw [e1]; exact hself
    · rw [e2 h2]; exact h.sep.self q h1
  · rcases hL q hq with rfl | ⟨h1, h2, h3⟩
    · rw [e1] at hk
      rcases hL g hg with rfl | ⟨k1, k2, k3⟩
      · exact absurd rfl hne
      · rw [e2 k2]; exact hnew k hk g k1 k3
    · rw [e2 h2] at hk
      rcases hL g hg with rfl | ⟨k1, k2, k3⟩
      · rw [e1]; exact fun hk2 => hnew k hk2 q h1 h3 hk
      · rw [e2 k2]; exact h.sep.two q h1 g k1 hne k hk
  · obtain ⟨q, hq, hk⟩ := mem_ownL.1 hk
    rcases hL q hq with rfl | ⟨h1, h2, h3⟩
    · rw [e1] at hk
      rcases hp k hk with h1 | ⟨⟨g, hg, rfl⟩, h1⟩
      · exact .inr h1
      · exact .inl (mem_ownL.2 ⟨g, hg, h1⟩)
    · rw [e2 h2] at hk
      exact .inl (mem_ownL.2 ⟨q, h1, hk⟩)
theorem head_cells {w : World} {a m : Nat} {D : AD} (h : w.heap[a]? = some (.cells (headD m D) 64 (0, 0))) :
    w.cell? ⟨a, 0, none⟩ = some (.int .i64 D.size) ∧ w.cell? ⟨a, 1, none⟩ = some (.map (some m)) ∧ w.cell? ⟨a, 2, none⟩ = some (.int .i64 D.used) ∧ w.cell? ⟨a, 3, none⟩ = some (.int .i64 D.armed) ∧ w.cell? ⟨a, 4, none⟩ = some (.bool D.down) ∧ w.cell? ⟨a, 5, none⟩ = some (.int .i64 D.steps) :=
  ⟨by rw [blk_cell h]; rfl, by rw [blk_cell h]; rfl, by rw [blk_cell h]; rfl, by rw [blk_cell h]; rfl, by rw [blk_cell h]; rfl, by rw [blk_cell h]; rfl⟩
theorem file_cells {w : World} {p : Nat × Value} {f : AF} (h : FileAt w p f) : w.cell? ⟨p.1, 0, none⟩ = some p.2 ∧ w.cell? ⟨p.1, 1, none⟩ = some (.int .i64 f.safe) :=
  ⟨by rw [blk_cell h.1]; rfl, by rw [blk_cell h.1]; rfl⟩
theorem used_pos (D : AD) : 0 ≤ D.used := by unfold AD.used; omega
end Go.Proofs.YtakhnkkcllfbjaaDoorX
