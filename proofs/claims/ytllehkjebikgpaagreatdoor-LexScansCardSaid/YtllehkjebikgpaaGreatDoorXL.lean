/- What the world holds where a row's listed variables are laid: Gw of it; no conditions beyond those in each theorem's head. -/
import Derived.Test.YtllehkjebikgpaaGreatDoorX5
import Derived.Test.YtllehkjebikgpaaGreatDoorRows
import Derived.Lib.LaidTab
import Derived.LaidLaws
import Derived.LaidMore
import Derived.MakeChecks
namespace Go.Proofs.YtllehkjebikgpaaGreatDoorX
open Go.RowKit Go.Lib Go.Proofs.YtllehkjebikgpaaGreatDoorSh
set_option linter.unusedVariables false

theorem laid_at {P : Program} {w : World} {n : String} {d : DataW Unit} : ∀ {l : List (String × DataW Unit)} {ps : List MemPlace}, DataW.LaidVars P w l ps → (n, d) ∈ l →
    ∃ g t cs fuel p, P.globalNamed n = some g ∧ (P.globals[g]?).map (·.type) = some t ∧ w.var? P n = some cs ∧ DataW.trod (fun _ => ()) P w 0 (fun _ => true) false fuel t cs.toList = some (d, p)
  | [], ps, _, hm => by cases hm
  | (m, e) :: l, ps, h, hm => by
    obtain ⟨g, t, cs, fuel, p, q, h1, h2, h3, h4, h5, _⟩ := h
    rcases List.mem_cons.1 hm with hm | hm
    · cases hm; exact ⟨g, t, cs, fuel, p, h1, h2, h3, h4⟩
    · exact laid_at h5 hm
theorem err_at {w : World} {ps : List MemPlace} {l : List (String × DataW Unit)} {n nm : String} {d : DataW Unit} {g : Nat} {ms : Array (String × TypeId)} {t : TypeId} (h : DataW.LaidVars Tryz.prog w l ps) (hm : (n, DataW.iface nm d) ∈ l) (hg : Tryz.prog.globalNamed n = some g) (ht : (Tryz.prog.globals[g]?).map (·.type) = some t)
    (hu : Tryz.prog.underlying t = some (.interface ms)) : ErrAt w g := by
  obtain ⟨g', t', cs, fuel, p, h1, h2, h3, h4⟩ := laid_at h hm
  obtain rfl := Option.some.inj (hg.symm.trans h1)
  obtain rfl := Option.some.inj (ht.symm.trans h2)
  obtain ⟨_, u, v, hc, _, _⟩ := iface_of_trod hu h4
  have hcell := World.var?_cell hg h3 0
  have e : cs[0]? = some (.iface u v) := by
    rw [← Array.getElem?_toList, hc]; rfl
  exact ⟨.iface u v, hcell.trans e, .inr ⟨u, v, rfl⟩⟩
theorem gw_of {w : World} {l : List (String × DataW Unit)} (hp : (l.all fun x => x.2.handleName?.isNone) = true) (h : laidMetH Tryz.prog l w) (m0 : ("internal/strconv.uint64pow10", tabData .u64 pow10Tab) ∈ l)
    (m1 : ("strconv.ErrSyntax", (Go.Proofs.YtllehkjebikgpaaGreatDoor.Rows.laid_strconv_ErrSyntax : DataW Unit)) ∈ l) (m2 : ("strconv.ErrRange", (Go.Proofs.YtllehkjebikgpaaGreatDoor.Rows.laid_strconv_ErrRange : DataW Unit)) ∈ l) : Gw w := by
  rw [MakeChecks.laidMetH_plain _ _ _ hp] at h
  obtain ⟨ps, hl, _⟩ := h
  refine ⟨?_, ?_, ?_⟩
  · obtain ⟨g', t', cs, fuel, p, h1, h2, h3, h4⟩ := laid_at hl m0
    have e1 : Tryz.prog.globalNamed "internal/strconv.uint64pow10" = some (ren.g 17) := by kernel_rfl
    obtain rfl := Option.some.inj (e1.symm.trans h1)
    have e2 : (Tryz.prog.globals[(ren.g 17)]?).map (·.type) = some (ren.t 212) := by kernel_rfl
    obtain rfl := Option.some.inj (e2.symm.trans h2)
    unfold TabIs
    rw [h3, ← cells_of_tab (n := 20) (e := ren.t 53) (by kernel_rfl) (by kernel_rfl) (by kernel_rfl) (by kernel_rfl) h4]
  · exact err_at hl m1 (t := 52) (ms := _) (by kernel_rfl) (by kernel_rfl) Tryz.underlying52
  · exact err_at hl m2 (t := 52) (ms := _) (by kernel_rfl) (by kernel_rfl) Tryz.underlying52
end Go.Proofs.YtllehkjebikgpaaGreatDoorX
