/- strings.Trim at the letters of a disk's names: its table, what it cuts. -/
import Derived.Test.YtakhnkkcllfbjaaDoorDC
namespace Go.Proofs.YtakhnkkcllfbjaaDoorX
open Go.RowKit Go.Proofs.YtakhnkkcllfbjaaDoorW.PrintWords Go.Proofs.YtakhnkkcllfbjaaDoorW.PrintLast Go.Proofs.YtakhnkkcllfbjaaDoorW.PrintMore
set_option linter.unusedVariables false
set_option linter.unusedSimpArgs false
theorem contains_calls {w : World} {g : Nat} {tab : Array Value} (hg : w.heap[g]? = some (.cells tab 93 (0, 0))) (c : Int) (h0 : 0 ≤ c) (h1 : c < 256) (b : Bool) (hv : tab[c.toNat]? = some (.bool b)) :
    Calls Tryd.prog 71 #[.pointer (some ⟨g, 0, none⟩), .int .u8 c] w fun e w' => e = .returned (.bool b) ∧ w' = w := by
  have hc : w.cell? ⟨g, c.toNat, none⟩ = some (.bool b) := by rw [blk_cell hg, hv]
  have e1 : decide (c < 256) = true := decide_eq_true h1
  have e2 : decide (0 ≤ c) = true := decide_eq_true h0
  go_enter Tryd.func71, Tryd.ntmps71
  go_wp2
  go_ret
  exact ⟨rfl, rfl⟩
def zeroTab : Array Value := Array.replicate 256 (.bool false)
def setTab (l : List UInt8) (t : Array Value) : Array Value := l.foldl (fun t c => t.setIfInBounds c.toNat (.bool true)) t
theorem setTab_size (l : List UInt8) : ∀ t : Array Value, (setTab l t).size = t.size := by
  induction l with
  | nil => intro t; rfl
  | cons c r ih => intro t; exact (ih _).trans (by simp)
theorem setTab_snoc (l : List UInt8) (c : UInt8) (t : Array Value) : setTab (l ++ [c]) t = (setTab l t).setIfInBounds c.toNat (.bool true) := by simp [setTab]
theorem results_cell_tmp {P : Program} {fn : Func} {p q : Tmp} {ty : TypeId} (h : fn.results = #[.cell p ty, .tmp q]) (tmps : Array Value) (w : World) (g : Nat) (t : TypeId) (cs : Array Value) (fr : Nat × Nat) (d : TypeDesc)
    (hp : tmps.getD p undef = .pointer (some ⟨g, 0, none⟩)) (hg : w.heap[g]? = some (.cells cs t fr))
    (hu : P.underlying ty = some d) (hd : (match d with | .struct _ | .array _ _ => true | _ => false) = true) (hi : (P.info? ty).map (·.size) = some cs.size) :
    (results fn tmps).run P w = .ok (.tuple #[.agg cs, tmps.getD q undef]) w := by
  have hp' : tmps[p]?.getD undef = .pointer (some ⟨g, 0, none⟩) := by simpa using hp
  simp [results, h, hp', asAddr, run_loadVar_row w g t ty cs fr d hg hu hd hi]
theorem setTab_one (l : List UInt8) : ∀ t : Array Value, t.all (·.oneCell') = true → (setTab l t).all (·.oneCell') = true := by
  induction l with
  | nil => intro t h; exact h
  | cons c r ih =>
    intro t h
    refine ih _ ?_
    rw [Array.all_eq_true_iff_forall_mem] at h ⊢
    intro x hx
    rcases Array.mem_or_eq_of_mem_setIfInBounds hx with h2 | h2
    · exact h x h2
    · subst h2; rfl
theorem size93 : (Tryd.prog.info? 93).map (·.size) = some 256 := by kernel_rfl
theorem zero_is : Tryd.zeroCells93 = zeroTab := by kernel_rfl
theorem zero_one : zeroTab.all (·.oneCell') = true := by kernel_rfl
theorem zero_size : zeroTab.size = 256 := Array.size_replicate
theorem make_calls (s : ByteArray) (hs : s.size ≤ 100) (ha : ∀ c ∈ s.data.toList, c.toNat < 128) (w : World) :
    Calls Tryd.prog 61 #[.string s] w fun e w' => e = .returned (.tuple #[.agg (setTab s.data.toList zeroTab), .bool true]) ∧ Below w.heap.size w w' := by
  have HA := Aside0.mk ha
  have HS := Aside0.mk hs
  have zis := zero_is
  have zsz := zero_size
  have z1 := zero_one
  generalize zeroTab = Z at zis zsz z1 ⊢
  replace zis := Aside0.mk zis
  replace zsz := Aside0.mk zsz
  replace z1 := Aside0.mk z1
  clear ha hs
  go_enter Tryd.func61, Tryd.ntmps61
  go_wp2
  go_loopg [4] s.size (fun kq v4 wr => ∃ i : Nat, v4 = .int .i64 i ∧ Aside0 (i + kq = s.size) ∧ Aside0 (wr.heap[w.heap.size]? = some (.cells (setTab (s.data.toList.take i) Z) 93 (0, 0))) ∧ Aside0 (Below w.heap.size w wr))
  case atStart => exact ⟨0, rfl, ⟨by omega⟩, ⟨by rw [← zis.out]; exact blk_new _ _⟩, ⟨below_alloc (Below.refl _ _) _⟩⟩
  case round =>
    obtain ⟨i, rfl, h1, h2, h3⟩ := hrel
    by_cases hi : i < s.size
    · have e1 : decide ((i : Int) < (s.size : Int)) = true := decide_eq_true (by omega)
      have h2' := h2.out
      have hlen : i < s.data.toList.length := by simpa using hi
      have hc := HA.out (s.data.toList[i]) (List.getElem_mem hlen)
      have e2 : (s[i]'hi).toNat < 128 := hc
      generalize hT : setTab (s.data.toList.take i) Z = T at h2'
      have HT := Aside0.mk hT
      clear hT hc
      have e3 : decide ((128 : Int) ≤ ((s[i]'hi).toNat : Int)) = false := decide_eq_false (by omega)
      have e4 : decide ((i : Int) < 100) = true := decide_eq_true (by have := HS.out; omega)
      have e5 : IntKind.i64.wrap ((i : Int) + 1) = ((i + 1 : Nat) : Int) := by rw [i64_w]; unfold wrap64; have := HS.out; omega
      have e6 : decide (((s[i]'hi).toNat : Int) < 256) = true := decide_eq_true (by omega)
      have e7 : decide ((s[i]'hi).toNat < 256) = true := decide_eq_true (by omega)
      have hT6 : T.size = 256 := by rw [← HT.out, setTab_size, zsz.out]
      have f1 : wr.frozen? ⟨w.heap.size, (s[i]'hi).toNat, none⟩ = false := blk_frozen h2' _
      obtain ⟨u, hu⟩ : ∃ u, wr.cell? ⟨w.heap.size, (s[i]'hi).toNat, none⟩ = some u := by rw [blk_cell h2']; exact ⟨_, Array.getElem?_eq_getElem (by omega)⟩
      have H2 := Aside0.mk h2'
      have HI := Aside0.mk hi
      have hx : ∃ x, (s[i]'hi) = x := ⟨_, rfl⟩
      clear h2 h2' hT6
      go_wp2
      go_roundg (s.size - (i + 1))
      case measure => have := h1.out; omega
      case rel =>
        refine ⟨i + 1, rfl, ⟨by have := h1.out; omega⟩, ⟨?_⟩, ⟨?_⟩⟩
        · have e9 : s.data.toList.take (i + 1) = s.data.toList.take i ++ [s.data.toList[i]] := by rw [List.take_add_one, List.getElem?_eq_getElem hlen]; rfl
          rw [e9, setTab_snoc, HT.out]
          exact blk_set H2.out _ _
        · exact Below.setCell h3.out (Nat.le_refl _) _
    · have e1 : decide ((i : Int) < (s.size : Int)) = false := decide_eq_false (by omega)
      have e1' : decide (i < s.size) = false := decide_eq_false (by omega)
      have hi2 : i = s.size := by have := h1.out; omega
      have hT : s.data.toList.take i = s.data.toList := List.take_of_length_le (by rw [hi2]; simp)
      rw [hT] at h2
      have h2' := h2.out
      generalize hT : setTab s.data.toList Z = T at h2' ⊢
      have hT6 : T.size = 256 := by rw [← hT, setTab_size, zsz.out]
      have hT8 : T.all (·.oneCell') = true := by rw [← hT]; exact setTab_one _ _ z1.out
      have H2 := Aside0.mk h2'
      have HT := Aside0.mk hT
      have H6 := Aside0.mk hT6
      have H8 := Aside0.mk hT8
      clear h2 h2' hT hi2 hi hT6 hT8
      go_wp2_with (first
        | (refine wpList_load_row rfl 93 _ rfl w.heap.size rfl 93 T (0, 0) _ H2.out Tryd.underlying93 rfl (size93.trans (congrArg some H6.out.symm)) ?_)
        | (refine wpList_store_row rfl 93 _ _ rfl w.heap.size T rfl rfl 93 T H2.out (size93.trans (congrArg some H6.out.symm)) rfl H8.out ?_))
      refine bodyPost_ret (results_cell_tmp rfl _ _ w.heap.size 93 T (0, 0) _ rfl (setRow_heap _ _ _ _ _ _ H2.out) Tryd.underlying93 rfl (size93.trans (congrArg some H6.out.symm))) rfl ?_
      exact ⟨by rw [HT.out]; rfl, below_setRow h3.out (Nat.le_refl _) _⟩
end Go.Proofs.YtakhnkkcllfbjaaDoorX
