/- Several texts in one (merge.py): E1, E2, E3; no conditions beyond those in each theorem's head. -/
import Derived.Test.YtakhnkkcllfbjaaDoorDM
section
namespace Go.Proofs.YtakhnkkcllfbjaaDoorX
open Go.RowKit Go.Proofs.YtakhnkkcllfbjaaDoorW.PrintWords Go.Proofs.YtakhnkkcllfbjaaDoorW.PrintLast Go.Proofs.YtakhnkkcllfbjaaDoorW.PrintMore
set_option linter.unusedVariables false
set_option linter.unusedSimpArgs false
theorem Free_calls {w : World} {a m : Nat} {lay : Lay} {D : AD} (h : DK w a m lay D) : Calls Tryd.prog 12 #[.pointer (some ⟨a, 0, none⟩)] w fun e w' => e = .returned (.int .i64 D.free) ∧ ∃ n, w' = w.drewN n := by
  have hok := h.ok
  have e1 : IntKind.i64.wrap (D.size - D.used) = D.free := by
    have := hok.size0; have := hok.size1; have := hok.used; have := used_pos D
    rw [i64_w]; unfold wrap64 AD.free; omega
  obtain ⟨c0, c1, c2, c3, c4, c5⟩ := head_cells h.head
  clear h hok c1 c3 c4 c5
  go_enter Tryd.func12, Tryd.ntmps12
  go_wp2
  go_region
  all_goals go_wp2
  all_goals go_ret
  all_goals exact ⟨rfl, 1, rfl⟩
theorem Steps_calls {w : World} {a m : Nat} {lay : Lay} {D : AD} (h : DK w a m lay D) : Calls Tryd.prog 24 #[.pointer (some ⟨a, 0, none⟩)] w fun e w' => e = .returned (.int .i64 D.steps) ∧ ∃ n, w' = w.drewN n := by
  obtain ⟨c0, c1, c2, c3, c4, c5⟩ := head_cells h.head
  clear h c0 c1 c2 c3 c4
  go_enter Tryd.func24, Tryd.ntmps24
  go_wp2
  go_ret
  exact ⟨rfl, 0, rfl⟩
theorem Down_calls {w : World} {a m : Nat} {lay : Lay} {D : AD} (h : DK w a m lay D) : Calls Tryd.prog 21 #[.pointer (some ⟨a, 0, none⟩)] w fun e w' => e = .returned (.bool D.down) ∧ ∃ n, w' = w.drewN n := by
  obtain ⟨c0, c1, c2, c3, c4, c5⟩ := head_cells h.head
  clear h c0 c1 c2 c3 c5
  go_enter Tryd.func21, Tryd.ntmps21
  go_wp2
  go_ret
  exact ⟨rfl, 0, rfl⟩
def AD.stepE (D : AD) : Int := if D.armed = 0 then 3 else 0
def AD.stepD (D : AD) : AD := if D.armed = 0 then D.fall else D.tick
theorem stepD_L (D : AD) : D.stepD.L = D.L := by unfold AD.stepD; split <;> rfl
theorem AD.Ok.stepD {D : AD} (h : D.Ok) : D.stepD.Ok := by
  unfold AD.stepD
  split
  · exact h.fall
  · exact h.tick (by have := h.used; unfold AD.used at this; exact this) h.many h.rising h.safe h.named
theorem step_calls {w : World} {a m : Nat} {lay : Lay} {D : AD} (h : DK w a m lay D) : Calls Tryd.prog 31 #[.pointer (some ⟨a, 0, none⟩)] w fun e w' => e = .returned (.int .i64 D.stepE) ∧ DK w' a m lay D.stepD ∧ Fr [a] w w' := by
  obtain ⟨c0, c1, c2, c3, c4, c5⟩ := head_cells h.head
  have f3 := blk_frozen h.head 3
  have f4 := blk_frozen h.head 4
  have f5 := blk_frozen h.head 5
  have hb := h.head
  have A := Aside0.mk h
  have B := Aside0.mk hb
  have fin : ∀ {w' : World} {D' : AD}, Fr [a] w w' → w'.heap[a]? = some (.cells (headD m D') 64 (0, 0)) → D' = D.stepD → DK w' a m lay D.stepD := by
    intro w' D' h1 h2 e
    subst e
    exact A.out.turn h1 h2 (stepD_L D) A.out.ok.stepD
  have F := Aside0.mk @fin
  have hr := h.ok.armed1
  have hr0 := h.ok.armed0
  clear h hb fin c0 c1 c2
  by_cases hz : D.armed = 0
  · have e1 : (D.armed == 0) = true := by simp [hz]
    have e2 : D.stepD = D.fall := if_pos hz
    have e3 : D.stepE = 3 := if_pos hz
    have E := Aside0.mk e2
    have E' := Aside0.mk e3
    clear e2 e3
    rw [hz] at c3
    go_enter Tryd.func31, Tryd.ntmps31
    go_wp2
    go_ret
    refine ⟨by rw [E'.out]; rfl, F.out ((Fr.refl _ _).setCell (.inl (by simp)) _) (D' := D.fall) (blk_put B.out 4 _ rfl) E.out.symm, (Fr.refl _ _).setCell (.inl (by simp)) _⟩
  · have e1 : (D.armed == 0) = false := by simp [hz]
    have e2 : D.stepD = D.tick := if_neg hz
    have e3 : D.stepE = 0 := if_neg hz
    have E := Aside0.mk e2
    have E' := Aside0.mk e3
    clear e2 e3
    have W : wrap64 (D.steps + 1) = IntKind.i64.wrap (D.steps + 1) := (i64_w _).symm
    have W' := Aside0.mk W
    clear W
    by_cases hp : 0 < D.armed
    · have e4 : decide (0 < D.armed) = true := decide_eq_true hp
      have HP := Aside0.mk hp
      have e5 : IntKind.i64.wrap (D.armed - 1) = D.armed - 1 := by rw [i64_w]; unfold wrap64; omega
      clear hp
      go_enter Tryd.func31, Tryd.ntmps31
      go_wp2
      go_ret
      refine ⟨by rw [E'.out]; rfl, F.out (((Fr.refl _ _).setCell (.inl (by simp)) _).setCell (.inl (by simp)) _) (D' := D.tick) (blk_put (blk_put B.out 3 _ rfl) 5 _ ?_) E.out.symm, ((Fr.refl _ _).setCell (.inl (by simp)) _).setCell (.inl (by simp)) _⟩
      simp only [headD, AD.tick, if_pos (show 0 < D.armed by have := HP.out; omega), W'.out]
      rfl
    · have e4 : decide (0 < D.armed) = false := decide_eq_false hp
      have HP : Aside0 (¬ 0 < D.armed) := ⟨hp⟩
      clear hp
      go_enter Tryd.func31, Tryd.ntmps31
      go_wp2
      go_ret
      refine ⟨by rw [E'.out]; rfl, F.out ((Fr.refl _ _).setCell (.inl (by simp)) _) (D' := D.tick) (blk_put B.out 5 _ ?_) E.out.symm, (Fr.refl _ _).setCell (.inl (by simp)) _⟩
      simp only [headD, AD.tick, if_neg (show ¬ 0 < D.armed by have := HP.out; omega), W'.out]
      rfl
theorem Arm_calls {w : World} {a m : Nat} {lay : Lay} {D : AD} (h : DK w a m lay D) (n : Int) (hn : n ≤ 9223372036854775807) : Calls Tryd.prog 15 #[.pointer (some ⟨a, 0, none⟩), .int .i64 n] w fun e w' => e = .returned (.int .i64 (D.arm n).2) ∧ DK w' a m lay (D.arm n).1 ∧ Fr [a] w w' := by
  obtain ⟨c0, c1, c2, c3, c4, c5⟩ := head_cells h.head
  have f3 := blk_frozen h.head 3
  have hb := h.head
  have A := Aside0.mk h
  have B := Aside0.mk hb
  have O := Aside0.mk (h.ok.arm hn)
  clear h hb c0 c1 c2 c5
  by_cases h1 : n < -1
  · have e1 : decide (n < -1) = true := decide_eq_true h1
    have E : Aside0 (D.arm n = (D, 1)) := ⟨if_pos h1⟩
    go_enter Tryd.func15, Tryd.ntmps15
    go_wp2
    go_ret
    rw [E.out]
    exact ⟨rfl, A.out, Fr.refl _ _⟩
  · have e1 : decide (n < -1) = false := decide_eq_false h1
    by_cases h2 : D.down = true
    · have E : Aside0 (D.arm n = (D, 3)) := ⟨(if_neg h1).trans (if_pos h2)⟩
      go_enter Tryd.func15, Tryd.ntmps15
      go_wp2
      go_ret
      rw [E.out]
      exact ⟨rfl, A.out, Fr.refl _ _⟩
    · have E : Aside0 (D.arm n = ({ D with armed := n }, 0)) := ⟨(if_neg h1).trans (if_neg h2)⟩
      have h3 : D.down = false := by simpa using h2
      go_enter Tryd.func15, Tryd.ntmps15
      go_wp2
      go_ret
      have O := O.out
      rw [E.out] at O ⊢
      exact ⟨rfl, A.out.turn ((Fr.refl _ _).setCell (.inl (by simp)) _) (blk_put B.out 3 _ rfl) rfl O, (Fr.refl _ _).setCell (.inl (by simp)) _⟩
end Go.Proofs.YtakhnkkcllfbjaaDoorX
end
section
namespace Go.Proofs.YtakhnkkcllfbjaaDoorX
open Go.RowKit Go.Proofs.YtakhnkkcllfbjaaDoorW.PrintWords Go.Proofs.YtakhnkkcllfbjaaDoorW.PrintLast Go.Proofs.YtakhnkkcllfbjaaDoorW.PrintMore
set_option linter.unusedVariables false
set_option linter.unusedSimpArgs false
theorem contains_calls {w : World} {g : Nat} {tab : Array Value} (hg : w.heap[g]? = some (.cells tab 93 (0, 0))) (c : Int) (h0 : 0 ≤ c) (h1 : c < 256) (b : Bool) (hv : tab[c.toNat]? = some (.bool b)) :
    Calls Tryd.prog 71 #[.pointer (some ⟨g, 0, none⟩), .int .u8 c] w fun e w' => e = .returned (.bool b) ∧ w' = w := by
  have hc : w.cell? ⟨g, c.toNat, none⟩ = some (.bool b) := by rw [blk_cell hg, hv]
  have e1 : decide (c < 256) = true := decide_eq_true h1
  have e2 : decide (0 ≤ c) = true := decide_eq_true h0
  go_enter Tryd.func71, Tryd.ntmps71
  go_wp2
  go_ret
  exact ⟨rfl, rfl⟩
def zeroTab : Array Value := Array.replicate 256 (.bool false)
def setTab (l : List UInt8) (t : Array Value) : Array Value := l.foldl (fun t c => t.setIfInBounds c.toNat (.bool true)) t
theorem setTab_size (l : List UInt8) : ∀ t : Array Value, (setTab l t).size = t.size := by
  induction l with
  | nil => intro t; rfl
  | cons c r ih => intro t; exact (ih _).trans (by simp)
theorem setTab_snoc (l : List UInt8) (c : UInt8) (t : Array Value) : setTab (l ++ [c]) t = (setTab l t).setIfInBounds c.toNat (.bool true) := by simp [setTab]
theorem results_cell_tmp {P : Program} {fn : Func} {p q : Tmp} {ty : TypeId} (h : fn.results = #[.cell p ty, .tmp q]) (tmps : Array Value) (w : World) (g : Nat) (t : TypeId) (cs : Array Value) (fr : Nat × Nat) (d : TypeDesc)
    (hp : tmps.getD p undef = .pointer (some ⟨g, 0, none⟩)) (hg : w.heap[g]? = some (.cells cs t fr))
    (hu : P.underlying ty = some d) (hd : (match d with | .struct _ | .array _ _ => true | _ => false) = true) (hi : (P.info? ty).map (·.size) = some cs.size) :
    (results fn tmps).run P w = .ok (.tuple #[.agg cs, tmps.getD q undef]) w := by
  have hp' : tmps[p]?.getD undef = .pointer (some ⟨g, 0, none⟩) := by simpa using hp
  simp [results, h, hp', asAddr, run_loadVar_row w g t ty cs fr d hg hu hd hi]
theorem setTab_one (l : List UInt8) : ∀ t : Array Value, t.all (·.oneCell') = true → (setTab l t).all (·.oneCell') = true := by
  induction l with
  | nil => intro t h; exact h
  | cons c r ih =>
    intro t h
    refine ih _ ?_
    rw [Array.all_eq_true_iff_forall_mem] at h ⊢
    intro x hx
    rcases Array.mem_or_eq_of_mem_setIfInBounds hx with h2 | h2
    · exact h x h2
    · subst h2; rfl
theorem size93 : (Tryd.prog.info? 93).map (·.size) = some 256 := by kernel_rfl
theorem zero_is : Tryd.zeroCells93 = zeroTab := by kernel_rfl
theorem zero_one : zeroTab.all (·.oneCell') = true := by kernel_rfl
theorem zero_size : zeroTab.size = 256 := Array.size_replicate
theorem make_calls (s : ByteArray) (hs : s.size ≤ 100) (ha : ∀ c ∈ s.data.toList, c.toNat < 128) (w : World) :
    Calls Tryd.prog 61 #[.string s] w fun e w' => e = .returned (.tuple #[.agg (setTab s.data.toList zeroTab), .bool true]) ∧ Below w.heap.size w w' := by
  have HA := Aside0.mk ha
  have HS := Aside0.mk hs
  have zis := zero_is
  have zsz := zero_size
  have z1 := zero_one
  generalize zeroTab = Z at zis zsz z1 ⊢
  replace zis := Aside0.mk zis
  replace zsz := Aside0.mk zsz
  replace z1 := Aside0.mk z1
  clear ha hs
  go_enter Tryd.func61, Tryd.ntmps61
  go_wp2
  go_loopg [4] s.size (fun kq v4 wr => ∃ i : Nat, v4 = .int .i64 i ∧ Aside0 (i + kq = s.size) ∧ Aside0 (wr.heap[w.heap.size]? = some (.cells (setTab (s.data.toList.take i) Z) 93 (0, 0))) ∧ Aside0 (Below w.heap.size w wr))
  case atStart => exact ⟨0, rfl, ⟨by omega⟩, ⟨by rw [← zis.out]; exact blk_new _ _⟩, ⟨below_alloc (Below.refl _ _) _⟩⟩
  case round =>
    obtain ⟨i, rfl, h1, h2, h3⟩ := hrel
    by_cases hi : i < s.size
    · have e1 : decide ((i : Int) < (s.size : Int)) = true := decide_eq_true (by omega)
      have h2' := h2.out
      have hlen : i < s.data.toList.length := by simpa using hi
      have hc := HA.out (s.data.toList[i]) (List.getElem_mem hlen)
      have e2 : (s[i]'hi).toNat < 128 := hc
      generalize hT : setTab (s.data.toList.take i) Z = T at h2'
      have HT := Aside0.mk hT
      clear hT hc
      have e3 : decide ((128 : Int) ≤ ((s[i]'hi).toNat : Int)) = false := decide_eq_false (by omega)
      have e4 : decide ((i : Int) < 100) = true := decide_eq_true (by have := HS.out; omega)
      have e5 : IntKind.i64.wrap ((i : Int) + 1) = ((i + 1 : Nat) : Int) := by rw [i64_w]; unfold wrap64; have := HS.out; omega
      have e6 : decide (((s[i]'hi).toNat : Int) < 256) = true := decide_eq_true (by omega)
      have e7 : decide ((s[i]'hi).toNat < 256) = true := decide_eq_true (by omega)
      have hT6 : T.size = 256 := by rw [← HT.out, setTab_size, zsz.out]
      have f1 : wr.frozen? ⟨w.heap.size, (s[i]'hi).toNat, none⟩ = false := blk_frozen h2' _
      obtain ⟨u, hu⟩ : ∃ u, wr.cell? ⟨w.heap.size, (s[i]'hi).toNat, none⟩ = some u := by rw [blk_cell h2']; exact ⟨_, Array.getElem?_eq_getElem (by omega)⟩
      have H2 := Aside0.mk h2'
      have HI := Aside0.mk hi
      have hx : ∃ x, (s[i]'hi) = x := ⟨_, rfl⟩
      clear h2 h2' hT6
      go_wp2
      go_roundg (s.size - (i + 1))
      case measure => have := h1.out; omega
      case rel =>
        refine ⟨i + 1, rfl, ⟨by have := h1.out; omega⟩, ⟨?_⟩, ⟨?_⟩⟩
        · have e9 : s.data.toList.take (i + 1) = s.data.toList.take i ++ [s.data.toList[i]] := by rw [List.take_add_one, List.getElem?_eq_getElem hlen]; rfl
          rw [e9, setTab_snoc, HT.out]
          exact blk_set H2.out _ _
        · exact Below.setCell h3.out (Nat.le_refl _) _
    · have e1 : decide ((i : Int) < (s.size : Int)) = false := decide_eq_false (by omega)
      have e1' : decide (i < s.size) = false := decide_eq_false (by omega)
      have hi2 : i = s.size := by have := h1.out; omega
      have hT : s.data.toList.take i = s.data.toList := List.take_of_length_le (by rw [hi2]; simp)
      rw [hT] at h2
      have h2' := h2.out
      generalize hT : setTab s.data.toList Z = T at h2' ⊢
      have hT6 : T.size = 256 := by rw [← hT, setTab_size, zsz.out]
      have hT8 : T.all (·.oneCell') = true := by rw [← hT]; exact setTab_one _ _ z1.out
      have H2 := Aside0.mk h2'
      have HT := Aside0.mk hT
      have H6 := Aside0.mk hT6
      have H8 := Aside0.mk hT8
      clear h2 h2' hT hi2 hi hT6 hT8
      go_wp2_with (first
        | (refine wpList_load_row rfl 93 _ rfl w.heap.size rfl 93 T (0, 0) _ H2.out Tryd.underlying93 rfl (size93.trans (congrArg some H6.out.symm)) ?_)
        | (refine wpList_store_row rfl 93 _ _ rfl w.heap.size T rfl rfl 93 T H2.out (size93.trans (congrArg some H6.out.symm)) rfl H8.out ?_))
      refine bodyPost_ret (results_cell_tmp rfl _ _ w.heap.size 93 T (0, 0) _ rfl (setRow_heap _ _ _ _ _ _ H2.out) Tryd.underlying93 rfl (size93.trans (congrArg some H6.out.symm))) rfl ?_
      exact ⟨by rw [HT.out]; rfl, below_setRow h3.out (Nat.le_refl _) _⟩
end Go.Proofs.YtakhnkkcllfbjaaDoorX
end
section
namespace Go.Proofs.YtakhnkkcllfbjaaDoorX
open Go.RowKit Go.Proofs.YtakhnkkcllfbjaaDoorW.PrintWords Go.Proofs.YtakhnkkcllfbjaaDoorW.PrintLast Go.Proofs.YtakhnkkcllfbjaaDoorW.PrintMore
set_option linter.unusedVariables false
set_option linter.unusedSimpArgs false
theorem ext_at {s y : ByteArray} {k i : Nat} (h : y = s.extract 0 k) (h1 : i < y.size) (h2 : i < s.size) : s[i]'h2 = y[i]'h1 := by
  subst h
  rw [ByteArray.getElem_extract]
  simp
theorem drop_pred {l : List UInt8} {n : Nat} (h0 : 0 < n) (h : n - 1 < l.length) : l.drop (n - 1) = l[n - 1] :: l.drop n := by
  rw [List.drop_eq_getElem_cons h, show n - 1 + 1 = n by omega]
theorem bytes_at (s : ByteArray) {i : Nat} (h : i < s.size) (h2 : i < s.data.toList.length) : s.data.toList[i]'h2 = s[i]'h := by simp [ByteArray.getElem_eq_getElem_data]
theorem trimR_calls {w : World} {g : Nat} {tab : Array Value} (hg : w.heap[g]? = some (.cells tab 93 (0, 0))) (p : UInt8 → Bool) (ht : ∀ c : UInt8, tab[c.toNat]? = some (.bool (p c))) (s : ByteArray) (hs : s.size ≤ 4611686018427387904) :
    Calls Tryd.prog 63 #[.string s, .pointer (some ⟨g, 0, none⟩)] w fun e w' => (∃ r : ByteArray, e = .returned (.string r) ∧ ∃ j, j ≤ s.size ∧ r = s.extract 0 j ∧ (∀ c ∈ s.data.toList.drop j, p c = true) ∧ ∀ h : 0 < j ∧ j - 1 < s.size, p (s[j - 1]'h.2) = false) ∧ w' = w := by
  have G := Aside0.mk hg
  have HT : Aside0 (∀ c : UInt8, tab[c.toNat]? = some (.bool (p c))) := ⟨ht⟩
  have HS := Aside0.mk hs
  clear hg ht hs
  go_enter Tryd.func63, Tryd.ntmps63
  go_wp2
  go_loopg [0] s.size (fun kq v0 wr => ∃ y : ByteArray, v0 = .string y ∧ Aside0 (y.size = kq) ∧ Aside0 (y = s.extract 0 kq ∧ kq ≤ s.size ∧ ∀ c ∈ s.data.toList.drop kq, p c = true) ∧ wr = w)
  case atStart => exact ⟨s, rfl, ⟨rfl⟩, ⟨by simp, Nat.le_refl _, by rw [List.drop_of_length_le (by simp)]; simp⟩, rfl⟩
  case round =>
    obtain ⟨y, rfl, h1, h2, rfl⟩ := hrel
    have S1 : (y.size : Int) ≤ 4611686018427387904 := by have := HS.out; have := h1.out; have := h2.out.2.1; omega
    by_cases hz : 0 < y.size
    · have e1 : decide ((0 : Int) < (y.size : Int)) = true := decide_eq_true (by omega)
      have e2 : IntKind.i64.wrap ((y.size : Int) - 1) = ((y.size - 1 : Nat) : Int) := by rw [i64_w]; unfold wrap64; omega
      have hl : y.size - 1 < y.size := by omega
      have e3 : decide (y.size - 1 < y.size) = true := decide_eq_true hl
      have hb : (y[y.size - 1]'hl).toNat < 256 := (y[y.size - 1]'hl).toNat_lt
      have cC := contains_calls G.out ((y[y.size - 1]'hl).toNat : Int) (by omega) (by omega) (p (y[y.size - 1]'hl)) (HT.out _)
      have HZ := Aside0.mk hz
      cases hp : p (y[y.size - 1]'hl) with
      | false =>
        rw [hp] at cC
        have HP : Aside0 (p (y[y.size - 1]'hl) = false) := ⟨hp⟩
        clear hz S1 hb hp
        go_wp2_with (go_at_call 71; refine cC.mono ?_; rintro e w' ⟨rfl, rfl⟩)
        go_ret
        refine ⟨⟨y, rfl, y.size, ?_, ?_, ?_, ?_⟩, rfl⟩
        · rw [h1.out]; exact h2.out.2.1
        · rw [h1.out]; exact h2.out.1
        · rw [h1.out]; exact h2.out.2.2
        · intro h
          have e9 : s[y.size - 1]'h.2 = y[y.size - 1]'hl := ext_at h2.out.1 _ _
          rw [e9]; exact HP.out
      | true =>
        rw [hp] at cC
        have HP : Aside0 (p (y[y.size - 1]'hl) = true) := ⟨hp⟩
        clear hz S1 hb hp
        go_wp2_with (go_at_call 71; refine cC.mono ?_; rintro e w' ⟨rfl, rfl⟩)
        go_roundg (y.size - 1)
        case measure => have := h1.out; have := HZ.out; omega
        case rel =>
          have h2 := h2.out
          have h1 := h1.out
          have hz := HZ.out
          have hys : y.size - 1 < s.size := by omega
          refine ⟨_, rfl, ⟨?_⟩, ⟨?_, ?_, ?_⟩, rfl⟩
          · rw [ByteArray.size_extract]; omega
          · rw [h2.1, ByteArray.extract_extract, ByteArray.size_extract]; congr 1; omega
          · omega
          · intro c hc
            rw [drop_pred hz (by simpa using hys)] at hc
            rcases List.mem_cons.1 hc with rfl | hc
            · rw [bytes_at s hys, ext_at h2.1 hl hys]; exact HP.out
            · rw [h1] at hc; exact h2.2.2 c hc
    · have e1 : decide ((0 : Int) < (y.size : Int)) = false := decide_eq_false (by omega)
      have e2 : decide (0 < y.size) = false := decide_eq_false hz
      have HZ := Aside0.mk hz
      clear hz S1
      go_wp2
      go_ret
      refine ⟨⟨y, rfl, y.size, ?_, ?_, ?_, ?_⟩, rfl⟩
      · rw [h1.out]; exact h2.out.2.1
      · rw [h1.out]; exact h2.out.1
      · rw [h1.out]; exact h2.out.2.2
      · intro h; exact absurd h.1 (by have := HZ.out; omega)
theorem trimL_calls {w : World} {g : Nat} {tab : Array Value} (hg : w.heap[g]? = some (.cells tab 93 (0, 0))) (p : UInt8 → Bool) (ht : ∀ c : UInt8, tab[c.toNat]? = some (.bool (p c))) (s : ByteArray) (hs : s.size ≤ 4611686018427387904) :
    Calls Tryd.prog 62 #[.string s, .pointer (some ⟨g, 0, none⟩)] w fun e w' => (∃ r : ByteArray, e = .returned (.string r) ∧ ((∀ c ∈ s.data.toList, p c = true) → r.size = 0) ∧ (r.size = 0 → ∀ c ∈ s.data.toList, p c = true)) ∧ w' = w := by
  have G := Aside0.mk hg
  have HT : Aside0 (∀ c : UInt8, tab[c.toNat]? = some (.bool (p c))) := ⟨ht⟩
  have HS := Aside0.mk hs
  clear hg ht hs
  go_enter Tryd.func62, Tryd.ntmps62
  go_wp2
  go_loopg [0] s.size (fun kq v0 wr => ∃ y : ByteArray, v0 = .string y ∧ Aside0 (y.size = kq) ∧ Aside0 (kq ≤ s.size ∧ (∀ c ∈ y.data.toList, c ∈ s.data.toList) ∧ ∀ c ∈ s.data.toList, p c = false → c ∈ y.data.toList) ∧ wr = w)
  case atStart => exact ⟨s, rfl, ⟨rfl⟩, ⟨Nat.le_refl _, fun _ hc => hc, fun _ hc _ => hc⟩, rfl⟩
  case round =>
    obtain ⟨y, rfl, h1, h2, rfl⟩ := hrel
    have S1 : (y.size : Int) ≤ 4611686018427387904 := by have := HS.out; have := h1.out; have := h2.out.1; omega
    by_cases hz : 0 < y.size
    · have e1 : decide ((0 : Int) < (y.size : Int)) = true := decide_eq_true (by omega)
      have e1' : decide (1 ≤ y.size) = true := decide_eq_true hz
      have e3 : decide (0 < y.size) = true := decide_eq_true hz
      have hb : (y[0]'hz).toNat < 256 := (y[0]'hz).toNat_lt
      have cC := contains_calls G.out ((y[0]'hz).toNat : Int) (by omega) (by omega) (p (y[0]'hz)) (HT.out _)
      have HZ := Aside0.mk hz
      have hm : y[0]'hz ∈ y.data.toList := by rw [← bytes_at y hz (by simpa using hz)]; exact List.getElem_mem _
      cases hp : p (y[0]'hz) with
      | false =>
        rw [hp] at cC
        have HP : Aside0 (p (y[0]'hz) = false) := ⟨hp⟩
        have HM := Aside0.mk hm
        clear S1 hb hp hm
        go_wp2_with (go_at_call 71; refine cC.mono ?_; rintro e w' ⟨rfl, rfl⟩)
        go_ret
        refine ⟨⟨y, rfl, fun ha => ?_, fun h => absurd h (by have := HZ.out; omega)⟩, rfl⟩
        have := ha _ (h2.out.2.1 _ HM.out)
        rw [HP.out] at this
        cases this
      | true =>
        rw [hp] at cC
        have HP : Aside0 (p (y[0]'hz) = true) := ⟨hp⟩
        clear S1 hb hp hm
        go_wp2_with (go_at_call 71; refine cC.mono ?_; rintro e w' ⟨rfl, rfl⟩)
        go_roundg (y.size - 1)
        case measure => have := h1.out; have := HZ.out; omega
        case rel =>
          have h2 := h2.out
          have h1 := h1.out
          have hz := HZ.out
          refine ⟨_, rfl, ⟨?_⟩, ⟨?_, ?_, ?_⟩, rfl⟩
          · rw [ByteArray.size_extract]; omega
          · omega
          · intro c hc
            rw [ByteArray.data_extract, Array.toList_extract] at hc
            exact h2.2.1 c (List.mem_of_mem_drop (List.mem_of_mem_take hc))
          · intro c hc hpc
            have h5 := h2.2.2 c hc hpc
            have hl : 0 < y.data.toList.length := by simpa using hz
            rw [show y.data.toList = y.data.toList[0]'hl :: y.data.toList.drop 1 from by rw [← List.drop_eq_getElem_cons hl]; rfl] at h5
            rcases List.mem_cons.1 h5 with rfl | h6
            · rw [bytes_at y hz, HP.out] at hpc; cases hpc
            · rw [ByteArray.data_extract, Array.toList_extract, List.extract_eq_take_drop]
              rw [List.take_of_length_le (by simp)]
              exact h6
    · have e1 : decide ((0 : Int) < (y.size : Int)) = false := decide_eq_false (by omega)
      have e2 : decide (0 < y.size) = false := decide_eq_false hz
      have HZ := Aside0.mk hz
      clear hz S1
      go_wp2
      go_ret
      refine ⟨⟨y, rfl, fun _ => by have := HZ.out; omega, fun h c hc => ?_⟩, rfl⟩
      cases hpc : p c with
      | true => rfl
      | false =>
        have h5 := h2.out.2.2 c hc hpc
        have h6 : y.data.toList.length = 0 := by simpa using h
        rw [List.eq_nil_of_length_eq_zero h6] at h5
        cases h5
end Go.Proofs.YtakhnkkcllfbjaaDoorX
end
