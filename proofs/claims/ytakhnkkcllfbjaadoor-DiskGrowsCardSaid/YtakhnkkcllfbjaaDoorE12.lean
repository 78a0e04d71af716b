/- slices.Sorted(maps.Keys(d.files)): the names, rising. -/
import Derived.Test.YtakhnkkcllfbjaaDoorE11
namespace Go.Proofs.YtakhnkkcllfbjaaDoorX
open Go.RowKit Go.Maps Go.Sort Go.Shelf Go.Proofs.YtakhnkkcllfbjaaDoorW.PrintWords Go.Proofs.YtakhnkkcllfbjaaDoorW.PrintLast Go.Proofs.YtakhnkkcllfbjaaDoorW.PrintMore
set_option linter.unusedVariables false
set_option linter.unusedSimpArgs false
theorem keys_calls (mb : Option Nat) (W : World) : Calls Tryd.prog 33 #[.map mb] W fun e w' => e = .returned (.func (.func 53) #[] #[.pointer (some ⟨W.heap.size, 0, none⟩)]) ∧ w' = W.alloc (.cells #[.map mb] 62) :=
  (callsIn_wide (n := 5)).1 (AnyZ.keys_in YtakhnkkcllfbjaaDoorSh.keysA Fence.wide 5 trivial rfl mb W)
theorem sorts_in (m : Nat) : AnyZ.SortsIn Tryd.prog YtakhnkkcllfbjaaDoorSh.sortedA_ren Fence.wide m :=
  ⟨fun blk off cap ss W hH hblk hsz => callsIn_wide.2 (AnyM.slices_Sort_string YtakhnkkcllfbjaaDoorSh.sortA blk off cap ss W hH hblk hsz),
   fun p cap W => callsIn_wide.2 (AnyM.slices_Sort_string_none YtakhnkkcllfbjaaDoorSh.sortA p cap W)⟩
theorem names_sorted {L : List AF} (h : Rising L) : (namesL L).mergeSort (fun x y => decide (x ≤ y)) = namesL L := by
  refine List.mergeSort_of_pairwise ?_
  refine List.Pairwise.imp (fun hab => ?_) h
  exact decide_eq_true (List.le_of_lt hab)
theorem names_nodup {L : List AF} (h : Rising L) : (namesL L).Nodup := List.Pairwise.imp (fun hab => nm_ne hab) h
theorem mem_names {L : List AF} {x : Nm} : x ∈ namesL L ↔ hasL x L = true := by
  unfold hasL namesL
  rw [List.mem_map]
  constructor
  · rintro ⟨f, hf, rfl⟩
    cases h : findL f.name L with
    | none => exact absurd rfl (findL_none.1 h f hf)
    | some g => rfl
  · intro h
    cases hf : findL x L with
    | none => rw [hf] at h; cases h
    | some g => obtain ⟨h1, h2⟩ := findL_name hf; exact ⟨g, h2, h1⟩
theorem perm_names {w : World} {m : Nat} {lay : Lay} {D : AD} {D0 : DataW Unit} {n : Nat} (h1 : w.ownsMap Tryd.prog 9 ptrElem m n D0) (h3 : ∀ x, Maps.has D0 (.string x) = (mapL lay D.L x).isSome) (hr : Rising D.L) : (namesL D.L).Perm (strKeys D0) := by
  obtain ⟨es, rfl, hp, hk⟩ := h1.entries (Maps.string_keyed Tryd.underlying9)
  obtain ⟨es', he, hk2⟩ := h1.keysOf
  cases he
  refine perm_strKeys hp (fun p hpm => ?_) (names_nodup hr) (fun x => ?_)
  · obtain ⟨v, hv⟩ := hk2 p hpm
    obtain ⟨x, _, h, _⟩ := Maps.keyOf_str Tryd.underlying9 hv
    exact ⟨x, h⟩
  · rw [h3 x, mem_names]
    unfold mapL
    split <;> simp_all
theorem row_shape {w : World} {base : Nat} {e : TypeId} {size : Nat} {v : Value} {n : Nat} {xs : List Value} (h : w.ownsRow base e size v n xs) : ∃ A c, v = .slice A n c := by
  rcases h.2 with ⟨rfl, rfl⟩ | ⟨g, cap, cur, rfl, _⟩
  · exact ⟨_, _, rfl⟩
  · exact ⟨_, _, rfl⟩
theorem sorted_calls {w : World} {a m : Nat} {lay : Lay} {D : AD} (h : DK w a m lay D) :
    Calls Tryd.prog 32 #[.func (.func 53) #[] #[.pointer (some ⟨w.heap.size, 0, none⟩)]] (w.alloc (.cells #[.map (some m)] 62)) fun e w' => ∃ v, e = .returned v ∧ w'.ownsRow w.heap.size 9 1 v D.L.length ((namesL D.L).map encStr) ∧ Below (w.heap.size + 1) (w.alloc (.cells #[.map (some m)] 62)) w' := by
  refine (callsIn_wide (n := 5)).1 ?_
  obtain ⟨D0, hown, hsz, h3⟩ := h.map
  have hbl := hown.lt
  have hmany := h.ok.many
  have hseq : SeqGives Fence.wide 2 Tryd.prog 53 #[.pointer (some ⟨w.heap.size, 0, none⟩)] encStr (fun ss => ss.Perm (strKeys D0)) (Maps.size D0) (w.alloc (.cells #[.map (some m)] 62)) :=
    AnyZ.keys_gives (ρ := YtakhnkkcllfbjaaDoorSh.keysA_ren) { YtakhnkkcllfbjaaDoorSh.keysA with } Fence.wide _ trivial rfl (by omega) w.heap.size m _ D0 _ (by simp) (by simp) (by
      obtain ⟨es, clock, hb, Ft, hs, hD⟩ := hown
      exact ⟨es, clock, (Below.heap_alloc _ _ m hbl).trans hb, Ft, hs, hD⟩)
  have cS := AnyZ.sorted_in YtakhnkkcllfbjaaDoorSh.sortedA Fence.wide 5 trivial trivial trivial trivial rfl (by omega) (sorts_in _) (enters_of Tryd.func52 (by kernel_rfl) rfl) 53 #[.pointer (some ⟨w.heap.size, 0, none⟩)] trivial (enters_of Tryd.func53 (by kernel_rfl) rfl) _ _ (by rw [hsz]; unfold maxLen; omega) (by rw [hsz]; omega) _ hseq
  change CallsIn _ _ Tryd.prog 32 _ _ _ at cS
  refine cS.mono ?_
  rintro e w' ⟨v, ss, rfl, hS, hrow, hnil, hb⟩
  have hp := perm_names hown (fun x => (h3 x).1) h.ok.rising
  have e1 : ss.mergeSort (fun x y => decide (x ≤ y)) = namesL D.L := by
    rw [← names_sorted h.ok.rising]
    exact mergeSort_of_perm (hS.trans hp.symm)
  have e2 : ss.length = D.L.length := by rw [hS.length_eq, ← hp.length_eq]; simp [namesL]
  have hs1 : (w.alloc (.cells #[.map (some m)] 62)).heap.size = w.heap.size + 1 := by simp
  rw [e1, e2, hs1] at hrow
  rw [hs1] at hb
  exact ⟨v, rfl, ownsRow_base_a hrow (by omega), hb⟩
end Go.Proofs.YtakhnkkcllfbjaaDoorX
