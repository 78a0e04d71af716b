/- What New makes of a list of files, in plain words, and what lies in memory meanwhile; no conditions beyond those in each theorem's head. -/
import Derived.Test.YtakhnkkcllfbjaaDoorN1
namespace Go.Proofs.YtakhnkkcllfbjaaDoorX
open Go.RowKit Go.Proofs.YtakhnkkcllfbjaaDoorW.PrintWords Go.Proofs.YtakhnkkcllfbjaaDoorW.PrintLast Go.Proofs.YtakhnkkcllfbjaaDoorW.PrintMore
open Go.Proofs.YtakhnkkcllfbjaaDoor.PA (S37 k37 z37)
set_option linter.unusedVariables false
set_option linter.unusedSimpArgs false
def nmF (x : S37) : Nm := x.f0.data.toList
def afF (x : S37) : AF := ⟨nmF x, x.f1, x.f2⟩
def totS : List S37 → Nat
  | [] => 0
  | x :: r => x.f1.size + totS r
theorem totS_app (a b : List S37) : totS (a ++ b) = totS a + totS b := by
  induction a with
  | nil => simp [totS]
  | cons x r ih => simp only [List.cons_append, totS, ih]; omega
/-- The names of a list of files may stand beside one another. -/
def NamesOk (l : List S37) : Prop := (∀ x ∈ l, named (nmF x) = true) ∧ (l.map nmF).Nodup
def Fits (size : Int) (l : List S37) : Prop := l.length ≤ 64 ∧ (totS l : Int) ≤ size
instance (l : List S37) : Decidable (NamesOk l) := by unfold NamesOk; infer_instance
instance (size : Int) (l : List S37) : Decidable (Fits size l) := by unfold Fits; infer_instance
def putAll (l : List S37) : List AF := l.foldl (fun L x => insL (afF x) L) []
/-- What New answers. -/
def newE (size : Int) (l : List S37) : Int := if size < 0 ∨ 1048576 < size ∨ l.any badF = true then 1 else if ¬ NamesOk l then 40 else if ¬ Fits size l then 42 else 0
def newD (size : Int) (l : List S37) : AD := AD.fresh size (putAll l)
theorem putAll_snoc (l : List S37) (x : S37) : putAll (l ++ [x]) = insL (afF x) (putAll l) := by simp [putAll]
theorem putAll_take {l : List S37} {i : Nat} {x : S37} (h : l[i]? = some x) : putAll (l.take (i + 1)) = insL (afF x) (putAll (l.take i)) := by
  rw [List.take_add_one, h]
  exact putAll_snoc _ _
theorem rev_ind {P : List S37 → Prop} (h0 : P []) (h1 : ∀ l x, P l → P (l ++ [x])) (l : List S37) : P l := by
  have key : ∀ r : List S37, P r.reverse := fun r => by
    induction r with
    | nil => exact h0
    | cons x r ih => rw [List.reverse_cons]; exact h1 _ _ ih
  have := key l.reverse
  rwa [List.reverse_reverse] at this
theorem mem_putAll (l : List S37) : ∀ f, f ∈ putAll l ↔ ∃ x ∈ l, f = afF x := by
  refine rev_ind (P := fun l => ∀ f, f ∈ putAll l ↔ ∃ x ∈ l, f = afF x) (fun f => by simp [putAll]) (fun l x ih f => ?_) l
  rw [putAll_snoc, mem_insL, ih]
  simp only [List.mem_append, List.mem_singleton]
  constructor
  · rintro (h | ⟨y, hy, h⟩)
    · exact ⟨x, .inr rfl, h⟩
    · exact ⟨y, .inl hy, h⟩
  · rintro ⟨y, hy | rfl, h⟩
    · exact .inr ⟨y, hy, h⟩
    · exact .inl h
theorem putAll_length (l : List S37) : (putAll l).length = l.length := by
  refine rev_ind (P := fun l => (putAll l).length = l.length) rfl (fun l x ih => ?_) l
  rw [putAll_snoc, insL_length, ih]
  simp
theorem putAll_tot (l : List S37) : totL (putAll l) = totS l := by
  refine rev_ind (P := fun l => totL (putAll l) = totS l) rfl (fun l x ih => ?_) l
  rw [putAll_snoc, insL_tot, ih, totS_app]
  simp [totS, afF]
theorem NamesOk.app {l r : List S37} (h : NamesOk (l ++ r)) : NamesOk l := by
  refine ⟨fun x hx => h.1 x (List.mem_append.2 (.inl hx)), ?_⟩
  have := h.2
  rw [List.map_append] at this
  exact (List.nodup_append.1 this).1
theorem NamesOk.take {l : List S37} (h : NamesOk l) (i : Nat) : NamesOk (l.take i) := by
  rw [← List.take_append_drop i l] at h
  exact h.app
theorem names_snoc {l : List S37} {x : S37} : NamesOk (l ++ [x]) ↔ NamesOk l ∧ named (nmF x) = true ∧ nmF x ∉ l.map nmF := by
  constructor
  · intro h
    refine ⟨h.app, h.1 x (by simp), fun hx => ?_⟩
    have := h.2
    rw [List.map_append] at this
    exact (List.nodup_append.1 this).2.2 _ hx _ (by simp) rfl
  · rintro ⟨h1, h2, h3⟩
    refine ⟨fun y hy => ?_, ?_⟩
    · rcases List.mem_append.1 hy with hy | hy
      · exact h1.1 y hy
      · obtain rfl := List.mem_singleton.1 hy; exact h2
    · rw [List.map_append]
      refine List.nodup_append.2 ⟨h1.2, by simp, fun a ha b hb => ?_⟩
      simp at hb
      subst hb
      exact fun e => h3 (e ▸ ha)
theorem names_take {l : List S37} {i : Nat} {x : S37} (hi : l[i]? = some x) : NamesOk (l.take (i + 1)) ↔ NamesOk (l.take i) ∧ named (nmF x) = true ∧ nmF x ∉ (l.take i).map nmF := by
  rw [List.take_add_one, hi]
  exact names_snoc
theorem putAll_rising {l : List S37} (h : NamesOk l) : Rising (putAll l) := by
  refine rev_ind (P := fun l => NamesOk l → Rising (putAll l)) (fun _ => List.Pairwise.nil) (fun l x ih h => ?_) l h
  rw [putAll_snoc]
  obtain ⟨h1, _, h3⟩ := names_snoc.1 h
  refine insL_rising (ih h1) (fun f hf e => h3 ?_)
  obtain ⟨y, hy, rfl⟩ := (mem_putAll l f).1 hf
  exact List.mem_map.2 ⟨y, hy, e⟩
theorem newD_ok {size : Int} {l : List S37} (h : newE size l = 0) : (newD size l).Ok := by
  unfold newE at h
  by_cases h1 : size < 0 ∨ 1048576 < size ∨ l.any badF = true
  · rw [if_pos h1] at h; cases h
  rw [if_neg h1] at h
  by_cases h2 : NamesOk l
  · rw [if_neg (not_not_intro h2)] at h
    by_cases h3 : Fits size l
    · have h4 : ¬ size < 0 := fun hh => h1 (.inl hh)
      have h5 : ¬ 1048576 < size := fun hh => h1 (.inr (.inl hh))
      refine ⟨by show 0 ≤ size; omega, by show size ≤ 1048576; omega, ?_, ?_, putAll_rising h2, fun f hf => ?_, fun f hf => ?_, by show (-1 : Int) ≤ -1; omega, by show (-1 : Int) ≤ _; omega, by show _ ≤ (0 : Int); omega, by show (0 : Int) ≤ _; omega⟩
      · show (totL (putAll l) : Int) ≤ size
        rw [putAll_tot]; exact h3.2
      · show (putAll l).length ≤ 64
        rw [putAll_length]; exact h3.1
      · obtain ⟨x, hx, rfl⟩ := (mem_putAll l f).1 hf
        have h6 : badF x = false := by
          cases hb : badF x with
          | false => rfl
          | true => exact absurd (.inr (.inr (List.any_eq_true.2 ⟨x, hx, hb⟩))) h1
        unfold badF at h6
        simp at h6
        show 0 ≤ x.f2 ∧ x.f2 ≤ x.f1.size
        omega
      · obtain ⟨x, hx, rfl⟩ := (mem_putAll l f).1 hf
        exact h2.1 x hx
    · rw [if_pos h3] at h; cases h
  · rw [if_pos h2] at h; cases h
/-- The files that New has made, while it makes them. -/
structure NF (w : World) (a m : Nat) (lay : Lay) (D : AD) : Prop where
  head : w.heap[a]? = some (.cells (headD m D) 64 (0, 0))
  mlt : m < w.heap.size
  file : ∀ f ∈ D.L, FileAt w (lay f.name) f
  sep : Sep a m lay D.L
theorem NF.add {w w' : World} {a m : Nat} {lay : Lay} {D D' : AD} (h : NF w a m lay D) (f' : AF) (p : Nat × Value)
    (hh : w'.heap[a]? = some (.cells (headD m D') 64 (0, 0))) (hL : D'.L = insL f' D.L) (hn : ∀ q ∈ D.L, q.name ≠ f'.name) (hat : FileAt w' p f') (hf : Fr [a, m] w w')
    (hp : ∀ k ∈ ownF p, w.heap.size ≤ k) (hself : p.1 ∉ p.2.ownBlock.toList) :
    NF w' a m (setLay lay f'.name p) D' ∧ ∀ k ∈ ownL (setLay lay f'.name p) D'.L, k ∈ ownL lay D.L ∨ w.heap.size ≤ k := by
  have e1 : setLay lay f'.name p f'.name = p := if_pos rfl
  have e2 : ∀ {q : AF}, q.name ≠ f'.name → setLay lay f'.name p q.name = lay q.name := fun hq => if_neg hq
  have hL' : ∀ q ∈ D'.L, q = f' ∨ (q ∈ D.L ∧ q.name ≠ f'.name) := fun q hq => by
    rw [hL] at hq
    rcases mem_insL.1 hq with h1 | h1
    · exact .inl h1
    · exact .inr ⟨h1, hn q h1⟩
  have hold : ∀ q ∈ D.L, ∀ k ∈ ownF (lay q.name), w'.heap[k]? = w.heap[k]? := fun q hq k hk => hf.block k ((h.file q hq).lt k hk) (by
    simp only [List.mem_cons, List.not_mem_nil, or_false, not_or]
    exact ⟨fun e => h.sep.afar q hq (e ▸ hk), fun e => h.sep.mfar q hq (e ▸ hk)⟩)
  have hnew : ∀ k ∈ ownF p, ∀ q ∈ D.L, k ∉ ownF (lay q.name) := fun k hk q hq hk2 => by
    have := (h.file q hq).lt k hk2
    have := hp k hk
    omega
  refine ⟨⟨hh, Nat.lt_of_lt_of_le h.mlt hf.size, fun q hq => ?_, ⟨h.sep.am, fun q hq => ?_, fun q hq => ?_, fun q hq => ?_, fun q hq g hg hne k hk => ?_⟩⟩, fun k hk => ?_⟩
  · rcases hL' q hq with rfl | ⟨h1, h2⟩
    · rw [e1]; exact hat
    · rw [e2 h2]; exact (h.file q h1).step (hold q h1)
  · rcases hL' q hq with rfl | ⟨h1, h2⟩
    · rw [e1]
      intro hk
      have := hp a hk
      have := blk_lt h.head
      omega
    · rw [e2 h2]; exact h.sep.afar q h1
  · rcases hL' q hq with rfl | ⟨h1, h2⟩
    · rw [e1]
      intro hk
      have := hp m hk
      have := h.mlt
      omega
    · rw [e2 h2]; exact h.sep.mfar q h1
  · rcases hL' q hq with rfl | ⟨h1, h2⟩
    · rw [e1]; exact hself
    · rw [e2 h2]; exact h.sep.self q h1
  · rcases hL' q hq with rfl | ⟨h1, h2⟩
    · rw [e1] at hk
      rcases hL' g hg with rfl | ⟨k1, k2⟩
      · exact absurd rfl hne
      · rw [e2 k2]; exact hnew k hk g k1
    · rw [e2 h2] at hk
      rcases hL' g hg with rfl | ⟨k1, k2⟩
      · rw [e1]; exact fun hk2 => hnew k hk2 q h1 hk
      · rw [e2 k2]; exact h.sep.two q h1 g k1 hne k hk
  · obtain ⟨q, hq, hk⟩ := mem_ownL.1 hk
    rcases hL' q hq with rfl | ⟨h1, h2⟩
    · rw [e1] at hk
      exact .inr (hp k hk)
    · rw [e2 h2] at hk
      exact .inl (mem_ownL.2 ⟨q, h1, hk⟩)
theorem NF.zero {w : World} {a m : Nat} {lay : Lay} {size : Int} (l : List S37) (h : w.heap[a]? = some (.cells (headD m (AD.fresh size [])) 64 (0, 0))) (hm : m < w.heap.size) (hn : a ≠ m) : NF w a m lay (AD.fresh size (putAll (l.take 0))) :=
  (⟨h, hm, fun f hf => (by cases hf), ⟨hn, fun f hf => (by cases hf), fun f hf => (by cases hf), fun f hf => (by cases hf), fun f hf => (by cases hf)⟩⟩ : NF w a m lay (AD.fresh size []))
/-- A head alone has turned, and what is new. -/
theorem NF.turn {w w' : World} {a m : Nat} {lay : Lay} {D D' : AD} (h : NF w a m lay D) (hf : Fr [a] w w') (hh : w'.heap[a]? = some (.cells (headD m D') 64 (0, 0))) (hL : D'.L = D.L) : NF w' a m lay D' := by
  refine ⟨hh, Nat.lt_of_lt_of_le h.mlt hf.size, fun f hf' => ?_, by rw [hL]; exact h.sep⟩
  rw [hL] at hf'
  refine (h.file f hf').step (fun k hk => hf.block k ((h.file f hf').lt k hk) ?_)
  simp only [List.mem_singleton]
  rintro rfl
  exact h.sep.afar f hf' hk
/-- The map of names while the names are read. -/
def M1 (l : List S37) (i : Nat) (z : Nm) : Option (Option Nat) := if z ∈ (l.take i).map nmF then some none else none
/-- The map of names while the files are made. -/
def M2 (lay : Lay) (l : List S37) (i : Nat) (z : Nm) : Option (Option Nat) := if z ∈ (l.take i).map nmF then some (some (lay z).1) else if z ∈ l.map nmF then some none else none
theorem M1_end (lay : Lay) (l : List S37) : M1 l l.length = M2 lay l 0 := by
  funext z
  unfold M1 M2
  rw [List.take_length, List.take_zero]
  simp
theorem hasL_putAll (l : List S37) (z : Nm) : hasL z (putAll l) = true ↔ z ∈ l.map nmF := by
  unfold hasL
  constructor
  · intro h
    cases hf : findL z (putAll l) with
    | none => rw [hf] at h; cases h
    | some f =>
      obtain ⟨h1, h2⟩ := findL_name hf
      obtain ⟨x, hx, rfl⟩ := (mem_putAll l f).1 h2
      exact List.mem_map.2 ⟨x, hx, h1⟩
  · intro h
    obtain ⟨x, hx, rfl⟩ := List.mem_map.1 h
    cases hf : findL (nmF x) (putAll l) with
    | some f => rfl
    | none => exact absurd rfl (findL_none.1 hf (afF x) ((mem_putAll l _).2 ⟨x, hx, rfl⟩))
theorem M2_end (lay : Lay) (l : List S37) : M2 lay l l.length = mapL lay (putAll l) := by
  funext z
  unfold M2 mapL
  rw [List.take_length]
  by_cases h : z ∈ l.map nmF
  · rw [if_pos h, if_pos ((hasL_putAll l z).2 h)]
  · rw [if_neg h, if_neg h, if_neg (fun hh => h ((hasL_putAll l z).1 hh))]
theorem M1_step {l : List S37} {i : Nat} {x : S37} (hi : l[i]? = some x) : (fun z => if z = nmF x then some none else M1 l i z) = M1 l (i + 1) := by
  funext z
  unfold M1
  rw [List.take_add_one, hi]
  simp only [Option.toList_some, List.map_append, List.map_cons, List.map_nil, List.mem_append, List.mem_singleton]
  by_cases h : z = nmF x
  · rw [if_pos h, if_pos (.inr h)]
  · rw [if_neg h]
    simp only [h, or_false]
theorem M2_step {lay : Lay} {l : List S37} {i : Nat} {x : S37} (p : Nat × Value) (hi : l[i]? = some x) (hn : nmF x ∉ (l.take i).map nmF) : (fun z => if z = nmF x then some (some p.1) else M2 lay l i z) = M2 (setLay lay (nmF x) p) l (i + 1) := by
  funext z
  unfold M2
  rw [List.take_add_one, hi]
  simp only [Option.toList_some, List.map_append, List.map_cons, List.map_nil, List.mem_append, List.mem_singleton]
  by_cases h : z = nmF x
  · rw [if_pos h, if_pos (.inr h)]
    simp [setLay, h]
  · rw [if_neg h]
    simp only [h, or_false, setLay, if_false]
theorem M2_has {lay : Lay} {l : List S37} {i : Nat} {x : S37} (hi : l[i]? = some x) : (M2 lay l i (nmF x)).isSome = true := by
  unfold M2
  split
  · rfl
  · rw [if_pos (List.mem_map.2 ⟨x, List.mem_of_getElem? hi, rfl⟩)]; rfl
end Go.Proofs.YtakhnkkcllfbjaaDoorX
