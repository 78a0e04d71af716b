/- What is next behind a text; no program's steps in sight; no conditions beyond those in each theorem's head. -/
import Derived.Test.YtohknmlcleifpaaDoorPS6
namespace Go.Proofs.YtohknmlcleifpaaDoor.PS
open Go.RowKit Go.Proofs.YtohknmlcleifpaaDoorW.PrintWords Go.Proofs.YtohknmlcleifpaaDoorW.PrintLast Go.Proofs.YtohknmlcleifpaaDoorW.PrintMore Go.Proofs.YtohknmlcleifpaaDoorX Go.Proofs.YtohknmlcleifpaaDoorL Go.Proofs.YtohknmlcleifpaaDoor.PA
set_option linter.unusedVariables false
set_option linter.unusedSimpArgs false

/-! ### next -/
def nxt (s : ByteArray) : Nat → ByteArray × Bool
  | 0 => (⟨#[]⟩, false)
  | n + 1 => if bt s (n : Int) = 255 then nxt s n else (s.extract 0 n ++ strOfNums [(bt s (n : Int) + 1) % 256], true)
theorem next_step (n : Nat) (h : n < 1000000000000000) : wrap64 (((n + 1 : Nat) : Int) - 1) = (n : Int) := by unfold wrap64; omega
theorem size_append (s t : ByteArray) : (s ++ t).size = s.size + t.size := by
  rw [← bytesOf_length, bytesOf_append, List.length_append, bytesOf_length, bytesOf_length]
theorem next_loop (s : ByteArray) (hs : s.size < 1000000000000000) : ∀ n, n ≤ s.size → ∀ k, n + 1 ≤ k → key_Next.l0 k s (n : Int) = some (nxt s n)
  | n, h, 0, hk => by omega
  | 0, h, k + 1, hk => by rw [key_Next.l0, if_neg (by omega), if_pos (by omega), nxt]
  | n + 1, h, k + 1, hk => by
    rw [key_Next.l0, if_pos (by omega), next_step n (by omega), if_pos (by omega), if_pos (by omega), nxt]
    by_cases e : bt s (n : Int) = 255
    · rw [if_pos e, if_pos e]
      exact next_loop s hs n (by omega) k (by omega)
    · rw [if_neg e, if_neg e, if_neg (by omega), if_pos (by omega), some_bind, Int.toNat_natCast, if_pos]
      rw [size_strOfNums, ByteArray.size_extract]
      simp only [List.length_cons, List.length_nil]
      omega
theorem next_row (s : ByteArray) (hs : s.size < 1000000000000000) {k : Nat} (hk : s.size + 1 ≤ k) : key_Next.f k s = some (nxt s s.size) := next_loop s hs s.size (Nat.le_refl _) k hk
/-- What next is, in bytes. -/
theorem nxt_is (s : ByteArray) : ∀ n, n ≤ s.size → (∀ x ∈ (bytesOf s).drop n, x = 255) →
    (nxt s n = (⟨#[]⟩, false) ∧ ∀ x ∈ bytesOf s, x = 255) ∨ (∃ p c f, bytesOf s = p ++ c :: f ∧ c < 255 ∧ (∀ x ∈ f, x = 255) ∧ (nxt s n).2 = true ∧ bytesOf (nxt s n).1 = p ++ [c + 1])
  | 0, h, hf => .inl ⟨rfl, by rwa [List.drop_zero] at hf⟩
  | n + 1, h, hf => by
    have hn : n < (bytesOf s).length := by rw [bytesOf_length]; omega
    have hg : bt s (n : Int) = (bytesOf s)[n] := by rw [bt_eq, rd_get (by rw [Int.toNat_natCast]; exact hn)]; rfl
    have hb := bt_range s (n : Int)
    rw [nxt]
    by_cases e : bt s (n : Int) = 255
    · rw [if_pos e]
      refine nxt_is s n (by omega) ?_
      rw [List.drop_eq_getElem_cons hn, ← hg]
      intro x hx
      rcases List.mem_cons.1 hx with rfl | hx
      · exact e
      · exact hf x hx
    · rw [if_neg e]
      refine .inr ⟨(bytesOf s).take n, bt s (n : Int), (bytesOf s).drop (n + 1), ?_, by omega, hf, rfl, ?_⟩
      · rw [hg, ← List.drop_eq_getElem_cons hn, List.take_append_drop]
      · show bytesOf (s.extract 0 n ++ strOfNums [(bt s (n : Int) + 1) % 256]) = _
        rw [bytesOf_append, bytesOf_extract_front, bytesOf_strOfNums (Bytes.cons (by omega) (by omega) Bytes.nil), show (bt s (n : Int) + 1) % 256 = bt s (n : Int) + 1 from by omega]
theorem lt_front : ∀ (s r : List Int), ltI (s ++ r) s = false
  | [], r => by cases r <;> rfl
  | c :: s, r => by simp [ltI, lt_front s r]
theorem full_front : ∀ {f t : List Int}, (∀ x ∈ f, x = 255) → Bytes t → ltI t f = false → ∃ r, t = f ++ r
  | [], t, _, _, _ => ⟨t, rfl⟩
  | c :: f, [], hf, ht, h => by simp [ltI] at h
  | c :: f, d :: t, hf, ht, h => by
    have hc := hf c (List.mem_cons_self ..)
    have hd := ht d (List.mem_cons_self ..)
    simp only [ltI, Bool.or_eq_false_iff, Bool.and_eq_false_iff, decide_eq_false_iff_not] at h
    have e : d = c := by omega
    obtain ⟨r, hr⟩ := full_front (fun x hx => hf x (List.mem_cons_of_mem _ hx)) (fun x hx => ht x (List.mem_cons_of_mem _ hx)) (h.2.resolve_left (fun g => g e))
    exact ⟨r, by rw [e, hr]; rfl⟩
theorem between : ∀ (p : List Int) {c : Int} {f t : List Int}, ltI t (p ++ c :: f) = false → ltI t (p ++ [c + 1]) = true → ∃ t', t = p ++ c :: t' ∧ ltI t' f = false
  | [], c, f, [], h, g => by simp [ltI] at h
  | [], c, f, d :: t, h, g => by
    simp only [List.nil_append, ltI, Bool.or_eq_false_iff, Bool.and_eq_false_iff, decide_eq_false_iff_not] at h
    simp only [List.nil_append, ltI, Bool.or_eq_true, Bool.and_eq_true, decide_eq_true_eq] at g
    have e : d = c := by
      rcases g with g | ⟨_, g⟩
      · omega
      · simp at g
    exact ⟨t, by rw [e]; rfl, h.2.resolve_left (fun k => k e)⟩
  | a :: p, c, f, [], h, g => by simp [ltI] at h
  | a :: p, c, f, d :: t, h, g => by
    simp only [List.cons_append, ltI, Bool.or_eq_false_iff, Bool.and_eq_false_iff, decide_eq_false_iff_not] at h
    simp only [List.cons_append, ltI, Bool.or_eq_true, Bool.and_eq_true, decide_eq_true_eq] at g
    have e : d = a := by
      rcases g with g | ⟨g, _⟩
      · exact absurd g h.1
      · exact g
    obtain ⟨t', h1, h2⟩ := between p (h.2.resolve_left (fun k => k e)) (by
      rcases g with g | ⟨_, g⟩
      · exact absurd g h.1
      · exact g)
    exact ⟨t', by rw [e, h1]; rfl, h2⟩
/-- From s on and below next of s lies just what begins with s. -/
theorem nexts (s t : ByteArray) : ((bytesOf t).take s.size = bytesOf s ↔ (ltI (bytesOf t) (bytesOf s) = false ∧ ((nxt s s.size).2 = true → ltI (bytesOf t) (bytesOf (nxt s s.size).1) = true))) ∧ ((nxt s s.size).2 = true ↔ ¬ ∀ x ∈ bytesOf s, x = 255) := by
  have hz : ∀ x ∈ (bytesOf s).drop s.size, x = 255 := by rw [List.drop_of_length_le (by rw [bytesOf_length]; exact Nat.le_refl _)]; intro x hx; cases hx
  have fr : (bytesOf t).take s.size = bytesOf s → bytesOf t = bytesOf s ++ (bytesOf t).drop s.size := fun h => by
    conv => rhs; lhs; rw [← h]
    exact (List.take_append_drop _ _).symm
  have bk : ∀ r, bytesOf t = bytesOf s ++ r → (bytesOf t).take s.size = bytesOf s := fun r h => by rw [h, List.take_left' (bytesOf_length s)]
  rcases nxt_is s s.size (Nat.le_refl _) hz with ⟨h1, h2⟩ | ⟨p, c, f, h1, h2, h3, h4, h5⟩
  · rw [h1]
    refine ⟨⟨fun h => ⟨?_, fun g => by cases g⟩, fun h => ?_⟩, ⟨fun g => (by cases g), fun g => absurd h2 g⟩⟩
    · rw [fr h]; exact lt_front _ _
    · obtain ⟨r, hr⟩ := full_front h2 (bytesOf_bytes t) h.1
      exact bk r hr
  · rw [h5]
    refine ⟨⟨fun h => ⟨?_, fun _ => ?_⟩, fun h => ?_⟩, ⟨fun _ g => ?_, fun _ => h4⟩⟩
    · rw [fr h]; exact lt_front _ _
    · rw [fr h, h1, List.append_assoc]
      exact ltI_pre p (by rw [List.cons_append, ltI]; simp; exact .inl (by omega))
    · rw [h1] at h
      obtain ⟨t', e1, e2⟩ := between p h.1 (h.2 h4)
      have ht' : Bytes t' := fun x hx => bytesOf_bytes t x (by rw [e1]; simp [hx])
      obtain ⟨r, hr⟩ := full_front h3 ht' e2
      refine bk r ?_
      rw [e1, hr, h1, List.append_assoc]; rfl
    · have := g c (by rw [h1]; simp)
      omega
end Go.Proofs.YtohknmlcleifpaaDoor.PS
