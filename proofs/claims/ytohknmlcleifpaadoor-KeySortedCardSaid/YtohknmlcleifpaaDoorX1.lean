/- Contracts, written by hand, of what the printer does not print of package key's road: strings.Compare, strings.ReplaceAll (the byte 0 by 0, 255), key.text; no conditions beyond those in each theorem's head. -/
import Derived.Test.YtohknmlcleifpaaDoorX0
import Derived.Test.YtohknmlcleifpaaDoorRA
namespace Go.Proofs.YtohknmlcleifpaaDoorX
open Go.RowKit Go.Lib Go.Proofs.YtohknmlcleifpaaDoorSh Go.Proofs.YtohknmlcleifpaaDoorRA Go.Proofs.YtohknmlcleifpaaDoorW.PrintWords Go.Proofs.YtohknmlcleifpaaDoorW.PrintLast
set_option linter.unusedVariables false

def strings_Compare.f (a b : ByteArray) : Option Int := some (Lib.compareBytes a.data.toList b.data.toList)
theorem strings_Compare.calls (a0 a1 : ByteArray) (r : Int) (w : World) (h : strings_Compare.f a0 a1 = some r) :
    Calls Tryd.prog 33 #[.string a0, .string a1] w fun e w' => e = .returned (.int .i64 r) ∧ Drawn0 w w' := by
  obtain rfl := Option.some.inj h
  refine (YtohknmlcleifpaaDoorSh.strings_Compare a0 a1 w).mono ?_
  rintro e w' ⟨rfl, rfl⟩
  exact ⟨rfl, ⟨0, rfl⟩⟩

def strings_ReplaceAll.f (s old new : ByteArray) : Option ByteArray := if old = ⟨#[0]⟩ ∧ new = ⟨#[0, 255]⟩ ∧ s.size ≤ 1000000 then some ⟨(dbl s.data.toList).toArray⟩ else none
set_option maxHeartbeats 1000000 in
theorem strings_ReplaceAll.calls (a0 a1 a2 : ByteArray) (r : ByteArray) (w : World) (h : strings_ReplaceAll.f a0 a1 a2 = some r) :
    Calls Tryd.prog 30 #[.string a0, .string a1, .string a2] w fun e w' => e = .returned (.string r) ∧ Below w.heap.size w w' := by
  unfold strings_ReplaceAll.f at h
  split at h
  · rename_i hc
    obtain ⟨rfl, rfl, hs⟩ := hc
    obtain rfl := Option.some.inj h
    have c : Calls Tryd.prog 35 #[.string a0, .string ⟨#[0]⟩, .string ⟨#[0, 255]⟩, .int .i64 (-1)] w fun e w' => e = .returned (.string ⟨(dbl a0.data.toList).toArray⟩) ∧ Below w.heap.size w w' := by
      by_cases h0 : a0.data.toList.count 0 = 0
      · refine (replace_none a0 w h0).mono ?_
        rintro e w' ⟨rfl, rfl⟩
        exact ⟨by rw [dbl_none h0, Lib.mk_data], Below.refl _ _⟩
      · exact replace_some a0 w hs (by omega)
    go_enter Tryd.func30, Tryd.ntmps30
    go_wp2_with (go_at_call 35; refine c.mono ?_; rintro e w' ⟨rfl, hw⟩)
    go_ret
    exact ⟨rfl, hw⟩
  · cases h

def tx : List UInt8 → List UInt8 → Option (List UInt8 × List UInt8)
  | [], _ => none
  | [_], _ => none
  | b :: c :: l, acc => if b = 0 then (if c = 0 then some (acc, l) else if c = 255 then tx l (acc ++ [0]) else none) else tx (c :: l) (acc ++ [b])
/-- What a walk through the text comes to at the first byte 0. -/
theorem tx_find : ∀ (l acc : List UInt8), (Lib.indexByte l 0 = -1 ∧ tx l acc = none) ∨ (∃ j : Nat, Lib.indexByte l 0 = (j : Int) ∧ j + 1 = l.length ∧ tx l acc = none) ∨
    (∃ (j : Nat) (c : UInt8), Lib.indexByte l 0 = (j : Int) ∧ l[j + 1]? = some c ∧ tx l acc = if c = 0 then some (acc ++ l.take j, l.drop (j + 2)) else if c = 255 then tx (l.drop (j + 2)) (acc ++ l.take j ++ [0]) else none)
  | [], acc => .inl ⟨rfl, rfl⟩
  | [b], acc => by
    by_cases hb : b = 0
    · subst hb; exact .inr (.inl ⟨0, rfl, rfl, rfl⟩)
    · refine .inl ⟨?_, rfl⟩
      have e1 : (b == (0 : UInt8)) = false := by simpa using hb
      simp [Lib.indexByte, e1]
  | b :: c :: l, acc => by
    by_cases hb : b = 0
    · subst hb
      refine .inr (.inr ⟨0, c, by simp [Lib.indexByte], rfl, ?_⟩)
      rw [tx, if_pos rfl]
      simp
    · have e1 : (b == (0 : UInt8)) = false := by simpa using hb
      have step : Lib.indexByte (b :: c :: l) 0 = if Lib.indexByte (c :: l) 0 == -1 then -1 else Lib.indexByte (c :: l) 0 + 1 := by
        rw [Lib.indexByte, e1]; rfl
      rw [step, tx, if_neg hb]
      rcases tx_find (c :: l) (acc ++ [b]) with ⟨h1, h2⟩ | ⟨j, h1, h2, h3⟩ | ⟨j, d, h1, h2, h3⟩
      · exact .inl ⟨by rw [h1]; rfl, h2⟩
      · refine .inr (.inl ⟨j + 1, ?_, by rw [List.length_cons, ← h2], h3⟩)
        rw [h1, if_neg (by rw [beq_iff_eq]; omega)]; rfl
      · refine .inr (.inr ⟨j + 1, d, ?_, h2, ?_⟩)
        · rw [h1, if_neg (by rw [beq_iff_eq]; omega)]; rfl
        · rw [h3]; simp
def key_text.f (s : ByteArray) : Option (ByteArray × ByteArray × Bool) := if s.size ≤ 140737488351232 then (match tx s.data.toList [] with | some (t, r) => some (⟨t.toArray⟩, ⟨r.toArray⟩, true) | none => some (⟨#[]⟩, ⟨#[]⟩, false)) else none

def txR (s : List UInt8) (acc : List UInt8) : ByteArray × ByteArray × Bool := match tx s acc with | some (t, r) => (⟨t.toArray⟩, ⟨r.toArray⟩, true) | none => (⟨#[]⟩, ⟨#[]⟩, false)
set_option maxHeartbeats 16000000 in
set_option maxRecDepth 1000000 in
theorem key_text_walk (s : ByteArray) (w : World) (hs : s.size ≤ 140737488351232) :
    Calls Tryd.prog 31 #[.string s] w fun e w' => e = .returned (.tuple #[.string (txR s.data.toList []).1, .string (txR s.data.toList []).2.1, .bool (txR s.data.toList []).2.2]) ∧ Below w.heap.size w w' := by
  have hst := hid (Lib.IsBuilderF.of (Lib.fresh_isBuilder 66 5 w) : Lib.IsBuilderF 66 5 w.heap.size w.heap.size (Lib.byteCells []) _)
  go_enter Tryd.func31, Tryd.ntmps31
  go_wp2_with fail
  have H1 := hid ((Below.refl w.heap.size w).alloc (Nat.le_refl _) (.cells #[.pointer none, .slice none 0 0] 66))
  go_loopg [0] s.size (fun g s0 wx => ∃ (t : ByteArray) (acc : List UInt8), s0 = .string t ∧ t.size = g ∧ acc.length + t.size ≤ s.size ∧
      Hid (Lib.IsBuilderF 66 5 w.heap.size w.heap.size (Lib.byteCells acc) wx) ∧ Hid (Below w.heap.size w wx) ∧ Hid (txR t.data.toList acc = txR s.data.toList []))
  case atStart => exact ⟨s, [], rfl, rfl, by simp, hst, H1, hid rfl⟩
  case round =>
    obtain ⟨t, acc, rfl, rfl, hbd, HB, HW, HR⟩ := hrel
    have hBw : w.heap.size ≤ wr.heap.size := HW.out.size
    have hlenL : t.data.toList.length = t.size := (Lib.size_eq t).symm
    rcases tx_find t.data.toList acc with ⟨h1, h2⟩ | ⟨j, h1, h2, h3⟩ | ⟨j, d, h1, h2, h3⟩
    · go_wp2_with (first | (go_at_call 36; refine (YtohknmlcleifpaaDoorSh.strings_IndexByte _ _ _).mono ?_; rintro e w' ⟨rfl, hw⟩; rw [hw, show (0 : Int).toNat.toUInt8 = 0 from rfl, h1]))
      go_ret3
      exact ⟨by rw [← HR.out]; simp [txR, h2], HW.out⟩
    · have c0 : ¬ ((j : Int) < 0) := by omega
      have c1 : ((j : Int) + 1 == (t.size : Int)) = true := by rw [beq_iff_eq]; omega
      go_wp2_with (first | (go_at_call 36; refine (YtohknmlcleifpaaDoorSh.strings_IndexByte _ _ _).mono ?_; rintro e w' ⟨rfl, hw⟩; rw [hw, show (0 : Int).toNat.toUInt8 = 0 from rfl, h1]))
      all_goals (go_ret3; exact ⟨by rw [← HR.out]; simp [txR, h3], HW.out⟩)
    · have hjl : j + 1 < t.size := by
        rcases Nat.lt_or_ge (j + 1) t.data.toList.length with h | h
        · omega
        · rw [List.getElem?_eq_none h] at h2; cases h2
      have c0 : ¬ ((j : Int) < 0) := by omega
      have c1 : ((j : Int) + 1 == (t.size : Int)) = false := beq_eq_false_iff_ne.2 (by omega)
      have c2 : (0 : Int) ≤ (j : Int) := by omega
      have c3 : (j : Int) ≤ (t.size : Int) := by omega
      go_wp2_with (first | (go_at_call 36; refine (YtohknmlcleifpaaDoorSh.strings_IndexByte _ _ _).mono ?_; rintro e w' ⟨rfl, hw⟩; rw [hw, show (0 : Int).toNat.toUInt8 = 0 from rfl, h1]))
      refine (YtohknmlcleifpaaDoorSh.Builder_WriteString w.heap.size w.heap.size _ (t.extract 0 j) wr HB.out (by rw [Lib.byteCells_length, ByteArray.size_extract]; omega) hBw).mono ?_
      rintro e w3 ⟨rfl, h3, hb3, _⟩
      have hn : Lib.byteCells acc ++ Lib.strCells (t.extract 0 j) = Lib.byteCells (acc ++ t.data.toList.take j) := by
        rw [Lib.strCells_eq, Lib.extract_data, ← Lib.byteCells_append, List.drop_zero, Nat.sub_zero]
      rw [hn] at h3
      have hBw3 : w.heap.size ≤ w3.heap.size := Nat.le_trans hBw hb3.size
      have H3 := hid (Or.inr h3 : Lib.IsBuilderF 66 5 w.heap.size w.heap.size _ w3)
      have Hb3 := hid (HW.out.trans hb3)
      have hd : (t[j + 1]'hjl) = d := by
        have : t.data.toList[j + 1]? = some (t[j + 1]'hjl) := by
          rw [Array.getElem?_toList]; exact Array.getElem?_eq_getElem hjl
        rw [h2] at this
        exact (Option.some.inj this).symm
      have htl : (t.data.toList.take j).length = j := by rw [List.length_take]; omega
      have htail : (⟨(t.data.toList.drop (j + 2)).toArray⟩ : ByteArray) = t.extract (j + 2) t.size := by rw [← Lib.extract_to_end, Lib.mk_data]
      have c5 : (0 : Int) ≤ (j : Int) + 1 := by omega
      have c6 : (j : Int) + 1 < (t.size : Int) := by omega
      have c7 : (0 : Int) ≤ (j : Int) + 2 := by omega
      have c8 : (j : Int) + 2 ≤ (t.size : Int) := by omega
      clear h3 hb3 hn
      go_wp2_with fail
      · have hd0 : d = 0 := UInt8.toNat_inj.1 (by rename_i hz _ _ _ _; simpa using hz)
        subst hd0
        refine (YtohknmlcleifpaaDoorSh.Builder_String w.heap.size w.heap.size (acc ++ t.data.toList.take j) w3 H3.out hBw3).mono ?_
        rintro e w5 ⟨rfl, _, hb5, _⟩
        have Hb5 := hid (Hb3.out.trans hb5)
        clear hb5
        go_wp2
        go_ret3
        refine ⟨?_, Hb5.out⟩
        have e : txR s.data.toList [] = (⟨(acc ++ t.data.toList.take j).toArray⟩, t.extract (j + 2) t.size, true) := by
          rw [← HR.out]
          unfold txR
          rw [h3, if_pos (by trivial)]
          simp only [htail]
        rw [e]; rfl
      · have hd1 : d = 255 := UInt8.toNat_inj.1 (by rename_i hz _ _; simp at hz; show d.toNat = 255; omega)
        subst hd1
        refine (YtohknmlcleifpaaDoorSh.Builder_WriteByte w.heap.size w.heap.size (Lib.byteCells (acc ++ t.data.toList.take j)) 0 w3 H3.out (by rw [Lib.byteCells_length, List.length_append, htl]; omega) hBw3).mono ?_
        rintro e w4 ⟨rfl, h4, hb4, _⟩
        have hn4 : Lib.byteCells (acc ++ t.data.toList.take j) ++ [.int .u8 0] = Lib.byteCells (acc ++ t.data.toList.take j ++ [0]) := by
          rw [Lib.byteCells_append (acc ++ t.data.toList.take j)]; rfl
        rw [hn4] at h4
        have H4 := hid (Or.inr h4 : Lib.IsBuilderF 66 5 w.heap.size w.heap.size _ w4)
        have Hb4 := hid (Hb3.out.trans hb4)
        clear h4 hb4 hn4
        go_wp2
        have hR' : txR (t.extract (j + 2) t.size).data.toList (acc ++ t.data.toList.take j ++ [0]) = txR s.data.toList [] := by
          rw [← HR.out, Lib.extract_to_end]
          unfold txR
          rw [h3, if_neg (by decide), if_pos (by trivial)]
        have hsz : (t.extract (j + 2) t.size).size = t.size - (j + 2) := by rw [ByteArray.size_extract]; omega
        have HR' := hid hR'
        go_roundg (t.size - (j + 2))
        case measure => omega
        case rel => exact ⟨t.extract (j + 2) t.size, _, rfl, hsz, by simp only [List.length_append, htl, List.length_cons, List.length_nil, hsz]; omega, H4, Hb4, HR'⟩
      · have hd0 : d ≠ 0 := by rintro rfl; rename_i hz _; simp at hz
        have hd1 : d ≠ 255 := by rintro rfl; rename_i hz; simp at hz
        go_ret3
        refine ⟨?_, Hb3.out⟩
        have e : txR s.data.toList [] = (⟨#[]⟩, ⟨#[]⟩, false) := by
          rw [← HR.out]
          unfold txR
          rw [h3, if_neg hd0, if_neg hd1]
        rw [e]; rfl
theorem key_text.calls (a0 r1 r2 : ByteArray) (r3 : Bool) (w : World) (h : key_text.f a0 = some (r1, r2, r3)) :
    Calls Tryd.prog 31 #[.string a0] w fun e w' => e = .returned (.tuple #[.string r1, .string r2, .bool r3]) ∧ Below w.heap.size w w' := by
  unfold key_text.f at h
  split at h
  · have e : txR a0.data.toList [] = (r1, r2, r3) := by
      unfold txR
      cases hx : tx a0.data.toList [] with
      | none => rw [hx] at h; exact Option.some.inj h
      | some q => rw [hx] at h; exact Option.some.inj h
    have := key_text_walk a0 w (by assumption)
    rw [e] at this
    exact this
  · cases h
end Go.Proofs.YtohknmlcleifpaaDoorX
