/- What the world must hold for value.Print and value.Parse; strconv.ParseUint of two bytes; value.text; no conditions beyond those in each theorem's head. -/
import Derived.Test.YtllehkjebikgpaaGreatDoorX4
import Derived.Lib.AppendStr
import Derived.Lib.SlicesS
import Derived.Deep.LoopGhost
namespace Go.Proofs.YtllehkjebikgpaaGreatDoorX
open Go.RowKit Go.Lib Go.Proofs.YtllehkjebikgpaaGreatDoorSh Go.Proofs.YtllehkjebikgpaaGreatDoorW.PrintWords Go.Proofs.YtllehkjebikgpaaGreatDoorW.PrintLast
set_option linter.unusedVariables false

/-- An error that a variable of the library holds. -/
def ErrAt (w : World) (g : Nat) : Prop := ∃ ev, w.cell? ⟨g, 0, none⟩ = some ev ∧ (ev = .nilIface ∨ ∃ te pe, ev = .iface te pe)
/-- What the library's variables hold. -/
structure Gw (w : World) : Prop where
  tab : Lib.TabIs Tryz.prog w "internal/strconv.uint64pow10" .u64 Lib.pow10Tab
  syn : ErrAt w (ren.g 15)
  rng : ErrAt w (ren.g 16)
theorem ErrAt.below {w w' : World} {g : Nat} (h : ErrAt w g) (hb : Below w.heap.size w w') : ErrAt w' g := by
  obtain ⟨ev, hc, hk⟩ := h
  exact ⟨ev, (hb.cell (World.block_lt_of_cell? w _ hc)).trans hc, hk⟩
theorem tabIs_below {P : Program} {w w' : World} {n : String} {k : IntKind} {zs : List Int} (h : Lib.TabIs P w n k zs) (hb : Below w.heap.size w w') : Lib.TabIs P w' n k zs := by
  unfold Lib.TabIs World.var? at *
  obtain ⟨g, hg, h⟩ := Option.bind_eq_some_iff.1 h
  rw [hg, Option.bind_some]
  cases hh : w.heap[g]? with
  | none => rw [hh] at h; cases h
  | some o => rw [hb.block g (Array.getElem?_eq_some_iff.1 hh).1, hh]; rw [hh] at h; exact h
theorem Gw.below {w w' : World} (h : Gw w) (hb : Below w.heap.size w w') : Gw w' := ⟨tabIs_below h.tab hb, h.syn.below hb, h.rng.below hb⟩
theorem gk {w W : World} (HG : Aside0 (Gw w)) (h : Below w.heap.size w W := by repeat (first | (with_reducible first | exact HB.out | apply pA | apply pN | apply pD | refine pS ?_ (Aside0.out (by assumption))) | exact HB.out)) : Gw W := HG.out.below h
theorem hid' {p : Prop} (h : p) : Hid p := h
set_option maxHeartbeats 8000000 in
set_option maxRecDepth 100000 in
theorem strconv_ParseUint (t : ByteArray) (h2 : t.size = 2) (w : World) (HG : Gw w) :
    Calls Tryz.prog 59 #[.string t, .int .i64 16, .int .i64 8] w fun e w' => (match hexAcc 0 t.data.toList with | some n => e = .returned (.tuple #[.int .u64 (n : Int), .nilIface]) | none => ∃ b, e = .returned (.tuple #[.int .u64 0, .iface 72 (.pointer (some ⟨b, 0, none⟩))])) ∧ Below w.heap.size w w' := by
  have hin := ParseUint_inner t h2 w
  have hb := Lib.bytesWorld_below w 5 t
  have hg := HG.below hb
  generalize Lib.bytesWorld w 5 t = W1 at hin hb hg
  cases hx : hexAcc 0 t.data.toList with
  | some n =>
    rw [hx, uRes] at hin
    go_enter Tryz.func59, Tryz.ntmps59
    go_wp2_with (go_at_call 65; refine hin.mono ?_; rintro e w' ⟨rfl, rfl⟩)
    go_ret2
    exact ⟨rfl, hb⟩
  | none =>
    rw [hx, uRes] at hin
    go_enter Tryz.func59, Tryz.ntmps59
    go_wp2_with (first | (go_at_call 65; refine hin.mono ?_; rintro e w' ⟨rfl, rfl⟩) | (go_at_call 41; refine (strconv_toError _ t 16 8 w' (by omega) hg.syn).mono ?_; rintro e w2 ⟨⟨b, rfl⟩, hb2⟩))
    go_ret2
    exact ⟨⟨b, rfl⟩, hb.trans (hb2.mono hb.size)⟩
/-- What stands between a text's marks, read. -/
def textL : Nat → List UInt8 → List UInt8 → Option (List UInt8)
  | _, [], acc => some acc
  | 0, _ :: _, _ => none
  | n + 1, c :: l, acc =>
    if Lib.hasPrefix (c :: l) [39, 39] = true then textL n (l.drop 1) (acc ++ [c])
    else if c.toNat = 92 ∧ 2 ≤ l.length then match hexAcc 0 (l.take 2) with
      | some k => textL n (l.drop 2) (acc ++ [UInt8.ofNat k])
      | none => none
    else textL n l (acc ++ [c])
theorem tail_data (s : ByteArray) (n : Nat) : (s.extract n s.size).data.toList = s.data.toList.drop n := by
  rw [Lib.extract_data, List.take_of_length_le]
  rw [List.length_drop, Array.length_toList]; exact Nat.le_refl _
theorem tail_size (s : ByteArray) (n : Nat) : (s.extract n s.size).size = s.size - n := by
  rw [Lib.size_eq, tail_data, List.length_drop, ← Lib.size_eq]
theorem textL_fuel : ∀ (n m : Nat) (l acc : List UInt8), l.length ≤ n → l.length ≤ m → textL n l acc = textL m l acc
  | n, m, [], acc, _, _ => by rw [textL, textL]
  | 0, m, c :: l, acc, h, _ => by simp at h
  | n + 1, 0, c :: l, acc, _, h => by simp at h
  | n + 1, m + 1, c :: l, acc, h, k => by
    have h' : l.length ≤ n := by simpa using h
    have k' : l.length ≤ m := by simpa using k
    rw [textL, textL]
    have hd : ∀ i, (l.drop i).length ≤ n ∧ (l.drop i).length ≤ m := fun i => by rw [List.length_drop]; omega
    split
    · exact textL_fuel n m _ _ (hd 1).1 (hd 1).2
    · split
      · split
        · exact textL_fuel n m _ _ (hd 2).1 (hd 2).2
        · rfl
      · exact textL_fuel n m _ _ h' k'
/-- One step: a byte that stands there as b, over so many. -/
theorem textL_step {s : ByteArray} {acc : List UInt8} {n : Nat} {b : UInt8} (hn : n < s.size)
    (h : textL s.size s.data.toList acc = textL (s.size - 1) (s.data.toList.drop (n + 1)) (acc ++ [b])) :
    textL s.size s.data.toList acc = textL (s.extract (n + 1) s.size).size (s.extract (n + 1) s.size).data.toList (acc ++ [b]) := by
  rw [h, tail_data, tail_size]
  have : (s.data.toList.drop (n + 1)).length = s.size - (n + 1) := by rw [List.length_drop, ← Lib.size_eq]
  exact textL_fuel _ _ _ _ (by omega) (by omega)
def textV : Option (List UInt8) → Value
  | some l => .tuple #[.string ⟨l.toArray⟩, .bool true]
  | none => .tuple #[.string ⟨#[]⟩, .bool false]
theorem hexAcc_lt {a b : UInt8} {k : Nat} (h : hexAcc 0 [a, b] = some k) : k < 256 := by
  rw [hexAcc] at h
  cases h1 : hexD a with
  | none => rw [h1] at h; cases h
  | some x =>
    rw [h1] at h
    simp only [hexAcc] at h
    cases h2 : hexD b with
    | none => rw [h2] at h; cases h
    | some y =>
      rw [h2] at h
      have := hexD_lt h1
      have := hexD_lt h2
      cases h
      omega
def nat8 (l : List UInt8) : List Int := l.map fun b => (b.toNat : Int)
theorem nat8_snoc (l : List UInt8) (b : UInt8) : nat8 (l ++ [b]) = nat8 l ++ [(b.toNat : Int)] := by simp [nat8]
theorem str_nat8 (l : List UInt8) : strOfNums (nat8 l) = ⟨l.toArray⟩ := by
  apply ByteArray.ext
  apply Array.toList_inj.1
  rw [strOfNums_data, nat8, List.map_map]
  conv => rhs; rw [show (⟨l.toArray⟩ : ByteArray).data.toList = l by simp, ← List.map_id l]
  apply List.map_congr_left
  intro b _
  simp
theorem own_stringX {P : Program} {w : World} {base n : Nat} {e' src dst e : TypeId} {v : Value} {xs : List Int} (hs : P.underlying src = some (.slice e)) (he : P.underlying e = some (.int .u8)) (hd : P.underlying dst = some .string)
    (h : w.ownsRow base e' 1 v n (nums .u8 xs)) : (convert src dst v).run P w = .ok (.string (strOfNums xs)) w := by
  have hl : xs.length = n := by have := h.1; simp [nums] at this; exact this
  rcases h.2 with ⟨rfl, rfl⟩ | ⟨g, cap, cur, rfl, _⟩
  · obtain rfl : xs = [] := List.eq_nil_of_length_eq_zero hl
    exact run_convert_bytes_nil w src e hs he 0 0 dst hd
  · refine run_convert_bytes_arg w src e hs he g 0 n cap xs hl (fun i hi => ?_) dst hd
    have hc := h.cells (g := g) rfl i (.int .u8 (xs.getD i 0)) (by simp [nums, List.getElem?_eq_getElem (show i < xs.length by omega), List.getD_eq_getElem?_getD])
    have ha : (⟨g, 0, none⟩ : Addr).add i = ⟨g, 0 + i, none⟩ := by unfold Addr.add; split <;> simp_all
    rwa [ha] at hc

theorem info5x : (Tryz.prog.info? 5).map (fun i => (i.zero, i.size, i.bytes)) = some (some (.int .u8 0), 1, 1) := by kernel_rfl
set_option maxHeartbeats 16000000 in
set_option maxRecDepth 1000000 in
theorem value_text (t : ByteArray) (ht : t.size ≤ 1000000000000) (w : World) (HG : Aside0 (Gw w)) :
    Calls Tryz.prog 45 #[.string t] w fun e w' => e = .returned (textV (textL t.size t.data.toList [])) ∧ Below w.heap.size w w' := by
  have HB0 := Aside0.mk (Below.refl w.heap.size w)
  obtain ⟨R, hR⟩ : ∃ R, R = textL t.size t.data.toList [] := ⟨_, rfl⟩
  rw [← hR]
  go_enter Tryz.func45, Tryz.ntmps45
  go_wp2
  go_loopg [0, 4] t.size (fun g v0 v4 w' => ∃ (s : ByteArray) (acc : List UInt8), v0 = .string s ∧ s.size = g ∧ Hid (R = textL s.size s.data.toList acc) ∧ Hid (acc.length + s.size ≤ t.size) ∧ Aside0 (Kd.R (Kd.int .u8) 5 w' w.heap.size (fun _ => True) v4 (nat8 acc)) ∧ Aside0 (Below w.heap.size w w'))
  case atStart => exact ⟨t, [], rfl, rfl, hid' hR, hid' (by simp), ⟨Kd.R_nil _ _ _ _ _⟩, HB0⟩
  case round =>
    clear HB0 hR
    obtain ⟨s, acc, rfl, rfl, hr, hl, HO, HB⟩ := hrel
    by_cases h0 : s.size = 0
    · have e0 : (s.toList == ([] : List UInt8)) = true := by rw [beq_iff_eq, ByteArray.toList_eq]; exact List.eq_nil_of_length_eq_zero (by rw [Array.length_toList]; exact h0)
      have ed : s.data.toList = [] := List.eq_nil_of_length_eq_zero (by rw [Array.length_toList]; exact h0)
      have hv : textV R = .tuple #[.string ⟨acc.toArray⟩, .bool true] := by
        rw [hr.out, ed, textL]; rfl
      have hcv := own_stringX (P := Tryz.prog) Tryz.underlying66 Tryz.underlying5 Tryz.underlying9 (Kd.own_of_R HO.out)
      rw [str_nat8] at hcv
      go_wp2
      go_ret2
      exact ⟨by first | exact congrArg Ending.returned hv.symm | skip, HB.out⟩
    · have e0 : (s.toList == ([] : List UInt8)) = false := by
        rw [beq_eq_false_iff_ne, ByteArray.toList_eq]; intro h
        have := congrArg List.length h
        rw [Array.length_toList] at this
        exact h0 this
      have hs : 0 < s.size := by omega
      have q0 : (0 : Int) < (s.size : Int) := by omega
      have hal : (nat8 acc).length = acc.length := by simp [nat8]
      obtain ⟨c, hc⟩ : ∃ c, c = s[0]'hs := ⟨_, rfl⟩
      have hd : s.data.toList = c :: s.data.toList.drop 1 := by
        rw [hc]
        have h1 : 0 < s.data.toList.length := by rw [Array.length_toList]; exact hs
        have h2 := List.drop_eq_getElem_cons h1
        rw [List.drop_zero] at h2
        exact h2
      have hdl : (s.data.toList.drop 1).length = s.size - 1 := by rw [List.length_drop, ← Lib.size_eq]
      have hstep : textL s.size s.data.toList acc = textL ((s.size - 1) + 1) (c :: s.data.toList.drop 1) acc := by rw [← hd]; congr 1; omega
      rw [textL] at hstep
      by_cases hp : Lib.hasPrefix s.data.toList [39, 39] = true
      · have hP : ∀ w, Calls Tryz.prog 8 #[.string s, .string ⟨#[39, 39]⟩] w fun e w' => e = .returned (.bool true) ∧ w' = w := fun w => by
          have := strings_HasPrefix s ⟨#[39, 39]⟩ w
          rw [show (⟨#[39, 39]⟩ : ByteArray).data.toList = [39, 39] from rfl, hp] at this
          exact this
        rw [← hd, if_pos hp, List.drop_drop] at hstep
        have h2 : 2 ≤ s.size := by
          rw [hd] at hp
          cases hx : s.data.toList.drop 1 with
          | nil => rw [hx] at hp; simp [Lib.hasPrefix, List.isPrefixOf] at hp
          | cons x y => rw [hx] at hdl; simp at hdl; omega
        have hr2 := hid' (hr.out.trans (textL_step (n := 1) (by omega) hstep))
        have q2 : (2 : Int) ≤ (s.size : Int) := by omega
        clear hstep hp hd hdl hr
        rw [hc] at hr2
        go_wp2_with (first | (go_at_call 8; refine (hP _).mono ?_; rintro e w' ⟨rfl, rfl⟩) | ((with_reducible refine gate_builtin (b := .append) (xs := #[.tmp 34, .tmp 36]) rfl ?_); at_builtin; refine Kd.R_append (Kd.int .u8) (w0 := w) w.heap.size rfl (.tmp 34) (.tmp 36) 66 5 (.int .u8 0) 1 rfl Tryz.underlying66 info5x rfl (by decide) (by omega) u4 (nat8 acc) ((s[0]'hs).toNat : Int) [.int .u8 ((s[0]'hs).toNat : Int)] (fun _ => True) (fun _ => False) rfl rfl ?aP (fun _ hk => hk.elim) ?aF ?aO ?aB ?aS ?aL ?_; (case aP => exact rfl); (case aB => exact bel); (case aF => exact (fun _ _ => trivial)); (case aO => exact (by (with_reducible repeat (first | apply Kd.R_alloc | apply Kd.R_drewN | apply Kd.R_drew)); exact HO.out)); (case aS => exact below_size bel); (case aL => rw [hal]; have := hl.out; omega); intro v2 w2 ho hb hg hat; have HB2 := Aside0.mk hb; have HO2 := Aside0.mk ho; clear HB HO ho hb hg hat))
        go_roundg (s.extract 2 s.size).size
        case measure => rw [tail_size]; omega
        case rel => exact ⟨s.extract 2 s.size, acc ++ [s[0]'hs], (by first | rfl | (simp; done)), rfl, hr2, hid' (by rw [tail_size, List.length_append, List.length_singleton]; have := hl.out; omega), ⟨by rw [nat8_snoc]; exact HO2.out⟩, HB2⟩
      · have hP : ∀ w, Calls Tryz.prog 8 #[.string s, .string ⟨#[39, 39]⟩] w fun e w' => e = .returned (.bool false) ∧ w' = w := fun w => by
          have := strings_HasPrefix s ⟨#[39, 39]⟩ w
          rw [show (⟨#[39, 39]⟩ : ByteArray).data.toList = [39, 39] from rfl, Bool.eq_false_iff.2 hp] at this
          exact this
        rw [← hd, if_neg hp] at hstep
        by_cases h92 : c.toNat = 92 ∧ 2 ≤ (s.data.toList.drop 1).length
        · rw [if_pos h92] at hstep
          have h3 : 3 ≤ s.size := by have := h92.2; omega
          have hx92 : ((s[0]'hs).toNat : Int) = 92 := by rw [← hc]; omega
          have hsz : (s.extract 1 3).size = 2 := by rw [Lib.size_eq, Lib.extract_data, List.length_take, List.length_drop, ← Lib.size_eq]; omega
          have hbd : (s.data.toList.drop 1).take 2 = (s.extract 1 3).data.toList := by rw [Lib.extract_data]
          rw [hbd] at hstep
          have q4 : (2 : Int) < (s.size : Int) := by omega
          have q5 : (3 : Int) ≤ (s.size : Int) := by omega
          have hG : ∀ W, Below w.heap.size w W → Gw W := fun W h => HG.out.below h
          obtain ⟨m, hm⟩ : ∃ m : Nat, (s[0]'hs).toNat = m := ⟨_, rfl⟩
          rw [hm] at hx92
          have q3 : ((m : Int) == 92) = true := by rw [hx92]; rfl
          cases hh : hexAcc 0 (s.extract 1 3).data.toList with
          | none =>
            rw [hh] at hstep
            have hv : textV R = .tuple #[.string ⟨#[]⟩, .bool false] := by rw [hr.out, hstep]; rfl
            have hU : ∀ W, Below w.heap.size w W → Calls Tryz.prog 59 #[.string (s.extract 1 3), .int .i64 16, .int .i64 8] W fun e w' => (∃ b, e = .returned (.tuple #[.int .u64 0, .iface 72 (.pointer (some ⟨b, 0, none⟩))])) ∧ Below W.heap.size W w' := fun W h => by
              have := strconv_ParseUint (s.extract 1 3) hsz W (hG W h)
              rw [hh] at this
              exact this
            clear hstep hp hd hdl hr h92 hbd hsz hc hx92 hG HO
            go_wp2_with (first | (go_at_call 8; refine (hP _).mono ?_; rintro e w' ⟨rfl, rfl⟩) | (go_at_call 59; refine (hU _ HB.out).mono ?_; rintro e w2 ⟨⟨b, rfl⟩, hb2⟩; have HB2 := bs hb2; clear HB hb2))
            go_ret2
            exact ⟨congrArg Ending.returned hv.symm, HB2.out⟩
          | some k =>
            rw [hh, List.drop_drop] at hstep
            have hk : k < 256 := by
              rw [show (s.extract 1 3).data.toList = [(s.extract 1 3).data.toList.getD 0 0, (s.extract 1 3).data.toList.getD 1 0] from by
                have e : (s.extract 1 3).data.toList.length = 2 := by rw [← Lib.size_eq]; exact hsz
                match (s.extract 1 3).data.toList, e with
                | [a, b], _ => rfl] at hh
              exact hexAcc_lt hh
            have hr2 := hid' (hr.out.trans (textL_step (n := 2) (by omega) hstep))
            have hU : ∀ W, Below w.heap.size w W → Calls Tryz.prog 59 #[.string (s.extract 1 3), .int .i64 16, .int .i64 8] W fun e w' => e = .returned (.tuple #[.int .u64 (k : Int), .nilIface]) ∧ Below W.heap.size W w' := fun W h => by
              have := strconv_ParseUint (s.extract 1 3) hsz W (hG W h)
              rw [hh] at this
              exact this
            have hk2 : (k : Int) % 256 = (k : Int) := by omega
            clear hstep hp hd hdl hr h92 hbd hsz hc hx92 hG
            go_wp2_with (first | (go_at_call 8; refine (hP _).mono ?_; rintro e w' ⟨rfl, rfl⟩) | (go_at_call 59; refine (hU _ HB.out).mono ?_; rintro e w2 ⟨rfl, hb2⟩; have HB1 := bs hb2; have HO1 := Aside0.mk (Kd.R_below HO.out hb2); clear HB HO hb2; have HB := HB1; have HO := HO1; clear HB1 HO1) | ((with_reducible refine gate_builtin (b := .append) (xs := #[.tmp 34, .tmp 36]) rfl ?_); at_builtin; refine Kd.R_append (Kd.int .u8) (w0 := w) w.heap.size rfl (.tmp 34) (.tmp 36) 66 5 (.int .u8 0) 1 rfl Tryz.underlying66 info5x rfl (by decide) (by omega) u4 (nat8 acc) (k : Int) [.int .u8 (k : Int)] (fun _ => True) (fun _ => False) rfl rfl ?aP (fun _ hk => hk.elim) ?aF ?aO ?aB ?aS ?aL ?_; (case aP => exact rfl); (case aB => exact bel); (case aF => exact (fun _ _ => trivial)); (case aO => exact (by (with_reducible repeat (first | apply Kd.R_alloc | apply Kd.R_drewN | apply Kd.R_drew)); exact HO.out)); (case aS => exact below_size bel); (case aL => rw [hal]; have := hl.out; omega); intro v2 w2 ho hb hg hat; have HB2 := Aside0.mk hb; have HO2 := Aside0.mk ho; clear HB HO ho hb hg hat))
            go_roundg (s.extract (2 + 1) s.size).size
            case measure => rw [tail_size]; omega
            case rel => exact ⟨s.extract (2 + 1) s.size, acc ++ [UInt8.ofNat k], (by first | rfl | (simp; done)), rfl, hr2, hid' (by rw [tail_size, List.length_append, List.length_singleton]; have := hl.out; omega), ⟨by rw [nat8_snoc, show (((UInt8.ofNat k).toNat : Nat) : Int) = (k : Int) by rw [UInt8.toNat_ofNat']; omega]; exact HO2.out⟩, HB2⟩
        · rw [if_neg h92] at hstep
          have hr2 := hid' (hr.out.trans (textL_step (n := 0) (by omega) hstep))
          have q1 : (1 : Int) ≤ (s.size : Int) := by omega
          rw [hc] at hr2 h92
          rw [hdl] at h92
          clear hstep hp hd hdl hr hc
          obtain ⟨m, hm⟩ : ∃ m : Nat, (s[0]'hs).toNat = m := ⟨_, rfl⟩
          rw [hm] at h92
          by_cases hx : m = 92
          · have q3 : ((m : Int) == 92) = true := by rw [hx]; rfl
            have q4 : ¬ (2 : Int) < (s.size : Int) := by omega
            clear hx h92
            go_wp2_with (first | (go_at_call 8; refine (hP _).mono ?_; rintro e w' ⟨rfl, rfl⟩) | ((with_reducible refine gate_builtin (b := .append) (xs := #[.tmp 34, .tmp 36]) rfl ?_); at_builtin; refine Kd.R_append (Kd.int .u8) (w0 := w) w.heap.size rfl (.tmp 34) (.tmp 36) 66 5 (.int .u8 0) 1 rfl Tryz.underlying66 info5x rfl (by decide) (by omega) u4 (nat8 acc) (m : Int) [.int .u8 (m : Int)] (fun _ => True) (fun _ => False) rfl rfl ?aP (fun _ hk => hk.elim) ?aF ?aO ?aB ?aS ?aL ?_; (case aP => exact rfl); (case aB => exact bel); (case aF => exact (fun _ _ => trivial)); (case aO => exact (by (with_reducible repeat (first | apply Kd.R_alloc | apply Kd.R_drewN | apply Kd.R_drew)); exact HO.out)); (case aS => exact below_size bel); (case aL => rw [hal]; have := hl.out; omega); intro v2 w2 ho hb hg hat; have HB2 := Aside0.mk hb; have HO2 := Aside0.mk ho; clear HB HO ho hb hg hat))
            go_roundg (s.extract (0 + 1) s.size).size
            case measure => rw [tail_size]; omega
            case rel => exact ⟨s.extract (0 + 1) s.size, acc ++ [s[0]'hs], (by first | rfl | (simp; done)), rfl, hr2, hid' (by rw [tail_size, List.length_append, List.length_singleton]; have := hl.out; omega), ⟨by rw [nat8_snoc]; rw [hm]; exact HO2.out⟩, HB2⟩
          · have q3 : ((m : Int) == 92) = false := beq_eq_false_iff_ne.2 (by omega)
            go_wp2_with (first | (go_at_call 8; refine (hP _).mono ?_; rintro e w' ⟨rfl, rfl⟩) | ((with_reducible refine gate_builtin (b := .append) (xs := #[.tmp 34, .tmp 36]) rfl ?_); at_builtin; refine Kd.R_append (Kd.int .u8) (w0 := w) w.heap.size rfl (.tmp 34) (.tmp 36) 66 5 (.int .u8 0) 1 rfl Tryz.underlying66 info5x rfl (by decide) (by omega) u4 (nat8 acc) (m : Int) [.int .u8 (m : Int)] (fun _ => True) (fun _ => False) rfl rfl ?aP (fun _ hk => hk.elim) ?aF ?aO ?aB ?aS ?aL ?_; (case aP => exact rfl); (case aB => exact bel); (case aF => exact (fun _ _ => trivial)); (case aO => exact (by (with_reducible repeat (first | apply Kd.R_alloc | apply Kd.R_drewN | apply Kd.R_drew)); exact HO.out)); (case aS => exact below_size bel); (case aL => rw [hal]; have := hl.out; omega); intro v2 w2 ho hb hg hat; have HB2 := Aside0.mk hb; have HO2 := Aside0.mk ho; clear HB HO ho hb hg hat))
            go_roundg (s.extract (0 + 1) s.size).size
            case measure => rw [tail_size]; omega
            case rel => exact ⟨s.extract (0 + 1) s.size, acc ++ [s[0]'hs], (by first | rfl | (simp; done)), rfl, hr2, hid' (by rw [tail_size, List.length_append, List.length_singleton]; have := hl.out; omega), ⟨by rw [nat8_snoc]; rw [hm]; exact HO2.out⟩, HB2⟩
end Go.Proofs.YtllehkjebikgpaaGreatDoorX
