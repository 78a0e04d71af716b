/- strconv.ParseUint of two bytes at base 16 and 8 bits; no conditions beyond those in each theorem's head. -/
import Derived.Test.YtllehkjebikgpaaGreatDoorSh2
import Derived.Test.YtllehkjebikgpaaGreatDoorX0
import Derived.Lib.Walk
import Derived.Lib.ConvBytes
import Derived.Lib.Hide
import Derived.Laws.Closers25
import Derived.Laws.Closers25b
import Derived.WalkKit
namespace Go.Proofs.YtllehkjebikgpaaGreatDoorX
open Go.RowKit Go.Lib Go.Proofs.YtllehkjebikgpaaGreatDoorSh Go.Proofs.YtllehkjebikgpaaGreatDoorW.PrintWords Go.Proofs.YtllehkjebikgpaaGreatDoorW.PrintLast
set_option linter.unusedVariables false

/-- A byte made small. -/
def lowB (c : Int) : Int := bits .or .u8 c 32
/-- A byte as a digit of base 16. -/
def hexD (c : UInt8) : Option Nat :=
  if 48 ≤ c.toNat ∧ c.toNat ≤ 57 then some (c.toNat - 48) else if 97 ≤ lowB (c.toNat : Int) ∧ lowB (c.toNat : Int) ≤ 102 then some (lowB (c.toNat : Int) - 87).toNat else none
/-- Digits from the first one on. -/
def hexAcc : Nat → List UInt8 → Option Nat
  | n, [] => some n
  | n, c :: l => match hexD c with
    | some d => hexAcc (16 * n + d) l
    | none => none
/-- What ParseUint hands back. -/
def uRes : Option Nat → Value
  | some n => .tuple #[.int .u64 (n : Int), .nilIface]
  | none => .tuple #[.int .u64 0, .iface 69 (.int .i64 2)]
theorem hexD_lt {c : UInt8} {d : Nat} (h : hexD c = some d) : d < 16 := by
  unfold hexD at h
  split at h
  · cases h; omega
  · split at h
    · cases h; omega
    · cases h
theorem lower_row (c : Int) (w : World) : Calls Tryz.prog 78 #[.int .u8 c] w fun e w' => e = .returned (.int .u8 (bits .or .u8 c 32)) ∧ w' = w := Any.internal_strconv_lower lays321 c w
set_option maxHeartbeats 32000000 in
set_option maxRecDepth 100000 in
theorem ParseUint_inner (t : ByteArray) (h2 : t.size = 2) (w : World) :
    Calls Tryz.prog 65 #[.string t, .int .i64 16, .int .i64 8] w fun e w' => e = .returned (uRes (hexAcc 0 t.data.toList)) ∧ w' = Lib.bytesWorld w 5 t := by
  have hemp : t.toList.isEmpty = false := by
    rw [← decide_eq_emptyBytes]
    exact decide_eq_false (fun h => by rw [h] at h2; cases h2)
  have hcv := Lib.run_convert_string_bytes (P := Tryz.prog) w 9 66 5 t (u := .string) Tryz.underlying9 Tryz.underlying66 Tryz.underlying5
  have hB : ∀ j, j < t.size → (Lib.bytesWorld w 5 t).cell? ⟨w.heap.size, j, none⟩ = some (.int .u8 (t.data.toList.getD j 0).toNat) := fun j hj => Lib.bytesWorld_cell w 5 t j hj
  obtain ⟨W1, hW1⟩ : ∃ W1, W1 = Lib.bytesWorld w 5 t := ⟨_, rfl⟩
  rw [← hW1] at hcv hB ⊢
  clear hW1
  obtain ⟨bs, hL⟩ : ∃ bs, bs = t.data.toList := ⟨_, rfl⟩
  have hLn : bs.length = t.size := by rw [hL, Lib.size_eq]
  rw [← hL] at hB ⊢
  clear hL
  have hmv : IntKind.u64.wrap (IntKind.u64.wrap 256 - 1) = 255 := by
    rw [IntKind.wrap_u64, IntKind.wrap_u64]
    decide
  go_enter Tryz.func65, Tryz.ntmps65
  go_wp2
  go_loop [12, 13, 101] (fun vu vn vi => ∃ (k acc : Nat) (a : Int), vu = .bool false ∧ vn = .int .u64 a ∧ vi = .int .i64 k ∧ k ≤ 2 ∧ Hid ((k = 0 → a = 0) ∧ (k ≤ 1 → a < 16) ∧ 0 ≤ a ∧ a < 256 ∧ a = (acc : Int) ∧ hexAcc 0 bs = hexAcc acc (bs.drop k)))
    (fun _ _ vi => 2 - (RowKit.intOf vi).toNat)
  case atStart => exact ⟨0, 0, 0, rfl, rfl, rfl, by omega, hid ⟨by omega, by omega, by omega, by omega, rfl, rfl⟩⟩
  case round =>
    obtain ⟨k, acc, a, rfl, rfl, rfl, hk, hh⟩ := hrel
    obtain ⟨b0, b16, a0, a1, ha, hdec⟩ := hh.out
    clear hh
    by_cases hkn : k < t.size
    · have hc := hB k hkn
      have b16 : a < 16 := b16 (by omega)
      have hdrop : bs.drop k = bs[k]'(by omega) :: bs.drop (k + 1) := List.drop_eq_getElem_cons (by omega)
      have hget : bs.getD k 0 = bs[k]'(by omega) := by simp [List.getD, List.getElem?_eq_getElem (show k < bs.length by omega)]
      rw [hdrop] at hdec
      rw [hget] at hc
      generalize bs[k]'(by omega) = c at hc hdec
      have hc256 : c.toNat < 256 := c.toNat_lt
      clear hB hdrop hget
      have hv0 := bits_lo_u8 .or (c.toNat : Int) 32
      have hv1 := bits_hi_u8 .or (c.toNat : Int) 32
      by_cases hdig : 48 ≤ c.toNat ∧ c.toNat ≤ 57
      · obtain ⟨hd0, hd1⟩ := hdig
        have hF : hexAcc acc (c :: bs.drop (k + 1)) = hexAcc (16 * acc + (c.toNat - 48)) (bs.drop (k + 1)) := by
          have : hexD c = some (c.toNat - 48) := by unfold hexD; rw [if_pos ⟨hd0, hd1⟩]
          rw [hexAcc, this]
        have HN : Hid ((k + 1 = 0 → a * 16 + ((c.toNat : Int) - 48) = 0) ∧ (k + 1 ≤ 1 → a * 16 + ((c.toNat : Int) - 48) < 16) ∧ 0 ≤ a * 16 + ((c.toNat : Int) - 48) ∧ a * 16 + ((c.toNat : Int) - 48) < 256 ∧ a * 16 + ((c.toNat : Int) - 48) = ((16 * acc + (c.toNat - 48) : Nat) : Int) ∧ hexAcc 0 bs = hexAcc (16 * acc + (c.toNat - 48)) (bs.drop (k + 1))) :=
          hid ⟨by omega, fun h => by have := b0 (by omega); omega, by omega, by omega, by omega, hdec.trans hF⟩
        clear hF hdec ha b0
        go_wp2
        refine ⟨⟨k + 1, 16 * acc + (c.toNat - 48), a * 16 + ((c.toNat : Int) - 48), rfl, (by first | rfl | (congr 1; omega)), (by first | rfl | (congr 1; omega)), by omega, HN⟩, by simp [RowKit.intOf]; omega⟩
      · by_cases hlet : 97 ≤ lowB (c.toNat : Int) ∧ lowB (c.toNat : Int) ≤ 102
        · obtain ⟨hd0, hd1⟩ := hlet
          obtain ⟨L, hL⟩ : ∃ L, L = lowB (c.toNat : Int) := ⟨_, rfl⟩
          have hF : hexAcc acc (c :: bs.drop (k + 1)) = hexAcc (16 * acc + (L - 87).toNat) (bs.drop (k + 1)) := by
            have : hexD c = some (L - 87).toNat := by unfold hexD; rw [if_neg hdig, if_pos ⟨hd0, hd1⟩, hL]
            rw [hexAcc, this]
          rw [← hL] at hd0 hd1
          have HN : Hid ((k + 1 = 0 → a * 16 + (L - 97 + 10) = 0) ∧ (k + 1 ≤ 1 → a * 16 + (L - 97 + 10) < 16) ∧ 0 ≤ a * 16 + (L - 97 + 10) ∧ a * 16 + (L - 97 + 10) < 256 ∧ a * 16 + (L - 97 + 10) = ((16 * acc + (L - 87).toNat : Nat) : Int) ∧ hexAcc 0 bs = hexAcc (16 * acc + (L - 87).toNat) (bs.drop (k + 1))) :=
            hid ⟨by omega, fun h => by have := b0 (by omega); omega, by omega, by omega, by omega, hdec.trans hF⟩
          have lr : ∀ w, Calls Tryz.prog 78 #[.int .u8 (c.toNat : Int)] w fun e w' => e = .returned (.int .u8 L) ∧ w' = w := fun w => by rw [hL]; exact lower_row _ w
          have h95 : ¬ (c.toNat : Int) = 95 := fun h => by
            have e : lowB 95 = 127 := by decide
            rw [h, e] at hL
            omega
          have hdig' : ¬ ((48 : Int) ≤ (c.toNat : Int) ∧ (c.toNat : Int) ≤ 57) := by omega
          clear hF hdec ha b0 hv0 hv1 hL hdig
          by_cases hq : (48 : Int) ≤ (c.toNat : Int)
          · have hq2 : ¬ (c.toNat : Int) ≤ 57 := by omega
            clear hdig'
            go_wp2_with (go_at_call 78; refine (lr _).mono ?_; rintro e w' ⟨rfl, rfl⟩)
            refine ⟨⟨k + 1, 16 * acc + (L - 87).toNat, a * 16 + (L - 97 + 10), rfl, (by first | rfl | (congr 1; omega)), (by first | rfl | (congr 1; omega)), by omega, HN⟩, by simp [RowKit.intOf]; omega⟩
          · clear hdig'
            go_wp2_with (go_at_call 78; refine (lr _).mono ?_; rintro e w' ⟨rfl, rfl⟩)
            refine ⟨⟨k + 1, 16 * acc + (L - 87).toNat, a * 16 + (L - 97 + 10), rfl, (by first | rfl | (congr 1; omega)), (by first | rfl | (congr 1; omega)), by omega, HN⟩, by simp [RowKit.intOf]; omega⟩
        · have hF : hexAcc acc (c :: bs.drop (k + 1)) = none := by
            have : hexD c = none := by unfold hexD; rw [if_neg hdig, if_neg hlet]
            rw [hexAcc, this]
          rw [hF] at hdec
          have hu : uRes (hexAcc 0 bs) = .tuple #[.int .u64 0, .iface 69 (.int .i64 2)] := by rw [hdec]; rfl
          obtain ⟨L, hL⟩ : ∃ L, L = lowB (c.toNat : Int) := ⟨_, rfl⟩
          have lr : ∀ w, Calls Tryz.prog 78 #[.int .u8 (c.toNat : Int)] w fun e w' => e = .returned (.int .u8 L) ∧ w' = w := fun w => by rw [hL]; exact lower_row _ w
          have hl0 : 0 ≤ L := by rw [hL]; exact hv0
          have hl1 : L ≤ 255 := by rw [hL]; unfold lowB; omega
          rw [← hL] at hlet
          by_cases h95 : (c.toNat : Int) = 95
          · have e : lowB 95 = 127 := by decide
            have l95 : ∀ w, Calls Tryz.prog 78 #[.int .u8 95] w fun e w' => e = .returned (.int .u8 127) ∧ w' = w := fun w => by rw [← e]; exact lower_row _ w
            rw [h95] at hc
            clear hF ha b0 hv0 hv1 hL lr h95 e hlet hl0 hl1
            go_wp2_with (go_at_call 78; refine (l95 _).mono ?_; rintro e w' ⟨rfl, rfl⟩)
            all_goals go_ret2
            all_goals first | exact ⟨rfl, rfl⟩ | exact ⟨congrArg Ending.returned hu.symm, rfl⟩
          · clear hF ha b0 hv0 hv1 hL
            by_cases hq : (48 : Int) ≤ (c.toNat : Int)
            · have hq2 : ¬ (c.toNat : Int) ≤ 57 := by omega
              by_cases hp : (97 : Int) ≤ L
              · have hp2 : ¬ L ≤ 102 := fun h => hlet ⟨hp, h⟩
                clear hlet
                go_wp2_with (go_at_call 78; refine (lr _).mono ?_; rintro e w' ⟨rfl, rfl⟩)
                all_goals go_ret2
                all_goals first | exact ⟨rfl, rfl⟩ | exact ⟨congrArg Ending.returned hu.symm, rfl⟩
              · clear hlet
                go_wp2_with (go_at_call 78; refine (lr _).mono ?_; rintro e w' ⟨rfl, rfl⟩)
                all_goals go_ret2
                all_goals first | exact ⟨rfl, rfl⟩ | exact ⟨congrArg Ending.returned hu.symm, rfl⟩
            · by_cases hp : (97 : Int) ≤ L
              · have hp2 : ¬ L ≤ 102 := fun h => hlet ⟨hp, h⟩
                clear hlet
                go_wp2_with (go_at_call 78; refine (lr _).mono ?_; rintro e w' ⟨rfl, rfl⟩)
                all_goals go_ret2
                all_goals first | exact ⟨rfl, rfl⟩ | exact ⟨congrArg Ending.returned hu.symm, rfl⟩
              · clear hlet
                go_wp2_with (go_at_call 78; refine (lr _).mono ?_; rintro e w' ⟨rfl, rfl⟩)
                all_goals go_ret2
                all_goals first | exact ⟨rfl, rfl⟩ | exact ⟨congrArg Ending.returned hu.symm, rfl⟩
    · have hkk : k = 2 := by omega
      subst hkk
      have hF : hexAcc acc (bs.drop 2) = some acc := by rw [List.drop_eq_nil_of_le (by omega)]; rfl
      rw [hF] at hdec
      subst ha
      have hu : uRes (hexAcc 0 bs) = .tuple #[.int .u64 (acc : Int), .nilIface] := by rw [hdec]; rfl
      clear hF a0 a1
      have hn : ¬ ((2 : Nat) : Int) < (t.size : Int) := by omega
      go_wp2
      go_ret2
      first | exact ⟨rfl, rfl⟩ | exact ⟨congrArg Ending.returned hu.symm, rfl⟩
end Go.Proofs.YtllehkjebikgpaaGreatDoorX
