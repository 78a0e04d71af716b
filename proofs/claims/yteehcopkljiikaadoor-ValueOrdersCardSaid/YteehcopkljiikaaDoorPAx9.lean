-- Laid by a program of ours (wip/gen/xprint.py). Not trusted: Lean checks it.
import Derived.Test.YteehcopkljiikaaDoorX3
import Derived.Test.YteehcopkljiikaaDoorPAx0
import Derived.Test.YteehcopkljiikaaDoorPAx1
import Derived.Test.YteehcopkljiikaaDoorPAx2
import Derived.Test.YteehcopkljiikaaDoorPAx3
import Derived.Test.YteehcopkljiikaaDoorPAx4
import Derived.Test.YteehcopkljiikaaDoorPAx6
import Derived.Test.YteehcopkljiikaaDoorPAx7
import Derived.Test.YteehcopkljiikaaDoorPAx8
namespace Go.Proofs.YteehcopkljiikaaDoor.PA
open Go.RowKit Go.Proofs.YteehcopkljiikaaDoorW.PrintWords Go.Proofs.YteehcopkljiikaaDoorW.PrintLast Go.Proofs.YteehcopkljiikaaDoorW.PrintMore Go.Proofs.YteehcopkljiikaaDoorX
attribute [local go_sem] max2_int min2_int max_two min_two max_three min_three max_four min_four   -- for this text's walks alone
set_option linter.unusedVariables false
set_option linter.unusedSimpArgs false

attribute [local go_sem high] eqA23
/-! ### unisonlaw01_awake: function 12 -/
def unisonlaw01_awake.j0 : Nat → Int → Int → ByteArray → Int → Bool → Int → Int → ByteArray → Int → Int → ByteArray → Option (Bool)
 | 0, _, _, _, _, _, _, _, _, _, _, _ => none
 | k + 1, x9, x11, x12, x13, x79, x252000, x252001, x252002, x269000, x269001, x269002 => if x79 = true then (some false) else ((unisonlaw01_number.f (-3)).bind fun bt271 => (if (x252000 == bt271.1 && (x252001 == bt271.2.1 && (x252002.toList == bt271.2.2.toList))) = true then (if x9 = 0 then ((unisonlaw01_number.f 4611686018427387904).bind fun bt274 => (if (x269000 == bt274.1 && (x269001 == bt274.2.1 && (x269002.toList == bt274.2.2.toList))) = true then (if x11 = 0 then (if x12.toList = ([39, 105, 116, 39, 39, 115, 39] : List UInt8) then (some (x13 == 0)) else (some false)) else (some false)) else (some false))) else (some false)) else (some false)))
def unisonlaw01_awake.f (k : Nat)  : Option (Bool) := (unisonlaw01_number.f 4611686018427387904).bind fun bt213 => ((value_Right.f bt213.1 bt213.2.1 bt213.2.2).bind fun t216 => ((value_Right.f 2 2 (⟨#[]⟩ : ByteArray)).bind fun t217 => ((unisonlaw01_number.f 3).bind fun bt218 => ((value_Order.f k bt218.1 bt218.2.1 bt218.2.2 2 0 (⟨#[]⟩ : ByteArray)).bind fun t221 => ((unisonlaw01_number.f 3).bind fun bt222 => ((unisonlaw01_number.f 5).bind fun bt225 => ((value_Compare.f k 3 bt222.1 bt222.2.1 bt222.2.2 bt225.1 bt225.2.1 bt225.2.2).bind fun bt228 => ((value_And.f k (([(⟨2, 0, (⟨#[]⟩ : ByteArray)⟩ : S23), (⟨0, 0, (⟨#[]⟩ : ByteArray)⟩ : S23)] : List (S23)))).bind fun bt236 => ((unisonlaw01_number.f (-7)).bind fun bt241 => ((unisonlaw01_number.f 2).bind fun bt244 => ((value_Arith.f k 4 bt241.1 bt241.2.1 bt241.2.2 bt244.1 bt244.2.1 bt244.2.2).bind fun bt247 => ((unisonlaw01_number.f 4611686018427387904).bind fun bt252 => ((unisonlaw01_number.f 1).bind fun bt255 => ((unisonlaw01_number.f (-1)).bind fun bt258 => ((value_Sum.f k (([(⟨bt252.1, bt252.2.1, bt252.2.2⟩ : S23), (⟨bt255.1, bt255.2.1, bt255.2.2⟩ : S23), (⟨bt258.1, bt258.2.1, bt258.2.2⟩ : S23)] : List (S23)))).bind fun bt264 => ((value_Print.f 3 0 (⟨#[105, 116, 39, 115]⟩ : ByteArray)).bind fun bt269 => (if t216 = true then (if t217 = true then (unisonlaw01_awake.j0 k bt247.2.2.2 bt264.2.2.2 bt269.1 bt269.2 true bt247.1 bt247.2.1 bt247.2.2.1 bt264.1 bt264.2.1 bt264.2.2.1) else (if t221 = (-1) then (if (!(bt228.1 == 2) || (!(bt228.2.1 == 1) || (!(bt228.2.2.1.toList == ([] : List UInt8))))) = true then (unisonlaw01_awake.j0 k bt247.2.2.2 bt264.2.2.2 bt269.1 bt269.2 true bt247.1 bt247.2.1 bt247.2.2.1 bt264.1 bt264.2.1 bt264.2.2.1) else (if bt228.2.2.2 = 0 then (if (!(bt236.1 == 2) || (!(bt236.2.1 == 0) || (!(bt236.2.2.1.toList == ([] : List UInt8))))) = true then (unisonlaw01_awake.j0 k bt247.2.2.2 bt264.2.2.2 bt269.1 bt269.2 true bt247.1 bt247.2.1 bt247.2.2.1 bt264.1 bt264.2.1 bt264.2.2.1) else (unisonlaw01_awake.j0 k bt247.2.2.2 bt264.2.2.2 bt269.1 bt269.2 (bt236.2.2.2 != 0) bt247.1 bt247.2.1 bt247.2.2.1 bt264.1 bt264.2.1 bt264.2.2.1)) else (unisonlaw01_awake.j0 k bt247.2.2.2 bt264.2.2.2 bt269.1 bt269.2 true bt247.1 bt247.2.1 bt247.2.2.1 bt264.1 bt264.2.1 bt264.2.2.1))) else (unisonlaw01_awake.j0 k bt247.2.2.2 bt264.2.2.2 bt269.1 bt269.2 true bt247.1 bt247.2.1 bt247.2.2.1 bt264.1 bt264.2.1 bt264.2.2.1))) else (unisonlaw01_awake.j0 k bt247.2.2.2 bt264.2.2.2 bt269.1 bt269.2 true bt247.1 bt247.2.1 bt247.2.2.1 bt264.1 bt264.2.1 bt264.2.2.1))))))))))))))))))
theorem unisonlaw01_awake.mono_l : ∀ k, (∀ y0 y1 y2 y3 y4 y5 y6 y7 y8 y9 y10, LeO (unisonlaw01_awake.j0 k y0 y1 y2 y3 y4 y5 y6 y7 y8 y9 y10) (unisonlaw01_awake.j0 (k + 1) y0 y1 y2 y3 y4 y5 y6 y7 y8 y9 y10))
 | 0 => fun _ _ _ _ _ _ _ _ _ _ _ r h => by simp [unisonlaw01_awake.j0] at h
 | k + 1 => by
  have ih0 := unisonlaw01_awake.mono_l k
  ·
   intro y0 y1 y2 y3 y4 y5 y6 y7 y8 y9 y10
   unfold unisonlaw01_awake.j0
   repeat' first
   | (with_reducible exact ih0 _ _ _ _ _ _ _ _ _ _ _)
   | (with_reducible exact value_And.mono _ _)
   | (with_reducible exact value_Arith.mono _ _ _ _ _ _ _ _)
   | (with_reducible exact value_Compare.mono _ _ _ _ _ _ _ _)
   | (with_reducible exact value_Order.mono _ _ _ _ _ _ _)
   | (with_reducible exact value_Sum.mono _ _)
   | (with_reducible exact LeO.refl _)
   | (with_reducible exact LeO.none _)
   | (with_reducible refine LeO.ite ?_ ?_)
   | (with_reducible refine LeO.bind ?_ (fun _ => ?_))
   | exact ih0 _ _ _ _ _ _ _ _ _ _ _
   | exact value_And.mono _ _
   | exact value_Arith.mono _ _ _ _ _ _ _ _
   | exact value_Compare.mono _ _ _ _ _ _ _ _
   | exact value_Order.mono _ _ _ _ _ _ _
   | exact value_Sum.mono _ _
   | exact LeO.none _
   | refine LeO.ite ?_ ?_
   | refine LeO.bind ?_ (fun _ => ?_)
theorem unisonlaw01_awake.mono : ∀ k, LeO (unisonlaw01_awake.f k ) (unisonlaw01_awake.f (k + 1) ) := by
 intro  k
 have ih0 := unisonlaw01_awake.mono_l k
 unfold unisonlaw01_awake.f
 repeat' first
   | (with_reducible exact ih0 _ _ _ _ _ _ _ _ _ _ _)
   | (with_reducible exact value_And.mono _ _)
   | (with_reducible exact value_Arith.mono _ _ _ _ _ _ _ _)
   | (with_reducible exact value_Compare.mono _ _ _ _ _ _ _ _)
   | (with_reducible exact value_Order.mono _ _ _ _ _ _ _)
   | (with_reducible exact value_Sum.mono _ _)
   | (with_reducible exact LeO.refl _)
   | (with_reducible exact LeO.none _)
   | (with_reducible refine LeO.ite ?_ ?_)
   | (with_reducible refine LeO.bind ?_ (fun _ => ?_))
   | exact ih0 _ _ _ _ _ _ _ _ _ _ _
   | exact value_And.mono _ _
   | exact value_Arith.mono _ _ _ _ _ _ _ _
   | exact value_Compare.mono _ _ _ _ _ _ _ _
   | exact value_Order.mono _ _ _ _ _ _ _
   | exact value_Sum.mono _ _
   | exact LeO.none _
   | refine LeO.ite ?_ ?_
   | refine LeO.bind ?_ (fun _ => ?_)
def unisonlaw01_awake.T11 : Bool × List (List Nat × List Nat) := (true, [([], []), ([], []), ([0, 1], [0, 1]), ([2, 1], [2]), ([3], [3]), ([4, 3], [3, 4]), ([3, 5], [3, 5]), ([6, 3], [6]), ([7], [7]), ([7, 7], [7]), ([8, 9, 7], [7, 8, 9]), ([7, 10], [7, 10]), ([11, 9], [11]), ([12], [12]), ([13, 12], [12, 13]), ([12, 14], [12, 14]), ([15, 12], [15]), ([16], [16]), ([17, 16], [16, 17]), ([16, 18], [16, 18]), ([19, 16], [19]), ([20], [20]), ([21, 20], [20, 21]), ([20, 22], [20, 22]), ([23, 20, 0, 1, 2, 3, 4, 5, 6, 7, 8, 9, 10, 11, 12, 13, 14, 15, 16, 17, 18, 19, 20, 21, 22, 23], [23])])
def unisonlaw01_awake.B11 : List Nat := [0, 0, 3, 7, 15, 31, 63, 127, 255, 255, 1023, 2047, 4095, 8191, 16383, 32767, 65535, 131071, 262143, 524287, 1048575, 2097151, 4194303, 8388607, 16777215]
theorem unisonlaw01_awake.tab11 : rtab .any (opsOf Tryd.f12 11) = unisonlaw01_awake.T11 := by kernel_rfl
theorem unisonlaw01_awake.bits11 : waitsOk unisonlaw01_awake.T11.2 unisonlaw01_awake.B11 = true := by kernel_rfl
set_option maxHeartbeats 8000000 in
set_option maxRecDepth 100000 in
theorem unisonlaw01_awake.calls (k : Nat)  (r : Bool) (w : World) (h : unisonlaw01_awake.f k  = some r) :
  Calls Tryd.prog 12 #[] w fun e w' => e = .returned (.bool r) ∧ Below w.heap.size w w' := by
 have hu23 := Tryd.underlying23
 have HB := Aside0.mk (Below.refl w.heap.size w)
 have H : ((unisonlaw01_number.f 4611686018427387904).bind fun bt213 => ((value_Right.f bt213.1 bt213.2.1 bt213.2.2).bind fun t216 => ((value_Right.f 2 2 (⟨#[]⟩ : ByteArray)).bind fun t217 => ((unisonlaw01_number.f 3).bind fun bt218 => ((value_Order.f k bt218.1 bt218.2.1 bt218.2.2 2 0 (⟨#[]⟩ : ByteArray)).bind fun t221 => ((unisonlaw01_number.f 3).bind fun bt222 => ((unisonlaw01_number.f 5).bind fun bt225 => ((value_Compare.f k 3 bt222.1 bt222.2.1 bt222.2.2 bt225.1 bt225.2.1 bt225.2.2).bind fun bt228 => ((value_And.f k (([(⟨2, 0, (⟨#[]⟩ : ByteArray)⟩ : S23), (⟨0, 0, (⟨#[]⟩ : ByteArray)⟩ : S23)] : List (S23)))).bind fun bt236 => ((unisonlaw01_number.f (-7)).bind fun bt241 => ((unisonlaw01_number.f 2).bind fun bt244 => ((value_Arith.f k 4 bt241.1 bt241.2.1 bt241.2.2 bt244.1 bt244.2.1 bt244.2.2).bind fun bt247 => ((unisonlaw01_number.f 4611686018427387904).bind fun bt252 => ((unisonlaw01_number.f 1).bind fun bt255 => ((unisonlaw01_number.f (-1)).bind fun bt258 => ((value_Sum.f k (([(⟨bt252.1, bt252.2.1, bt252.2.2⟩ : S23), (⟨bt255.1, bt255.2.1, bt255.2.2⟩ : S23), (⟨bt258.1, bt258.2.1, bt258.2.2⟩ : S23)] : List (S23)))).bind fun bt264 => ((value_Print.f 3 0 (⟨#[105, 116, 39, 115]⟩ : ByteArray)).bind fun bt269 => (if t216 = true then (if t217 = true then (unisonlaw01_awake.j0 k bt247.2.2.2 bt264.2.2.2 bt269.1 bt269.2 true bt247.1 bt247.2.1 bt247.2.2.1 bt264.1 bt264.2.1 bt264.2.2.1) else (if t221 = (-1) then (if (!(bt228.1 == 2) || (!(bt228.2.1 == 1) || (!(bt228.2.2.1.toList == ([] : List UInt8))))) = true then (unisonlaw01_awake.j0 k bt247.2.2.2 bt264.2.2.2 bt269.1 bt269.2 true bt247.1 bt247.2.1 bt247.2.2.1 bt264.1 bt264.2.1 bt264.2.2.1) else (if bt228.2.2.2 = 0 then (if (!(bt236.1 == 2) || (!(bt236.2.1 == 0) || (!(bt236.2.2.1.toList == ([] : List UInt8))))) = true then (unisonlaw01_awake.j0 k bt247.2.2.2 bt264.2.2.2 bt269.1 bt269.2 true bt247.1 bt247.2.1 bt247.2.2.1 bt264.1 bt264.2.1 bt264.2.2.1) else (unisonlaw01_awake.j0 k bt247.2.2.2 bt264.2.2.2 bt269.1 bt269.2 (bt236.2.2.2 != 0) bt247.1 bt247.2.1 bt247.2.2.1 bt264.1 bt264.2.1 bt264.2.2.1)) else (unisonlaw01_awake.j0 k bt247.2.2.2 bt264.2.2.2 bt269.1 bt269.2 true bt247.1 bt247.2.1 bt247.2.2.1 bt264.1 bt264.2.1 bt264.2.2.1))) else (unisonlaw01_awake.j0 k bt247.2.2.2 bt264.2.2.2 bt269.1 bt269.2 true bt247.1 bt247.2.1 bt247.2.2.1 bt264.1 bt264.2.1 bt264.2.2.1))) else (unisonlaw01_awake.j0 k bt247.2.2.2 bt264.2.2.2 bt269.1 bt269.2 true bt247.1 bt247.2.1 bt247.2.2.1 bt264.1 bt264.2.1 bt264.2.2.1))))))))))))))))))) = some r := h
 clear h
 replace H := Option.bind_eq_some_iff.mp H
 obtain ⟨⟨t213, t214, t215⟩, A10, H⟩ := H
 replace H : ((value_Right.f t213 t214 t215).bind fun t216 => ((value_Right.f 2 2 (⟨#[]⟩ : ByteArray)).bind fun t217 => ((unisonlaw01_number.f 3).bind fun bt218 => ((value_Order.f k bt218.1 bt218.2.1 bt218.2.2 2 0 (⟨#[]⟩ : ByteArray)).bind fun t221 => ((unisonlaw01_number.f 3).bind fun bt222 => ((unisonlaw01_number.f 5).bind fun bt225 => ((value_Compare.f k 3 bt222.1 bt222.2.1 bt222.2.2 bt225.1 bt225.2.1 bt225.2.2).bind fun bt228 => ((value_And.f k (([(⟨2, 0, (⟨#[]⟩ : ByteArray)⟩ : S23), (⟨0, 0, (⟨#[]⟩ : ByteArray)⟩ : S23)] : List (S23)))).bind fun bt236 => ((unisonlaw01_number.f (-7)).bind fun bt241 => ((unisonlaw01_number.f 2).bind fun bt244 => ((value_Arith.f k 4 bt241.1 bt241.2.1 bt241.2.2 bt244.1 bt244.2.1 bt244.2.2).bind fun bt247 => ((unisonlaw01_number.f 4611686018427387904).bind fun bt252 => ((unisonlaw01_number.f 1).bind fun bt255 => ((unisonlaw01_number.f (-1)).bind fun bt258 => ((value_Sum.f k (([(⟨bt252.1, bt252.2.1, bt252.2.2⟩ : S23), (⟨bt255.1, bt255.2.1, bt255.2.2⟩ : S23), (⟨bt258.1, bt258.2.1, bt258.2.2⟩ : S23)] : List (S23)))).bind fun bt264 => ((value_Print.f 3 0 (⟨#[105, 116, 39, 115]⟩ : ByteArray)).bind fun bt269 => (if t216 = true then (if t217 = true then (unisonlaw01_awake.j0 k bt247.2.2.2 bt264.2.2.2 bt269.1 bt269.2 true bt247.1 bt247.2.1 bt247.2.2.1 bt264.1 bt264.2.1 bt264.2.2.1) else (if t221 = (-1) then (if (!(bt228.1 == 2) || (!(bt228.2.1 == 1) || (!(bt228.2.2.1.toList == ([] : List UInt8))))) = true then (unisonlaw01_awake.j0 k bt247.2.2.2 bt264.2.2.2 bt269.1 bt269.2 true bt247.1 bt247.2.1 bt247.2.2.1 bt264.1 bt264.2.1 bt264.2.2.1) else (if bt228.2.2.2 = 0 then (if (!(bt236.1 == 2) || (!(bt236.2.1 == 0) || (!(bt236.2.2.1.toList == ([] : List UInt8))))) = true then (unisonlaw01_awake.j0 k bt247.2.2.2 bt264.2.2.2 bt269.1 bt269.2 true bt247.1 bt247.2.1 bt247.2.2.1 bt264.1 bt264.2.1 bt264.2.2.1) else (unisonlaw01_awake.j0 k bt247.2.2.2 bt264.2.2.2 bt269.1 bt269.2 (bt236.2.2.2 != 0) bt247.1 bt247.2.1 bt247.2.2.1 bt264.1 bt264.2.1 bt264.2.2.1)) else (unisonlaw01_awake.j0 k bt247.2.2.2 bt264.2.2.2 bt269.1 bt269.2 true bt247.1 bt247.2.1 bt247.2.2.1 bt264.1 bt264.2.1 bt264.2.2.1))) else (unisonlaw01_awake.j0 k bt247.2.2.2 bt264.2.2.2 bt269.1 bt269.2 true bt247.1 bt247.2.1 bt247.2.2.1 bt264.1 bt264.2.1 bt264.2.2.1))) else (unisonlaw01_awake.j0 k bt247.2.2.2 bt264.2.2.2 bt269.1 bt269.2 true bt247.1 bt247.2.1 bt247.2.2.1 bt264.1 bt264.2.1 bt264.2.2.1)))))))))))))))))) = some r := H
 have A1 := Aside0.mk A10
 clear A10
 replace H := Option.bind_eq_some_iff.mp H
 obtain ⟨t216, A20, H⟩ := H
 replace H : ((value_Right.f 2 2 (⟨#[]⟩ : ByteArray)).bind fun t217 => ((unisonlaw01_number.f 3).bind fun bt218 => ((value_Order.f k bt218.1 bt218.2.1 bt218.2.2 2 0 (⟨#[]⟩ : ByteArray)).bind fun t221 => ((unisonlaw01_number.f 3).bind fun bt222 => ((unisonlaw01_number.f 5).bind fun bt225 => ((value_Compare.f k 3 bt222.1 bt222.2.1 bt222.2.2 bt225.1 bt225.2.1 bt225.2.2).bind fun bt228 => ((value_And.f k (([(⟨2, 0, (⟨#[]⟩ : ByteArray)⟩ : S23), (⟨0, 0, (⟨#[]⟩ : ByteArray)⟩ : S23)] : List (S23)))).bind fun bt236 => ((unisonlaw01_number.f (-7)).bind fun bt241 => ((unisonlaw01_number.f 2).bind fun bt244 => ((value_Arith.f k 4 bt241.1 bt241.2.1 bt241.2.2 bt244.1 bt244.2.1 bt244.2.2).bind fun bt247 => ((unisonlaw01_number.f 4611686018427387904).bind fun bt252 => ((unisonlaw01_number.f 1).bind fun bt255 => ((unisonlaw01_number.f (-1)).bind fun bt258 => ((value_Sum.f k (([(⟨bt252.1, bt252.2.1, bt252.2.2⟩ : S23), (⟨bt255.1, bt255.2.1, bt255.2.2⟩ : S23), (⟨bt258.1, bt258.2.1, bt258.2.2⟩ : S23)] : List (S23)))).bind fun bt264 => ((value_Print.f 3 0 (⟨#[105, 116, 39, 115]⟩ : ByteArray)).bind fun bt269 => (if t216 = true then (if t217 = true then (unisonlaw01_awake.j0 k bt247.2.2.2 bt264.2.2.2 bt269.1 bt269.2 true bt247.1 bt247.2.1 bt247.2.2.1 bt264.1 bt264.2.1 bt264.2.2.1) else (if t221 = (-1) then (if (!(bt228.1 == 2) || (!(bt228.2.1 == 1) || (!(bt228.2.2.1.toList == ([] : List UInt8))))) = true then (unisonlaw01_awake.j0 k bt247.2.2.2 bt264.2.2.2 bt269.1 bt269.2 true bt247.1 bt247.2.1 bt247.2.2.1 bt264.1 bt264.2.1 bt264.2.2.1) else (if bt228.2.2.2 = 0 then (if (!(bt236.1 == 2) || (!(bt236.2.1 == 0) || (!(bt236.2.2.1.toList == ([] : List UInt8))))) = true then (unisonlaw01_awake.j0 k bt247.2.2.2 bt264.2.2.2 bt269.1 bt269.2 true bt247.1 bt247.2.1 bt247.2.2.1 bt264.1 bt264.2.1 bt264.2.2.1) else (unisonlaw01_awake.j0 k bt247.2.2.2 bt264.2.2.2 bt269.1 bt269.2 (bt236.2.2.2 != 0) bt247.1 bt247.2.1 bt247.2.2.1 bt264.1 bt264.2.1 bt264.2.2.1)) else (unisonlaw01_awake.j0 k bt247.2.2.2 bt264.2.2.2 bt269.1 bt269.2 true bt247.1 bt247.2.1 bt247.2.2.1 bt264.1 bt264.2.1 bt264.2.2.1))) else (unisonlaw01_awake.j0 k bt247.2.2.2 bt264.2.2.2 bt269.1 bt269.2 true bt247.1 bt247.2.1 bt247.2.2.1 bt264.1 bt264.2.1 bt264.2.2.1))) else (unisonlaw01_awake.j0 k bt247.2.2.2 bt264.2.2.2 bt269.1 bt269.2 true bt247.1 bt247.2.1 bt247.2.2.1 bt264.1 bt264.2.1 bt264.2.2.1))))))))))))))))) = some r := H
 have A2 := Aside0.mk A20
 clear A20
 replace H := Option.bind_eq_some_iff.mp H
 obtain ⟨t217, A30, H⟩ := H
 replace H : ((unisonlaw01_number.f 3).bind fun bt218 => ((value_Order.f k bt218.1 bt218.2.1 bt218.2.2 2 0 (⟨#[]⟩ : ByteArray)).bind fun t221 => ((unisonlaw01_number.f 3).bind fun bt222 => ((unisonlaw01_number.f 5).bind fun bt225 => ((value_Compare.f k 3 bt222.1 bt222.2.1 bt222.2.2 bt225.1 bt225.2.1 bt225.2.2).bind fun bt228 => ((value_And.f k (([(⟨2, 0, (⟨#[]⟩ : ByteArray)⟩ : S23), (⟨0, 0, (⟨#[]⟩ : ByteArray)⟩ : S23)] : List (S23)))).bind fun bt236 => ((unisonlaw01_number.f (-7)).bind fun bt241 => ((unisonlaw01_number.f 2).bind fun bt244 => ((value_Arith.f k 4 bt241.1 bt241.2.1 bt241.2.2 bt244.1 bt244.2.1 bt244.2.2).bind fun bt247 => ((unisonlaw01_number.f 4611686018427387904).bind fun bt252 => ((unisonlaw01_number.f 1).bind fun bt255 => ((unisonlaw01_number.f (-1)).bind fun bt258 => ((value_Sum.f k (([(⟨bt252.1, bt252.2.1, bt252.2.2⟩ : S23), (⟨bt255.1, bt255.2.1, bt255.2.2⟩ : S23), (⟨bt258.1, bt258.2.1, bt258.2.2⟩ : S23)] : List (S23)))).bind fun bt264 => ((value_Print.f 3 0 (⟨#[105, 116, 39, 115]⟩ : ByteArray)).bind fun bt269 => (if t216 = true then (if t217 = true then (unisonlaw01_awake.j0 k bt247.2.2.2 bt264.2.2.2 bt269.1 bt269.2 true bt247.1 bt247.2.1 bt247.2.2.1 bt264.1 bt264.2.1 bt264.2.2.1) else (if t221 = (-1) then (if (!(bt228.1 == 2) || (!(bt228.2.1 == 1) || (!(bt228.2.2.1.toList == ([] : List UInt8))))) = true then (unisonlaw01_awake.j0 k bt247.2.2.2 bt264.2.2.2 bt269.1 bt269.2 true bt247.1 bt247.2.1 bt247.2.2.1 bt264.1 bt264.2.1 bt264.2.2.1) else (if bt228.2.2.2 = 0 then (if (!(bt236.1 == 2) || (!(bt236.2.1 == 0) || (!(bt236.2.2.1.toList == ([] : List UInt8))))) = true then (unisonlaw01_awake.j0 k bt247.2.2.2 bt264.2.2.2 bt269.1 bt269.2 true bt247.1 bt247.2.1 bt247.2.2.1 bt264.1 bt264.2.1 bt264.2.2.1) else (unisonlaw01_awake.j0 k bt247.2.2.2 bt264.2.2.2 bt269.1 bt269.2 (bt236.2.2.2 != 0) bt247.1 bt247.2.1 bt247.2.2.1 bt264.1 bt264.2.1 bt264.2.2.1)) else (unisonlaw01_awake.j0 k bt247.2.2.2 bt264.2.2.2 bt269.1 bt269.2 true bt247.1 bt247.2.1 bt247.2.2.1 bt264.1 bt264.2.1 bt264.2.2.1))) else (unisonlaw01_awake.j0 k bt247.2.2.2 bt264.2.2.2 bt269.1 bt269.2 true bt247.1 bt247.2.1 bt247.2.2.1 bt264.1 bt264.2.1 bt264.2.2.1))) else (unisonlaw01_awake.j0 k bt247.2.2.2 bt264.2.2.2 bt269.1 bt269.2 true bt247.1 bt247.2.1 bt247.2.2.1 bt264.1 bt264.2.1 bt264.2.2.1)))))))))))))))) = some r := H
 have A3 := Aside0.mk A30
 clear A30
 replace H := Option.bind_eq_some_iff.mp H
 obtain ⟨⟨t218, t219, t220⟩, A40, H⟩ := H
 replace H : ((value_Order.f k t218 t219 t220 2 0 (⟨#[]⟩ : ByteArray)).bind fun t221 => ((unisonlaw01_number.f 3).bind fun bt222 => ((unisonlaw01_number.f 5).bind fun bt225 => ((value_Compare.f k 3 bt222.1 bt222.2.1 bt222.2.2 bt225.1 bt225.2.1 bt225.2.2).bind fun bt228 => ((value_And.f k (([(⟨2, 0, (⟨#[]⟩ : ByteArray)⟩ : S23), (⟨0, 0, (⟨#[]⟩ : ByteArray)⟩ : S23)] : List (S23)))).bind fun bt236 => ((unisonlaw01_number.f (-7)).bind fun bt241 => ((unisonlaw01_number.f 2).bind fun bt244 => ((value_Arith.f k 4 bt241.1 bt241.2.1 bt241.2.2 bt244.1 bt244.2.1 bt244.2.2).bind fun bt247 => ((unisonlaw01_number.f 4611686018427387904).bind fun bt252 => ((unisonlaw01_number.f 1).bind fun bt255 => ((unisonlaw01_number.f (-1)).bind fun bt258 => ((value_Sum.f k (([(⟨bt252.1, bt252.2.1, bt252.2.2⟩ : S23), (⟨bt255.1, bt255.2.1, bt255.2.2⟩ : S23), (⟨bt258.1, bt258.2.1, bt258.2.2⟩ : S23)] : List (S23)))).bind fun bt264 => ((value_Print.f 3 0 (⟨#[105, 116, 39, 115]⟩ : ByteArray)).bind fun bt269 => (if t216 = true then (if t217 = true then (unisonlaw01_awake.j0 k bt247.2.2.2 bt264.2.2.2 bt269.1 bt269.2 true bt247.1 bt247.2.1 bt247.2.2.1 bt264.1 bt264.2.1 bt264.2.2.1) else (if t221 = (-1) then (if (!(bt228.1 == 2) || (!(bt228.2.1 == 1) || (!(bt228.2.2.1.toList == ([] : List UInt8))))) = true then (unisonlaw01_awake.j0 k bt247.2.2.2 bt264.2.2.2 bt269.1 bt269.2 true bt247.1 bt247.2.1 bt247.2.2.1 bt264.1 bt264.2.1 bt264.2.2.1) else (if bt228.2.2.2 = 0 then (if (!(bt236.1 == 2) || (!(bt236.2.1 == 0) || (!(bt236.2.2.1.toList == ([] : List UInt8))))) = true then (unisonlaw01_awake.j0 k bt247.2.2.2 bt264.2.2.2 bt269.1 bt269.2 true bt247.1 bt247.2.1 bt247.2.2.1 bt264.1 bt264.2.1 bt264.2.2.1) else (unisonlaw01_awake.j0 k bt247.2.2.2 bt264.2.2.2 bt269.1 bt269.2 (bt236.2.2.2 != 0) bt247.1 bt247.2.1 bt247.2.2.1 bt264.1 bt264.2.1 bt264.2.2.1)) else (unisonlaw01_awake.j0 k bt247.2.2.2 bt264.2.2.2 bt269.1 bt269.2 true bt247.1 bt247.2.1 bt247.2.2.1 bt264.1 bt264.2.1 bt264.2.2.1))) else (unisonlaw01_awake.j0 k bt247.2.2.2 bt264.2.2.2 bt269.1 bt269.2 true bt247.1 bt247.2.1 bt247.2.2.1 bt264.1 bt264.2.1 bt264.2.2.1))) else (unisonlaw01_awake.j0 k bt247.2.2.2 bt264.2.2.2 bt269.1 bt269.2 true bt247.1 bt247.2.1 bt247.2.2.1 bt264.1 bt264.2.1 bt264.2.2.1))))))))))))))) = some r := H
 have A4 := Aside0.mk A40
 clear A40
 replace H := Option.bind_eq_some_iff.mp H
 obtain ⟨t221, A50, H⟩ := H
 replace H : ((unisonlaw01_number.f 3).bind fun bt222 => ((unisonlaw01_number.f 5).bind fun bt225 => ((value_Compare.f k 3 bt222.1 bt222.2.1 bt222.2.2 bt225.1 bt225.2.1 bt225.2.2).bind fun bt228 => ((value_And.f k (([(⟨2, 0, (⟨#[]⟩ : ByteArray)⟩ : S23), (⟨0, 0, (⟨#[]⟩ : ByteArray)⟩ : S23)] : List (S23)))).bind fun bt236 => ((unisonlaw01_number.f (-7)).bind fun bt241 => ((unisonlaw01_number.f 2).bind fun bt244 => ((value_Arith.f k 4 bt241.1 bt241.2.1 bt241.2.2 bt244.1 bt244.2.1 bt244.2.2).bind fun bt247 => ((unisonlaw01_number.f 4611686018427387904).bind fun bt252 => ((unisonlaw01_number.f 1).bind fun bt255 => ((unisonlaw01_number.f (-1)).bind fun bt258 => ((value_Sum.f k (([(⟨bt252.1, bt252.2.1, bt252.2.2⟩ : S23), (⟨bt255.1, bt255.2.1, bt255.2.2⟩ : S23), (⟨bt258.1, bt258.2.1, bt258.2.2⟩ : S23)] : List (S23)))).bind fun bt264 => ((value_Print.f 3 0 (⟨#[105, 116, 39, 115]⟩ : ByteArray)).bind fun bt269 => (if t216 = true then (if t217 = true then (unisonlaw01_awake.j0 k bt247.2.2.2 bt264.2.2.2 bt269.1 bt269.2 true bt247.1 bt247.2.1 bt247.2.2.1 bt264.1 bt264.2.1 bt264.2.2.1) else (if t221 = (-1) then (if (!(bt228.1 == 2) || (!(bt228.2.1 == 1) || (!(bt228.2.2.1.toList == ([] : List UInt8))))) = true then (unisonlaw01_awake.j0 k bt247.2.2.2 bt264.2.2.2 bt269.1 bt269.2 true bt247.1 bt247.2.1 bt247.2.2.1 bt264.1 bt264.2.1 bt264.2.2.1) else (if bt228.2.2.2 = 0 then (if (!(bt236.1 == 2) || (!(bt236.2.1 == 0) || (!(bt236.2.2.1.toList == ([] : List UInt8))))) = true then (unisonlaw01_awake.j0 k bt247.2.2.2 bt264.2.2.2 bt269.1 bt269.2 true bt247.1 bt247.2.1 bt247.2.2.1 bt264.1 bt264.2.1 bt264.2.2.1) else (unisonlaw01_awake.j0 k bt247.2.2.2 bt264.2.2.2 bt269.1 bt269.2 (bt236.2.2.2 != 0) bt247.1 bt247.2.1 bt247.2.2.1 bt264.1 bt264.2.1 bt264.2.2.1)) else (unisonlaw01_awake.j0 k bt247.2.2.2 bt264.2.2.2 bt269.1 bt269.2 true bt247.1 bt247.2.1 bt247.2.2.1 bt264.1 bt264.2.1 bt264.2.2.1))) else (unisonlaw01_awake.j0 k bt247.2.2.2 bt264.2.2.2 bt269.1 bt269.2 true bt247.1 bt247.2.1 bt247.2.2.1 bt264.1 bt264.2.1 bt264.2.2.1))) else (unisonlaw01_awake.j0 k bt247.2.2.2 bt264.2.2.2 bt269.1 bt269.2 true bt247.1 bt247.2.1 bt247.2.2.1 bt264.1 bt264.2.1 bt264.2.2.1)))))))))))))) = some r := H
 have A5 := Aside0.mk A50
 clear A50
 replace H := Option.bind_eq_some_iff.mp H
 obtain ⟨⟨t222, t223, t224⟩, A60, H⟩ := H
 replace H : ((unisonlaw01_number.f 5).bind fun bt225 => ((value_Compare.f k 3 t222 t223 t224 bt225.1 bt225.2.1 bt225.2.2).bind fun bt228 => ((value_And.f k (([(⟨2, 0, (⟨#[]⟩ : ByteArray)⟩ : S23), (⟨0, 0, (⟨#[]⟩ : ByteArray)⟩ : S23)] : List (S23)))).bind fun bt236 => ((unisonlaw01_number.f (-7)).bind fun bt241 => ((unisonlaw01_number.f 2).bind fun bt244 => ((value_Arith.f k 4 bt241.1 bt241.2.1 bt241.2.2 bt244.1 bt244.2.1 bt244.2.2).bind fun bt247 => ((unisonlaw01_number.f 4611686018427387904).bind fun bt252 => ((unisonlaw01_number.f 1).bind fun bt255 => ((unisonlaw01_number.f (-1)).bind fun bt258 => ((value_Sum.f k (([(⟨bt252.1, bt252.2.1, bt252.2.2⟩ : S23), (⟨bt255.1, bt255.2.1, bt255.2.2⟩ : S23), (⟨bt258.1, bt258.2.1, bt258.2.2⟩ : S23)] : List (S23)))).bind fun bt264 => ((value_Print.f 3 0 (⟨#[105, 116, 39, 115]⟩ : ByteArray)).bind fun bt269 => (if t216 = true then (if t217 = true then (unisonlaw01_awake.j0 k bt247.2.2.2 bt264.2.2.2 bt269.1 bt269.2 true bt247.1 bt247.2.1 bt247.2.2.1 bt264.1 bt264.2.1 bt264.2.2.1) else (if t221 = (-1) then (if (!(bt228.1 == 2) || (!(bt228.2.1 == 1) || (!(bt228.2.2.1.toList == ([] : List UInt8))))) = true then (unisonlaw01_awake.j0 k bt247.2.2.2 bt264.2.2.2 bt269.1 bt269.2 true bt247.1 bt247.2.1 bt247.2.2.1 bt264.1 bt264.2.1 bt264.2.2.1) else (if bt228.2.2.2 = 0 then (if (!(bt236.1 == 2) || (!(bt236.2.1 == 0) || (!(bt236.2.2.1.toList == ([] : List UInt8))))) = true then (unisonlaw01_awake.j0 k bt247.2.2.2 bt264.2.2.2 bt269.1 bt269.2 true bt247.1 bt247.2.1 bt247.2.2.1 bt264.1 bt264.2.1 bt264.2.2.1) else (unisonlaw01_awake.j0 k bt247.2.2.2 bt264.2.2.2 bt269.1 bt269.2 (bt236.2.2.2 != 0) bt247.1 bt247.2.1 bt247.2.2.1 bt264.1 bt264.2.1 bt264.2.2.1)) else (unisonlaw01_awake.j0 k bt247.2.2.2 bt264.2.2.2 bt269.1 bt269.2 true bt247.1 bt247.2.1 bt247.2.2.1 bt264.1 bt264.2.1 bt264.2.2.1))) else (unisonlaw01_awake.j0 k bt247.2.2.2 bt264.2.2.2 bt269.1 bt269.2 true bt247.1 bt247.2.1 bt247.2.2.1 bt264.1 bt264.2.1 bt264.2.2.1))) else (unisonlaw01_awake.j0 k bt247.2.2.2 bt264.2.2.2 bt269.1 bt269.2 true bt247.1 bt247.2.1 bt247.2.2.1 bt264.1 bt264.2.1 bt264.2.2.1))))))))))))) = some r := H
 have A6 := Aside0.mk A60
 clear A60
 replace H := Option.bind_eq_some_iff.mp H
 obtain ⟨⟨t225, t226, t227⟩, A70, H⟩ := H
 replace H : ((value_Compare.f k 3 t222 t223 t224 t225 t226 t227).bind fun bt228 => ((value_And.f k (([(⟨2, 0, (⟨#[]⟩ : ByteArray)⟩ : S23), (⟨0, 0, (⟨#[]⟩ : ByteArray)⟩ : S23)] : List (S23)))).bind fun bt236 => ((unisonlaw01_number.f (-7)).bind fun bt241 => ((unisonlaw01_number.f 2).bind fun bt244 => ((value_Arith.f k 4 bt241.1 bt241.2.1 bt241.2.2 bt244.1 bt244.2.1 bt244.2.2).bind fun bt247 => ((unisonlaw01_number.f 4611686018427387904).bind fun bt252 => ((unisonlaw01_number.f 1).bind fun bt255 => ((unisonlaw01_number.f (-1)).bind fun bt258 => ((value_Sum.f k (([(⟨bt252.1, bt252.2.1, bt252.2.2⟩ : S23), (⟨bt255.1, bt255.2.1, bt255.2.2⟩ : S23), (⟨bt258.1, bt258.2.1, bt258.2.2⟩ : S23)] : List (S23)))).bind fun bt264 => ((value_Print.f 3 0 (⟨#[105, 116, 39, 115]⟩ : ByteArray)).bind fun bt269 => (if t216 = true then (if t217 = true then (unisonlaw01_awake.j0 k bt247.2.2.2 bt264.2.2.2 bt269.1 bt269.2 true bt247.1 bt247.2.1 bt247.2.2.1 bt264.1 bt264.2.1 bt264.2.2.1) else (if t221 = (-1) then (if (!(bt228.1 == 2) || (!(bt228.2.1 == 1) || (!(bt228.2.2.1.toList == ([] : List UInt8))))) = true then (unisonlaw01_awake.j0 k bt247.2.2.2 bt264.2.2.2 bt269.1 bt269.2 true bt247.1 bt247.2.1 bt247.2.2.1 bt264.1 bt264.2.1 bt264.2.2.1) else (if bt228.2.2.2 = 0 then (if (!(bt236.1 == 2) || (!(bt236.2.1 == 0) || (!(bt236.2.2.1.toList == ([] : List UInt8))))) = true then (unisonlaw01_awake.j0 k bt247.2.2.2 bt264.2.2.2 bt269.1 bt269.2 true bt247.1 bt247.2.1 bt247.2.2.1 bt264.1 bt264.2.1 bt264.2.2.1) else (unisonlaw01_awake.j0 k bt247.2.2.2 bt264.2.2.2 bt269.1 bt269.2 (bt236.2.2.2 != 0) bt247.1 bt247.2.1 bt247.2.2.1 bt264.1 bt264.2.1 bt264.2.2.1)) else (unisonlaw01_awake.j0 k bt247.2.2.2 bt264.2.2.2 bt269.1 bt269.2 true bt247.1 bt247.2.1 bt247.2.2.1 bt264.1 bt264.2.1 bt264.2.2.1))) else (unisonlaw01_awake.j0 k bt247.2.2.2 bt264.2.2.2 bt269.1 bt269.2 true bt247.1 bt247.2.1 bt247.2.2.1 bt264.1 bt264.2.1 bt264.2.2.1))) else (unisonlaw01_awake.j0 k bt247.2.2.2 bt264.2.2.2 bt269.1 bt269.2 true bt247.1 bt247.2.1 bt247.2.2.1 bt264.1 bt264.2.1 bt264.2.2.1)))))))))))) = some r := H
 have A7 := Aside0.mk A70
 clear A70
 replace H := Option.bind_eq_some_iff.mp H
 obtain ⟨⟨t228, t229, t230, t231⟩, A80, H⟩ := H
 replace H : ((value_And.f k (([(⟨2, 0, (⟨#[]⟩ : ByteArray)⟩ : S23), (⟨0, 0, (⟨#[]⟩ : ByteArray)⟩ : S23)] : List (S23)))).bind fun bt236 => ((unisonlaw01_number.f (-7)).bind fun bt241 => ((unisonlaw01_number.f 2).bind fun bt244 => ((value_Arith.f k 4 bt241.1 bt241.2.1 bt241.2.2 bt244.1 bt244.2.1 bt244.2.2).bind fun bt247 => ((unisonlaw01_number.f 4611686018427387904).bind fun bt252 => ((unisonlaw01_number.f 1).bind fun bt255 => ((unisonlaw01_number.f (-1)).bind fun bt258 => ((value_Sum.f k (([(⟨bt252.1, bt252.2.1, bt252.2.2⟩ : S23), (⟨bt255.1, bt255.2.1, bt255.2.2⟩ : S23), (⟨bt258.1, bt258.2.1, bt258.2.2⟩ : S23)] : List (S23)))).bind fun bt264 => ((value_Print.f 3 0 (⟨#[105, 116, 39, 115]⟩ : ByteArray)).bind fun bt269 => (if t216 = true then (if t217 = true then (unisonlaw01_awake.j0 k bt247.2.2.2 bt264.2.2.2 bt269.1 bt269.2 true bt247.1 bt247.2.1 bt247.2.2.1 bt264.1 bt264.2.1 bt264.2.2.1) else (if t221 = (-1) then (if (!(t228 == 2) || (!(t229 == 1) || (!(t230.toList == ([] : List UInt8))))) = true then (unisonlaw01_awake.j0 k bt247.2.2.2 bt264.2.2.2 bt269.1 bt269.2 true bt247.1 bt247.2.1 bt247.2.2.1 bt264.1 bt264.2.1 bt264.2.2.1) else (if t231 = 0 then (if (!(bt236.1 == 2) || (!(bt236.2.1 == 0) || (!(bt236.2.2.1.toList == ([] : List UInt8))))) = true then (unisonlaw01_awake.j0 k bt247.2.2.2 bt264.2.2.2 bt269.1 bt269.2 true bt247.1 bt247.2.1 bt247.2.2.1 bt264.1 bt264.2.1 bt264.2.2.1) else (unisonlaw01_awake.j0 k bt247.2.2.2 bt264.2.2.2 bt269.1 bt269.2 (bt236.2.2.2 != 0) bt247.1 bt247.2.1 bt247.2.2.1 bt264.1 bt264.2.1 bt264.2.2.1)) else (unisonlaw01_awake.j0 k bt247.2.2.2 bt264.2.2.2 bt269.1 bt269.2 true bt247.1 bt247.2.1 bt247.2.2.1 bt264.1 bt264.2.1 bt264.2.2.1))) else (unisonlaw01_awake.j0 k bt247.2.2.2 bt264.2.2.2 bt269.1 bt269.2 true bt247.1 bt247.2.1 bt247.2.2.1 bt264.1 bt264.2.1 bt264.2.2.1))) else (unisonlaw01_awake.j0 k bt247.2.2.2 bt264.2.2.2 bt269.1 bt269.2 true bt247.1 bt247.2.1 bt247.2.2.1 bt264.1 bt264.2.1 bt264.2.2.1))))))))))) = some r := H
 have A8 := Aside0.mk A80
 clear A80
 obtain ⟨y233, hy233⟩ : ∃ y_ : List (S23), y_ = (([(⟨2, 0, (⟨#[]⟩ : ByteArray)⟩ : S23), (⟨0, 0, (⟨#[]⟩ : ByteArray)⟩ : S23)] : List (S23))) := ⟨_, rfl⟩
 replace H : ((value_And.f k y233).bind fun bt236 => ((unisonlaw01_number.f (-7)).bind fun bt241 => ((unisonlaw01_number.f 2).bind fun bt244 => ((value_Arith.f k 4 bt241.1 bt241.2.1 bt241.2.2 bt244.1 bt244.2.1 bt244.2.2).bind fun bt247 => ((unisonlaw01_number.f 4611686018427387904).bind fun bt252 => ((unisonlaw01_number.f 1).bind fun bt255 => ((unisonlaw01_number.f (-1)).bind fun bt258 => ((value_Sum.f k (([(⟨bt252.1, bt252.2.1, bt252.2.2⟩ : S23), (⟨bt255.1, bt255.2.1, bt255.2.2⟩ : S23), (⟨bt258.1, bt258.2.1, bt258.2.2⟩ : S23)] : List (S23)))).bind fun bt264 => ((value_Print.f 3 0 (⟨#[105, 116, 39, 115]⟩ : ByteArray)).bind fun bt269 => (if t216 = true then (if t217 = true then (unisonlaw01_awake.j0 k bt247.2.2.2 bt264.2.2.2 bt269.1 bt269.2 true bt247.1 bt247.2.1 bt247.2.2.1 bt264.1 bt264.2.1 bt264.2.2.1) else (if t221 = (-1) then (if (!(t228 == 2) || (!(t229 == 1) || (!(t230.toList == ([] : List UInt8))))) = true then (unisonlaw01_awake.j0 k bt247.2.2.2 bt264.2.2.2 bt269.1 bt269.2 true bt247.1 bt247.2.1 bt247.2.2.1 bt264.1 bt264.2.1 bt264.2.2.1) else (if t231 = 0 then (if (!(bt236.1 == 2) || (!(bt236.2.1 == 0) || (!(bt236.2.2.1.toList == ([] : List UInt8))))) = true then (unisonlaw01_awake.j0 k bt247.2.2.2 bt264.2.2.2 bt269.1 bt269.2 true bt247.1 bt247.2.1 bt247.2.2.1 bt264.1 bt264.2.1 bt264.2.2.1) else (unisonlaw01_awake.j0 k bt247.2.2.2 bt264.2.2.2 bt269.1 bt269.2 (bt236.2.2.2 != 0) bt247.1 bt247.2.1 bt247.2.2.1 bt264.1 bt264.2.1 bt264.2.2.1)) else (unisonlaw01_awake.j0 k bt247.2.2.2 bt264.2.2.2 bt269.1 bt269.2 true bt247.1 bt247.2.1 bt247.2.2.1 bt264.1 bt264.2.1 bt264.2.2.1))) else (unisonlaw01_awake.j0 k bt247.2.2.2 bt264.2.2.2 bt269.1 bt269.2 true bt247.1 bt247.2.1 bt247.2.2.1 bt264.1 bt264.2.1 bt264.2.2.1))) else (unisonlaw01_awake.j0 k bt247.2.2.2 bt264.2.2.2 bt269.1 bt269.2 true bt247.1 bt247.2.1 bt247.2.2.1 bt264.1 bt264.2.1 bt264.2.2.1))))))))))) = some r := by first | (rw [hy233]; with_reducible exact H) | (have H2_ := (Option.bind_some _ _).symm.trans H; rw [hy233]; with_reducible exact H2_) | (have H2_ := (Option.bind_some _ _).symm.trans H; with_reducible exact H2_) | with_reducible exact H | (rw [hy233]; exact H) | exact H
 have Ny233 := Aside0.mk hy233
 clear hy233
 replace H := Option.bind_eq_some_iff.mp H
 obtain ⟨⟨t236, t237, t238, t239⟩, A90, H⟩ := H
 replace H : ((unisonlaw01_number.f (-7)).bind fun bt241 => ((unisonlaw01_number.f 2).bind fun bt244 => ((value_Arith.f k 4 bt241.1 bt241.2.1 bt241.2.2 bt244.1 bt244.2.1 bt244.2.2).bind fun bt247 => ((unisonlaw01_number.f 4611686018427387904).bind fun bt252 => ((unisonlaw01_number.f 1).bind fun bt255 => ((unisonlaw01_number.f (-1)).bind fun bt258 => ((value_Sum.f k (([(⟨bt252.1, bt252.2.1, bt252.2.2⟩ : S23), (⟨bt255.1, bt255.2.1, bt255.2.2⟩ : S23), (⟨bt258.1, bt258.2.1, bt258.2.2⟩ : S23)] : List (S23)))).bind fun bt264 => ((value_Print.f 3 0 (⟨#[105, 116, 39, 115]⟩ : ByteArray)).bind fun bt269 => (if t216 = true then (if t217 = true then (unisonlaw01_awake.j0 k bt247.2.2.2 bt264.2.2.2 bt269.1 bt269.2 true bt247.1 bt247.2.1 bt247.2.2.1 bt264.1 bt264.2.1 bt264.2.2.1) else (if t221 = (-1) then (if (!(t228 == 2) || (!(t229 == 1) || (!(t230.toList == ([] : List UInt8))))) = true then (unisonlaw01_awake.j0 k bt247.2.2.2 bt264.2.2.2 bt269.1 bt269.2 true bt247.1 bt247.2.1 bt247.2.2.1 bt264.1 bt264.2.1 bt264.2.2.1) else (if t231 = 0 then (if (!(t236 == 2) || (!(t237 == 0) || (!(t238.toList == ([] : List UInt8))))) = true then (unisonlaw01_awake.j0 k bt247.2.2.2 bt264.2.2.2 bt269.1 bt269.2 true bt247.1 bt247.2.1 bt247.2.2.1 bt264.1 bt264.2.1 bt264.2.2.1) else (unisonlaw01_awake.j0 k bt247.2.2.2 bt264.2.2.2 bt269.1 bt269.2 (t239 != 0) bt247.1 bt247.2.1 bt247.2.2.1 bt264.1 bt264.2.1 bt264.2.2.1)) else (unisonlaw01_awake.j0 k bt247.2.2.2 bt264.2.2.2 bt269.1 bt269.2 true bt247.1 bt247.2.1 bt247.2.2.1 bt264.1 bt264.2.1 bt264.2.2.1))) else (unisonlaw01_awake.j0 k bt247.2.2.2 bt264.2.2.2 bt269.1 bt269.2 true bt247.1 bt247.2.1 bt247.2.2.1 bt264.1 bt264.2.1 bt264.2.2.1))) else (unisonlaw01_awake.j0 k bt247.2.2.2 bt264.2.2.2 bt269.1 bt269.2 true bt247.1 bt247.2.1 bt247.2.2.1 bt264.1 bt264.2.1 bt264.2.2.1)))))))))) = some r := H
 have A9 := Aside0.mk A90
 clear A90
 replace H := Option.bind_eq_some_iff.mp H
 obtain ⟨⟨t241, t242, t243⟩, A100, H⟩ := H
 replace H : ((unisonlaw01_number.f 2).bind fun bt244 => ((value_Arith.f k 4 t241 t242 t243 bt244.1 bt244.2.1 bt244.2.2).bind fun bt247 => ((unisonlaw01_number.f 4611686018427387904).bind fun bt252 => ((unisonlaw01_number.f 1).bind fun bt255 => ((unisonlaw01_number.f (-1)).bind fun bt258 => ((value_Sum.f k (([(⟨bt252.1, bt252.2.1, bt252.2.2⟩ : S23), (⟨bt255.1, bt255.2.1, bt255.2.2⟩ : S23), (⟨bt258.1, bt258.2.1, bt258.2.2⟩ : S23)] : List (S23)))).bind fun bt264 => ((value_Print.f 3 0 (⟨#[105, 116, 39, 115]⟩ : ByteArray)).bind fun bt269 => (if t216 = true then (if t217 = true then (unisonlaw01_awake.j0 k bt247.2.2.2 bt264.2.2.2 bt269.1 bt269.2 true bt247.1 bt247.2.1 bt247.2.2.1 bt264.1 bt264.2.1 bt264.2.2.1) else (if t221 = (-1) then (if (!(t228 == 2) || (!(t229 == 1) || (!(t230.toList == ([] : List UInt8))))) = true then (unisonlaw01_awake.j0 k bt247.2.2.2 bt264.2.2.2 bt269.1 bt269.2 true bt247.1 bt247.2.1 bt247.2.2.1 bt264.1 bt264.2.1 bt264.2.2.1) else (if t231 = 0 then (if (!(t236 == 2) || (!(t237 == 0) || (!(t238.toList == ([] : List UInt8))))) = true then (unisonlaw01_awake.j0 k bt247.2.2.2 bt264.2.2.2 bt269.1 bt269.2 true bt247.1 bt247.2.1 bt247.2.2.1 bt264.1 bt264.2.1 bt264.2.2.1) else (unisonlaw01_awake.j0 k bt247.2.2.2 bt264.2.2.2 bt269.1 bt269.2 (t239 != 0) bt247.1 bt247.2.1 bt247.2.2.1 bt264.1 bt264.2.1 bt264.2.2.1)) else (unisonlaw01_awake.j0 k bt247.2.2.2 bt264.2.2.2 bt269.1 bt269.2 true bt247.1 bt247.2.1 bt247.2.2.1 bt264.1 bt264.2.1 bt264.2.2.1))) else (unisonlaw01_awake.j0 k bt247.2.2.2 bt264.2.2.2 bt269.1 bt269.2 true bt247.1 bt247.2.1 bt247.2.2.1 bt264.1 bt264.2.1 bt264.2.2.1))) else (unisonlaw01_awake.j0 k bt247.2.2.2 bt264.2.2.2 bt269.1 bt269.2 true bt247.1 bt247.2.1 bt247.2.2.1 bt264.1 bt264.2.1 bt264.2.2.1))))))))) = some r := H
 have A10 := Aside0.mk A100
 clear A100
 replace H := Option.bind_eq_some_iff.mp H
 obtain ⟨⟨t244, t245, t246⟩, A110, H⟩ := H
 replace H : ((value_Arith.f k 4 t241 t242 t243 t244 t245 t246).bind fun bt247 => ((unisonlaw01_number.f 4611686018427387904).bind fun bt252 => ((unisonlaw01_number.f 1).bind fun bt255 => ((unisonlaw01_number.f (-1)).bind fun bt258 => ((value_Sum.f k (([(⟨bt252.1, bt252.2.1, bt252.2.2⟩ : S23), (⟨bt255.1, bt255.2.1, bt255.2.2⟩ : S23), (⟨bt258.1, bt258.2.1, bt258.2.2⟩ : S23)] : List (S23)))).bind fun bt264 => ((value_Print.f 3 0 (⟨#[105, 116, 39, 115]⟩ : ByteArray)).bind fun bt269 => (if t216 = true then (if t217 = true then (unisonlaw01_awake.j0 k bt247.2.2.2 bt264.2.2.2 bt269.1 bt269.2 true bt247.1 bt247.2.1 bt247.2.2.1 bt264.1 bt264.2.1 bt264.2.2.1) else (if t221 = (-1) then (if (!(t228 == 2) || (!(t229 == 1) || (!(t230.toList == ([] : List UInt8))))) = true then (unisonlaw01_awake.j0 k bt247.2.2.2 bt264.2.2.2 bt269.1 bt269.2 true bt247.1 bt247.2.1 bt247.2.2.1 bt264.1 bt264.2.1 bt264.2.2.1) else (if t231 = 0 then (if (!(t236 == 2) || (!(t237 == 0) || (!(t238.toList == ([] : List UInt8))))) = true then (unisonlaw01_awake.j0 k bt247.2.2.2 bt264.2.2.2 bt269.1 bt269.2 true bt247.1 bt247.2.1 bt247.2.2.1 bt264.1 bt264.2.1 bt264.2.2.1) else (unisonlaw01_awake.j0 k bt247.2.2.2 bt264.2.2.2 bt269.1 bt269.2 (t239 != 0) bt247.1 bt247.2.1 bt247.2.2.1 bt264.1 bt264.2.1 bt264.2.2.1)) else (unisonlaw01_awake.j0 k bt247.2.2.2 bt264.2.2.2 bt269.1 bt269.2 true bt247.1 bt247.2.1 bt247.2.2.1 bt264.1 bt264.2.1 bt264.2.2.1))) else (unisonlaw01_awake.j0 k bt247.2.2.2 bt264.2.2.2 bt269.1 bt269.2 true bt247.1 bt247.2.1 bt247.2.2.1 bt264.1 bt264.2.1 bt264.2.2.1))) else (unisonlaw01_awake.j0 k bt247.2.2.2 bt264.2.2.2 bt269.1 bt269.2 true bt247.1 bt247.2.1 bt247.2.2.1 bt264.1 bt264.2.1 bt264.2.2.1)))))))) = some r := H
 have A11 := Aside0.mk A110
 clear A110
 replace H := Option.bind_eq_some_iff.mp H
 obtain ⟨⟨t247, t248, t249, t250⟩, A120, H⟩ := H
 replace H : ((unisonlaw01_number.f 4611686018427387904).bind fun bt252 => ((unisonlaw01_number.f 1).bind fun bt255 => ((unisonlaw01_number.f (-1)).bind fun bt258 => ((value_Sum.f k (([(⟨bt252.1, bt252.2.1, bt252.2.2⟩ : S23), (⟨bt255.1, bt255.2.1, bt255.2.2⟩ : S23), (⟨bt258.1, bt258.2.1, bt258.2.2⟩ : S23)] : List (S23)))).bind fun bt264 => ((value_Print.f 3 0 (⟨#[105, 116, 39, 115]⟩ : ByteArray)).bind fun bt269 => (if t216 = true then (if t217 = true then (unisonlaw01_awake.j0 k t250 bt264.2.2.2 bt269.1 bt269.2 true t247 t248 t249 bt264.1 bt264.2.1 bt264.2.2.1) else (if t221 = (-1) then (if (!(t228 == 2) || (!(t229 == 1) || (!(t230.toList == ([] : List UInt8))))) = true then (unisonlaw01_awake.j0 k t250 bt264.2.2.2 bt269.1 bt269.2 true t247 t248 t249 bt264.1 bt264.2.1 bt264.2.2.1) else (if t231 = 0 then (if (!(t236 == 2) || (!(t237 == 0) || (!(t238.toList == ([] : List UInt8))))) = true then (unisonlaw01_awake.j0 k t250 bt264.2.2.2 bt269.1 bt269.2 true t247 t248 t249 bt264.1 bt264.2.1 bt264.2.2.1) else (unisonlaw01_awake.j0 k t250 bt264.2.2.2 bt269.1 bt269.2 (t239 != 0) t247 t248 t249 bt264.1 bt264.2.1 bt264.2.2.1)) else (unisonlaw01_awake.j0 k t250 bt264.2.2.2 bt269.1 bt269.2 true t247 t248 t249 bt264.1 bt264.2.1 bt264.2.2.1))) else (unisonlaw01_awake.j0 k t250 bt264.2.2.2 bt269.1 bt269.2 true t247 t248 t249 bt264.1 bt264.2.1 bt264.2.2.1))) else (unisonlaw01_awake.j0 k t250 bt264.2.2.2 bt269.1 bt269.2 true t247 t248 t249 bt264.1 bt264.2.1 bt264.2.2.1))))))) = some r := H
 have A12 := Aside0.mk A120
 clear A120
 replace H := Option.bind_eq_some_iff.mp H
 obtain ⟨⟨t252, t253, t254⟩, A130, H⟩ := H
 replace H : ((unisonlaw01_number.f 1).bind fun bt255 => ((unisonlaw01_number.f (-1)).bind fun bt258 => ((value_Sum.f k (([(⟨t252, t253, t254⟩ : S23), (⟨bt255.1, bt255.2.1, bt255.2.2⟩ : S23), (⟨bt258.1, bt258.2.1, bt258.2.2⟩ : S23)] : List (S23)))).bind fun bt264 => ((value_Print.f 3 0 (⟨#[105, 116, 39, 115]⟩ : ByteArray)).bind fun bt269 => (if t216 = true then (if t217 = true then (unisonlaw01_awake.j0 k t250 bt264.2.2.2 bt269.1 bt269.2 true t247 t248 t249 bt264.1 bt264.2.1 bt264.2.2.1) else (if t221 = (-1) then (if (!(t228 == 2) || (!(t229 == 1) || (!(t230.toList == ([] : List UInt8))))) = true then (unisonlaw01_awake.j0 k t250 bt264.2.2.2 bt269.1 bt269.2 true t247 t248 t249 bt264.1 bt264.2.1 bt264.2.2.1) else (if t231 = 0 then (if (!(t236 == 2) || (!(t237 == 0) || (!(t238.toList == ([] : List UInt8))))) = true then (unisonlaw01_awake.j0 k t250 bt264.2.2.2 bt269.1 bt269.2 true t247 t248 t249 bt264.1 bt264.2.1 bt264.2.2.1) else (unisonlaw01_awake.j0 k t250 bt264.2.2.2 bt269.1 bt269.2 (t239 != 0) t247 t248 t249 bt264.1 bt264.2.1 bt264.2.2.1)) else (unisonlaw01_awake.j0 k t250 bt264.2.2.2 bt269.1 bt269.2 true t247 t248 t249 bt264.1 bt264.2.1 bt264.2.2.1))) else (unisonlaw01_awake.j0 k t250 bt264.2.2.2 bt269.1 bt269.2 true t247 t248 t249 bt264.1 bt264.2.1 bt264.2.2.1))) else (unisonlaw01_awake.j0 k t250 bt264.2.2.2 bt269.1 bt269.2 true t247 t248 t249 bt264.1 bt264.2.1 bt264.2.2.1)))))) = some r := H
 have A13 := Aside0.mk A130
 clear A130
 replace H := Option.bind_eq_some_iff.mp H
 obtain ⟨⟨t255, t256, t257⟩, A140, H⟩ := H
 replace H : ((unisonlaw01_number.f (-1)).bind fun bt258 => ((value_Sum.f k (([(⟨t252, t253, t254⟩ : S23), (⟨t255, t256, t257⟩ : S23), (⟨bt258.1, bt258.2.1, bt258.2.2⟩ : S23)] : List (S23)))).bind fun bt264 => ((value_Print.f 3 0 (⟨#[105, 116, 39, 115]⟩ : ByteArray)).bind fun bt269 => (if t216 = true then (if t217 = true then (unisonlaw01_awake.j0 k t250 bt264.2.2.2 bt269.1 bt269.2 true t247 t248 t249 bt264.1 bt264.2.1 bt264.2.2.1) else (if t221 = (-1) then (if (!(t228 == 2) || (!(t229 == 1) || (!(t230.toList == ([] : List UInt8))))) = true then (unisonlaw01_awake.j0 k t250 bt264.2.2.2 bt269.1 bt269.2 true t247 t248 t249 bt264.1 bt264.2.1 bt264.2.2.1) else (if t231 = 0 then (if (!(t236 == 2) || (!(t237 == 0) || (!(t238.toList == ([] : List UInt8))))) = true then (unisonlaw01_awake.j0 k t250 bt264.2.2.2 bt269.1 bt269.2 true t247 t248 t249 bt264.1 bt264.2.1 bt264.2.2.1) else (unisonlaw01_awake.j0 k t250 bt264.2.2.2 bt269.1 bt269.2 (t239 != 0) t247 t248 t249 bt264.1 bt264.2.1 bt264.2.2.1)) else (unisonlaw01_awake.j0 k t250 bt264.2.2.2 bt269.1 bt269.2 true t247 t248 t249 bt264.1 bt264.2.1 bt264.2.2.1))) else (unisonlaw01_awake.j0 k t250 bt264.2.2.2 bt269.1 bt269.2 true t247 t248 t249 bt264.1 bt264.2.1 bt264.2.2.1))) else (unisonlaw01_awake.j0 k t250 bt264.2.2.2 bt269.1 bt269.2 true t247 t248 t249 bt264.1 bt264.2.1 bt264.2.2.1))))) = some r := H
 have A14 := Aside0.mk A140
 clear A140
 replace H := Option.bind_eq_some_iff.mp H
 obtain ⟨⟨t258, t259, t260⟩, A150, H⟩ := H
 replace H : ((value_Sum.f k (([(⟨t252, t253, t254⟩ : S23), (⟨t255, t256, t257⟩ : S23), (⟨t258, t259, t260⟩ : S23)] : List (S23)))).bind fun bt264 => ((value_Print.f 3 0 (⟨#[105, 116, 39, 115]⟩ : ByteArray)).bind fun bt269 => (if t216 = true then (if t217 = true then (unisonlaw01_awake.j0 k t250 bt264.2.2.2 bt269.1 bt269.2 true t247 t248 t249 bt264.1 bt264.2.1 bt264.2.2.1) else (if t221 = (-1) then (if (!(t228 == 2) || (!(t229 == 1) || (!(t230.toList == ([] : List UInt8))))) = true then (unisonlaw01_awake.j0 k t250 bt264.2.2.2 bt269.1 bt269.2 true t247 t248 t249 bt264.1 bt264.2.1 bt264.2.2.1) else (if t231 = 0 then (if (!(t236 == 2) || (!(t237 == 0) || (!(t238.toList == ([] : List UInt8))))) = true then (unisonlaw01_awake.j0 k t250 bt264.2.2.2 bt269.1 bt269.2 true t247 t248 t249 bt264.1 bt264.2.1 bt264.2.2.1) else (unisonlaw01_awake.j0 k t250 bt264.2.2.2 bt269.1 bt269.2 (t239 != 0) t247 t248 t249 bt264.1 bt264.2.1 bt264.2.2.1)) else (unisonlaw01_awake.j0 k t250 bt264.2.2.2 bt269.1 bt269.2 true t247 t248 t249 bt264.1 bt264.2.1 bt264.2.2.1))) else (unisonlaw01_awake.j0 k t250 bt264.2.2.2 bt269.1 bt269.2 true t247 t248 t249 bt264.1 bt264.2.1 bt264.2.2.1))) else (unisonlaw01_awake.j0 k t250 bt264.2.2.2 bt269.1 bt269.2 true t247 t248 t249 bt264.1 bt264.2.1 bt264.2.2.1)))) = some r := H
 have A15 := Aside0.mk A150
 clear A150
 obtain ⟨y261, hy261⟩ : ∃ y_ : List (S23), y_ = (([(⟨t252, t253, t254⟩ : S23), (⟨t255, t256, t257⟩ : S23), (⟨t258, t259, t260⟩ : S23)] : List (S23))) := ⟨_, rfl⟩
 replace H : ((value_Sum.f k y261).bind fun bt264 => ((value_Print.f 3 0 (⟨#[105, 116, 39, 115]⟩ : ByteArray)).bind fun bt269 => (if t216 = true then (if t217 = true then (unisonlaw01_awake.j0 k t250 bt264.2.2.2 bt269.1 bt269.2 true t247 t248 t249 bt264.1 bt264.2.1 bt264.2.2.1) else (if t221 = (-1) then (if (!(t228 == 2) || (!(t229 == 1) || (!(t230.toList == ([] : List UInt8))))) = true then (unisonlaw01_awake.j0 k t250 bt264.2.2.2 bt269.1 bt269.2 true t247 t248 t249 bt264.1 bt264.2.1 bt264.2.2.1) else (if t231 = 0 then (if (!(t236 == 2) || (!(t237 == 0) || (!(t238.toList == ([] : List UInt8))))) = true then (unisonlaw01_awake.j0 k t250 bt264.2.2.2 bt269.1 bt269.2 true t247 t248 t249 bt264.1 bt264.2.1 bt264.2.2.1) else (unisonlaw01_awake.j0 k t250 bt264.2.2.2 bt269.1 bt269.2 (t239 != 0) t247 t248 t249 bt264.1 bt264.2.1 bt264.2.2.1)) else (unisonlaw01_awake.j0 k t250 bt264.2.2.2 bt269.1 bt269.2 true t247 t248 t249 bt264.1 bt264.2.1 bt264.2.2.1))) else (unisonlaw01_awake.j0 k t250 bt264.2.2.2 bt269.1 bt269.2 true t247 t248 t249 bt264.1 bt264.2.1 bt264.2.2.1))) else (unisonlaw01_awake.j0 k t250 bt264.2.2.2 bt269.1 bt269.2 true t247 t248 t249 bt264.1 bt264.2.1 bt264.2.2.1)))) = some r := by first | (rw [hy261]; with_reducible exact H) | (have H2_ := (Option.bind_some _ _).symm.trans H; rw [hy261]; with_reducible exact H2_) | (have H2_ := (Option.bind_some _ _).symm.trans H; with_reducible exact H2_) | with_reducible exact H | (rw [hy261]; exact H) | exact H
 have Ny261 := Aside0.mk hy261
 clear hy261
 replace H := Option.bind_eq_some_iff.mp H
 obtain ⟨⟨t264, t265, t266, t267⟩, A160, H⟩ := H
 replace H : ((value_Print.f 3 0 (⟨#[105, 116, 39, 115]⟩ : ByteArray)).bind fun bt269 => (if t216 = true then (if t217 = true then (unisonlaw01_awake.j0 k t250 t267 bt269.1 bt269.2 true t247 t248 t249 t264 t265 t266) else (if t221 = (-1) then (if (!(t228 == 2) || (!(t229 == 1) || (!(t230.toList == ([] : List UInt8))))) = true then (unisonlaw01_awake.j0 k t250 t267 bt269.1 bt269.2 true t247 t248 t249 t264 t265 t266) else (if t231 = 0 then (if (!(t236 == 2) || (!(t237 == 0) || (!(t238.toList == ([] : List UInt8))))) = true then (unisonlaw01_awake.j0 k t250 t267 bt269.1 bt269.2 true t247 t248 t249 t264 t265 t266) else (unisonlaw01_awake.j0 k t250 t267 bt269.1 bt269.2 (t239 != 0) t247 t248 t249 t264 t265 t266)) else (unisonlaw01_awake.j0 k t250 t267 bt269.1 bt269.2 true t247 t248 t249 t264 t265 t266))) else (unisonlaw01_awake.j0 k t250 t267 bt269.1 bt269.2 true t247 t248 t249 t264 t265 t266))) else (unisonlaw01_awake.j0 k t250 t267 bt269.1 bt269.2 true t247 t248 t249 t264 t265 t266))) = some r := H
 have A16 := Aside0.mk A160
 clear A160
 replace H := Option.bind_eq_some_iff.mp H
 obtain ⟨⟨t269, t270⟩, A170, H⟩ := H
 replace H : (if t216 = true then (if t217 = true then (unisonlaw01_awake.j0 k t250 t267 t269 t270 true t247 t248 t249 t264 t265 t266) else (if t221 = (-1) then (if (!(t228 == 2) || (!(t229 == 1) || (!(t230.toList == ([] : List UInt8))))) = true then (unisonlaw01_awake.j0 k t250 t267 t269 t270 true t247 t248 t249 t264 t265 t266) else (if t231 = 0 then (if (!(t236 == 2) || (!(t237 == 0) || (!(t238.toList == ([] : List UInt8))))) = true then (unisonlaw01_awake.j0 k t250 t267 t269 t270 true t247 t248 t249 t264 t265 t266) else (unisonlaw01_awake.j0 k t250 t267 t269 t270 (t239 != 0) t247 t248 t249 t264 t265 t266)) else (unisonlaw01_awake.j0 k t250 t267 t269 t270 true t247 t248 t249 t264 t265 t266))) else (unisonlaw01_awake.j0 k t250 t267 t269 t270 true t247 t248 t249 t264 t265 t266))) else (unisonlaw01_awake.j0 k t250 t267 t269 t270 true t247 t248 t249 t264 t265 t266)) = some r := H
 have A17 := Aside0.mk A170
 clear A170
 have HC18 := Aside0.mk H
 clear H
 go_enter Tryd.func12, Tryd.ntmps12
 go_upto_region 9 with (first | ((with_reducible refine gate_callee (f := 38) rfl ?_); refine goesL_ (some 14) rfl rfl Tryd.func38 (by kernel_rfl) rfl #[.int .i64 4611686018427387904] rfl (by (try simp only [List.map_toArray, List.map_cons, List.map_nil]); first | done | rfl | (simp only [List.length_drop, List.length_take]; rfl)) ?_; (with_reducible refine (unisonlaw01_number.calls 4611686018427387904 t213 t214 t215 _ A1.out).mono ?_); rintro e w19 ⟨rfl, hb⟩; refine ⟨_, rfl, ?_⟩; have n0_ := Aside0.mk (below_step (by repeat (first | (with_reducible first | exact HB.out | apply pA | apply pN | apply pD) | exact HB.out)) hb); clear HB; have HB := n0_; clear n0_; (try clear hb); (try clear hb2); (try clear hk); (try clear hi)) | ((with_reducible refine gate_callee (f := 13) rfl ?_); refine goesL_ (some 15) rfl rfl Tryd.func13 (by kernel_rfl) rfl #[.agg #[.int .i64 t213, .int .i64 t214, .string t215]] rfl (by (try simp only [List.map_toArray, List.map_cons, List.map_nil]); first | done | rfl | (simp only [List.length_drop, List.length_take]; rfl)) ?_; (with_reducible refine (value_Right.calls t213 t214 t215 t216 _ A2.out).mono ?_); rintro e w20 ⟨rfl, hb⟩; refine ⟨_, rfl, ?_⟩; have n0_ := Aside0.mk (below_step (by repeat (first | (with_reducible first | exact HB.out | apply pA | apply pN | apply pD) | exact HB.out)) hb); clear HB; have HB := n0_; clear n0_; (try clear hb); (try clear hb2); (try clear hk); (try clear hi)) | ((with_reducible refine gate_callee (f := 13) rfl ?_); refine goesL_ (some 17) rfl rfl Tryd.func13 (by kernel_rfl) rfl #[.agg #[.int .i64 2, .int .i64 2, .string (⟨#[]⟩ : ByteArray)]] rfl (by (try simp only [List.map_toArray, List.map_cons, List.map_nil]); first | done | rfl | (simp only [List.length_drop, List.length_take]; rfl)) ?_; (with_reducible refine (value_Right.calls 2 2 (⟨#[]⟩ : ByteArray) t217 _ A3.out).mono ?_); rintro e w21 ⟨rfl, hb⟩; refine ⟨_, rfl, ?_⟩; have n0_ := Aside0.mk (below_step (by repeat (first | (with_reducible first | exact HB.out | apply pA | apply pN | apply pD) | exact HB.out)) hb); clear HB; have HB := n0_; clear n0_; (try clear hb); (try clear hb2); (try clear hk); (try clear hi)) | ((with_reducible refine gate_callee (f := 38) rfl ?_); refine goesL_ (some 18) rfl rfl Tryd.func38 (by kernel_rfl) rfl #[.int .i64 3] rfl (by (try simp only [List.map_toArray, List.map_cons, List.map_nil]); first | done | rfl | (simp only [List.length_drop, List.length_take]; rfl)) ?_; (with_reducible refine (unisonlaw01_number.calls 3 t218 t219 t220 _ A4.out).mono ?_); rintro e w22 ⟨rfl, hb⟩; refine ⟨_, rfl, ?_⟩; have n0_ := Aside0.mk (below_step (by repeat (first | (with_reducible first | exact HB.out | apply pA | apply pN | apply pD) | exact HB.out)) hb); clear HB; have HB := n0_; clear n0_; (try clear hb); (try clear hb2); (try clear hk); (try clear hi)) | ((with_reducible refine gate_callee (f := 15) rfl ?_); refine goesL_ (some 20) rfl rfl Tryd.func15 (by kernel_rfl) rfl #[.agg #[.int .i64 t218, .int .i64 t219, .string t220], .agg #[.int .i64 2, .int .i64 0, .string (⟨#[]⟩ : ByteArray)]] rfl (by (try simp only [List.map_toArray, List.map_cons, List.map_nil]); first | done | rfl | (simp only [List.length_drop, List.length_take]; rfl)) ?_; (with_reducible refine (value_Order.calls k t218 t219 t220 2 0 (⟨#[]⟩ : ByteArray) t221 _ A5.out).mono ?_); rintro e w23 ⟨rfl, hb⟩; refine ⟨_, rfl, ?_⟩; have n0_ := Aside0.mk (below_step (by repeat (first | (with_reducible first | exact HB.out | apply pA | apply pN | apply pD) | exact HB.out)) hb); clear HB; have HB := n0_; clear n0_; (try clear hb); (try clear hb2); (try clear hk); (try clear hi)) | ((with_reducible refine gate_callee (f := 38) rfl ?_); refine goesL_ (some 22) rfl rfl Tryd.func38 (by kernel_rfl) rfl #[.int .i64 3] rfl (by (try simp only [List.map_toArray, List.map_cons, List.map_nil]); first | done | rfl | (simp only [List.length_drop, List.length_take]; rfl)) ?_; (with_reducible refine (unisonlaw01_number.calls 3 t222 t223 t224 _ A6.out).mono ?_); rintro e w24 ⟨rfl, hb⟩; refine ⟨_, rfl, ?_⟩; have n0_ := Aside0.mk (below_step (by repeat (first | (with_reducible first | exact HB.out | apply pA | apply pN | apply pD) | exact HB.out)) hb); clear HB; have HB := n0_; clear n0_; (try clear hb); (try clear hb2); (try clear hk); (try clear hi)) | ((with_reducible refine gate_callee (f := 38) rfl ?_); refine goesL_ (some 23) rfl rfl Tryd.func38 (by kernel_rfl) rfl #[.int .i64 5] rfl (by (try simp only [List.map_toArray, List.map_cons, List.map_nil]); first | done | rfl | (simp only [List.length_drop, List.length_take]; rfl)) ?_; (with_reducible refine (unisonlaw01_number.calls 5 t225 t226 t227 _ A7.out).mono ?_); rintro e w25 ⟨rfl, hb⟩; refine ⟨_, rfl, ?_⟩; have n0_ := Aside0.mk (below_step (by repeat (first | (with_reducible first | exact HB.out | apply pA | apply pN | apply pD) | exact HB.out)) hb); clear HB; have HB := n0_; clear n0_; (try clear hb); (try clear hb2); (try clear hk); (try clear hi)) | ((with_reducible refine gate_callee (f := 17) rfl ?_); refine goesL_ (some 24) rfl rfl Tryd.func17 (by kernel_rfl) rfl #[.int .i64 3, .agg #[.int .i64 t222, .int .i64 t223, .string t224], .agg #[.int .i64 t225, .int .i64 t226, .string t227]] rfl (by (try simp only [List.map_toArray, List.map_cons, List.map_nil]); first | done | rfl | (simp only [List.length_drop, List.length_take]; rfl)) ?_; (with_reducible refine (value_Compare.calls k 3 t222 t223 t224 t225 t226 t227 t228 t229 t230 t231 _ A8.out).mono ?_); rintro e w26 ⟨rfl, hb⟩; refine ⟨_, rfl, ?_⟩; have n0_ := Aside0.mk (below_step (by repeat (first | (with_reducible first | exact HB.out | apply pA | apply pN | apply pD) | exact HB.out)) hb); clear HB; have HB := n0_; clear n0_; (try clear hb); (try clear hb2); (try clear hk); (try clear hi)) | ((with_reducible refine gate_dst (N := 4) rfl ?_); refine box_event ?hg (N := 4) ?hd (cs := #[.int .i64 0, .int .i64 0, .string (⟨#[]⟩ : ByteArray)]) (t := 23) ?hr ?_; (case hd => rfl); (case hg => rfl); (case hr => first | (go_simp; done) | (go_simp; rfl)); intro gb232 hg w27 hbox hb; have n0_ := Aside0.mk (below_step (by repeat (first | (with_reducible first | exact HB.out | apply pA | apply pN | apply pD) | exact HB.out)) hb); have n1_ := Aside0.mk (hbox); have n2_ := Aside0.mk ((by rw [hg]; exact (below_size (by repeat (first | (with_reducible first | exact HB.out | apply pA | apply pN | apply pD) | exact HB.out))) : w.heap.size ≤ gb232)); have n3_ := Aside0.mk ((by rw [hg]; exact (below_size (by repeat (first | (with_reducible first | exact HB.out | apply pA | apply pN | apply pD) | exact HB.out))) : w.heap.size ≤ gb232)); clear HB; have HB := n0_; have BK232 := n1_; have GW232 := n2_; have GE232 := n3_; clear n0_ n1_ n2_ n3_; clear hb hbox hg; have hcz28_0 : w27.cell? ⟨gb232, 0, none⟩ = some (.int .i64 0) := (blk_cell BK232.out 0).trans rfl; have hcz28_1 : w27.cell? ⟨gb232, 1, none⟩ = some (.int .i64 0) := (blk_cell BK232.out 1).trans rfl; have hcz28_2 : w27.cell? ⟨gb232, 2, none⟩ = some (.string (⟨#[]⟩ : ByteArray)) := (blk_cell BK232.out 2).trans rfl; have hfz28_0 := blk_frozen BK232.out 0; have hfz28_1 := blk_frozen BK232.out 1; have hfz28_2 := blk_frozen BK232.out 2) | ((with_reducible refine gate_store (t := 23) (p := 4) rfl ?_); refine store_event (t := 23) (p := 4) (v := ?vo_w29) (w1 := (((w27.setCell ⟨gb232, 0, none⟩ (.int .i64 t228)).setCell ⟨gb232, 1, none⟩ (.int .i64 t229)).setCell ⟨gb232, 2, none⟩ (.string t230))) ?hg ?ho ?hn ?hr ?_; (case ho => rfl); (case hg => rfl); (case hn => rfl); (case hr => first | (go_simp; done) | (go_simp; rfl)); intro w29 hw; have n0_ : Aside0 (w29.heap[gb232]? = some (.cells #[.int .i64 t228, .int .i64 t229, .string t230] 23 (0, 0))) := ⟨(by rw [hw]; exact (by (with_reducible repeat first | apply bN | apply bD | apply bA); refine blk_put (cs := #[.int .i64 t228, .int .i64 t229, .string (⟨#[]⟩ : ByteArray)]) ?_ 2 _ rfl; (with_reducible repeat first | apply bN | apply bD | apply bA); refine blk_put (cs := #[.int .i64 t228, .int .i64 0, .string (⟨#[]⟩ : ByteArray)]) ?_ 1 _ rfl; (with_reducible repeat first | apply bN | apply bD | apply bA); refine blk_put (cs := #[.int .i64 0, .int .i64 0, .string (⟨#[]⟩ : ByteArray)]) ?_ 0 _ rfl; (with_reducible repeat first | apply bN | apply bD | apply bA); exact BK232.out))⟩; have n1_ : Aside0 (Below w.heap.size w w29) := ⟨(by rw [hw]; exact (by repeat (first | (with_reducible first | exact HB.out | apply pA | apply pN | apply pD | refine pS ?_ GE232.out) | exact HB.out)))⟩; clear hw; clear BK232; clear HB; have BK232 := n0_; have HB := n1_; clear n0_ n1_) | ((with_reducible refine gate_dst (N := 30) rfl ?_); refine Kd.R_lit k23 _ 23 ?hg (N := 30) ?hd (xs := ([(⟨2, 0, (⟨#[]⟩ : ByteArray)⟩ : S23), (⟨0, 0, (⟨#[]⟩ : ByteArray)⟩ : S23)] : List (S23))) (inner := [.int .i64 2, .int .i64 0, .string (⟨#[]⟩ : ByteArray), .int .i64 0, .int .i64 0, .string (⟨#[]⟩ : ByteArray)]) (ok := fun _ => True) (okp := fun _ => True) ?hr ?hp (fun _ hk => hk) trivial (Below.refl _ _) (Nat.le_refl _) (by simp) ?_; (case hd => rfl); (case hg => rfl); (case hr => first | (go_simp; done) | (go_simp; rfl)); (case hp => exact (Reps.c3 (show Kd.M k23 _ _ _ (⟨2, 0, (⟨#[]⟩ : ByteArray)⟩ : S23) [.int .i64 2, .int .i64 0, .string (⟨#[]⟩ : ByteArray)] from (k23_mkM _ _ _ (⟨2, 0, (⟨#[]⟩ : ByteArray)⟩ : S23) )) (Reps.c3 (show Kd.M k23 _ _ _ (⟨0, 0, (⟨#[]⟩ : ByteArray)⟩ : S23) [.int .i64 0, .int .i64 0, .string (⟨#[]⟩ : ByteArray)] from (k23_mkM _ _ _ (⟨0, 0, (⟨#[]⟩ : ByteArray)⟩ : S23) )) (Reps.none _ _)))); intro v234 w30 ho31 hb hg_ hnew_; clear hg_ hnew_; (first | rw [← Ny233.out] at ho31 | (simp only [Int.reduceToNat] at ho31; rw [← Ny233.out] at ho31)); have n0_ := Aside0.mk (Kd.R_lower (Kd.R_newB ho31 (g := gb232) (o := .cells #[.int .i64 t228, .int .i64 t229, .string t230] 23 (0, 0)) (by (with_reducible repeat first | apply bN | apply bD | apply bA); exact BK232.out)) (below_size (by repeat (first | (with_reducible first | exact HB.out | apply pA | apply pN | apply pD | refine pS ?_ GE232.out) | exact HB.out)))); have n1_ := Aside0.mk (blk_below (g := gb232) (o := .cells #[.int .i64 t228, .int .i64 t229, .string t230] 23 (0, 0)) (by (with_reducible repeat first | apply bN | apply bD | apply bA); exact BK232.out) hb); have n2_ := Aside0.mk (below_step (by repeat (first | (with_reducible first | exact HB.out | apply pA | apply pN | apply pD | refine pS ?_ GE232.out) | exact HB.out)) hb); clear BK232; clear HB; have HO235 := n0_; have BK232 := n1_; have HB := n2_; clear n0_ n1_ n2_; clear hb ho31; obtain ⟨Ao32, co32, eo32⟩ := Kd.R_slice HO235.out; subst eo32) | ((with_reducible refine gate_callee (f := 28) rfl ?_); refine goesL_ (some 31) rfl rfl Tryd.func28 (by kernel_rfl) rfl #[.slice Ao32 y233.length co32] rfl (by (try simp only [List.map_toArray, List.map_cons, List.map_nil]); first | done | rfl | (simp only [List.length_drop, List.length_take]; rfl)) ?_; (with_reducible refine (value_And.calls k _ _ y233 t236 t237 t238 t239 _ ?side1 ?side2 A9.out).mono ?_); (case side1 => repeat (first | exact (Kd.R_reads' HO235.out).2.2 | (with_reducible refine Kd.C_alloc ?_ _) | (with_reducible refine Kd.C_drewN ?_ _) | (with_reducible refine Kd.C_drew ?_))); (case side2 => exact (Kd.R_reads' HO235.out).2.1); rintro e w33 ⟨rfl, hb⟩; refine ⟨_, rfl, ?_⟩; have n0_ := Aside0.mk (Kd.R_below (by (with_reducible repeat (first | apply Kd.R_alloc | apply Kd.R_drewN | apply Kd.R_drew)); exact HO235.out) hb); have n1_ := Aside0.mk (blk_below (g := gb232) (o := .cells #[.int .i64 t228, .int .i64 t229, .string t230] 23 (0, 0)) (by (with_reducible repeat first | apply bN | apply bD | apply bA); exact BK232.out) hb); have n2_ := Aside0.mk (below_step (by repeat (first | (with_reducible first | exact HB.out | apply pA | apply pN | apply pD | refine pS ?_ GE232.out) | exact HB.out)) hb); clear HO235; clear BK232; clear HB; have HO235 := n0_; have BK232 := n1_; have HB := n2_; clear n0_ n1_ n2_; (try clear hb); (try clear hb2); (try clear hk); (try clear hi)) | ((with_reducible refine gate_dst (N := 6) rfl ?_); refine box_event ?hg (N := 6) ?hd (cs := #[.int .i64 0, .int .i64 0, .string (⟨#[]⟩ : ByteArray)]) (t := 23) ?hr ?_; (case hd => rfl); (case hg => rfl); (case hr => first | (go_simp; done) | (go_simp; rfl)); intro gb240 hg w34 hbox hb; have n0_ := Aside0.mk (Kd.R_below (Kd.R_elderB (by (with_reducible repeat (first | apply Kd.R_alloc | apply Kd.R_drewN | apply Kd.R_drew)); exact HO235.out) gb240 (Nat.le_of_eq hg.symm)) hb); have n1_ := Aside0.mk (blk_below (g := gb232) (o := .cells #[.int .i64 t228, .int .i64 t229, .string t230] 23 (0, 0)) (by (with_reducible repeat first | apply bN | apply bD | apply bA); exact BK232.out) hb); have n2_ := Aside0.mk (below_step (by repeat (first | (with_reducible first | exact HB.out | apply pA | apply pN | apply pD | refine pS ?_ GE232.out) | exact HB.out)) hb); have n3_ := Aside0.mk (hbox); have n4_ := Aside0.mk ((by rw [hg]; exact (below_size (by repeat (first | (with_reducible first | exact HB.out | apply pA | apply pN | apply pD | refine pS ?_ GE232.out) | exact HB.out))) : w.heap.size ≤ gb240)); have n5_ := Aside0.mk ((by rw [hg]; exact (below_size (by repeat (first | (with_reducible first | exact HB.out | apply pA | apply pN | apply pD | refine pS ?_ GE232.out) | exact HB.out))) : w.heap.size ≤ gb240)); have n6_ := Aside0.mk ((by rw [hg]; exact Nat.ne_of_lt (blk_lt (g := gb232) (o := .cells #[.int .i64 t228, .int .i64 t229, .string t230] 23 (0, 0)) (by (with_reducible repeat first | apply bN | apply bD | apply bA); exact BK232.out)) : gb232 ≠ gb240)); have n7_ := Aside0.mk ((by rw [hg]; exact Nat.ne_of_gt (blk_lt (g := gb232) (o := .cells #[.int .i64 t228, .int .i64 t229, .string t230] 23 (0, 0)) (by (with_reducible repeat first | apply bN | apply bD | apply bA); exact BK232.out)) : gb240 ≠ gb232)); clear HO235; clear BK232; clear HB; have HO235 := n0_; have BK232 := n1_; have HB := n2_; have BK240 := n3_; have GW240 := n4_; have GE240 := n5_; have NB232_240 := n6_; have NB240_232 := n7_; clear n0_ n1_ n2_ n3_ n4_ n5_ n6_ n7_; clear hb hbox hg; have hnb35 := NB240_232.out; have hnc35 := NB232_240.out; have hcz36_0 : w34.cell? ⟨gb240, 0, none⟩ = some (.int .i64 0) := (blk_cell BK240.out 0).trans rfl; have hcz36_1 : w34.cell? ⟨gb240, 1, none⟩ = some (.int .i64 0) := (blk_cell BK240.out 1).trans rfl; have hcz36_2 : w34.cell? ⟨gb240, 2, none⟩ = some (.string (⟨#[]⟩ : ByteArray)) := (blk_cell BK240.out 2).trans rfl; have hfz36_0 := blk_frozen BK240.out 0; have hfz36_1 := blk_frozen BK240.out 1; have hfz36_2 := blk_frozen BK240.out 2) | ((with_reducible refine gate_store (t := 23) (p := 6) rfl ?_); refine store_event (t := 23) (p := 6) (v := ?vo_w37) (w1 := (((w34.setCell ⟨gb240, 0, none⟩ (.int .i64 t236)).setCell ⟨gb240, 1, none⟩ (.int .i64 t237)).setCell ⟨gb240, 2, none⟩ (.string t238))) ?hg ?ho ?hn ?hr ?_; (case ho => rfl); (case hg => rfl); (case hn => rfl); (case hr => first | (go_simp; done) | (go_simp; rfl)); intro w37 hw; have n0_ : Aside0 (Kd.R k23 23 w37 w.heap.size (fun k_ => k_ ≠ gb232 ∧ k_ ≠ gb240) (.slice Ao32 y233.length co32) y233) := ⟨(by rw [hw]; exact (by (with_reducible repeat (first | apply Kd.R_alloc | apply Kd.R_drewN | apply Kd.R_drew)); exact Kd.R_mono (Kd.R_far (p := ⟨gb240, 2, none⟩) (Kd.R_far (p := ⟨gb240, 1, none⟩) (Kd.R_far (p := ⟨gb240, 0, none⟩) (Kd.R_mono HO235.out (fun k_ hk => (⟨hk, hk.2⟩ : _ ∧ k_ ≠ gb240))) (fun _ hk => hk.2) (.int .i64 t236)) (fun _ hk => hk.2) (.int .i64 t237)) (fun _ hk => hk.2) (.string t238)) (fun _ hk => ⟨hk.1.1.2, hk.1.2⟩)))⟩; have n1_ : Aside0 (w37.heap[gb232]? = some (.cells #[.int .i64 t228, .int .i64 t229, .string t230] 23 (0, 0))) := ⟨(by rw [hw]; exact (by (with_reducible repeat first | apply bN | apply bD | apply bA); refine bF ?_ NB232_240.out _; (with_reducible repeat first | apply bN | apply bD | apply bA); refine bF ?_ NB232_240.out _; (with_reducible repeat first | apply bN | apply bD | apply bA); refine bF ?_ NB232_240.out _; (with_reducible repeat first | apply bN | apply bD | apply bA); exact BK232.out))⟩; have n2_ : Aside0 (w37.heap[gb240]? = some (.cells #[.int .i64 t236, .int .i64 t237, .string t238] 23 (0, 0))) := ⟨(by rw [hw]; exact (by (with_reducible repeat first | apply bN | apply bD | apply bA); refine blk_put (cs := #[.int .i64 t236, .int .i64 t237, .string (⟨#[]⟩ : ByteArray)]) ?_ 2 _ rfl; (with_reducible repeat first | apply bN | apply bD | apply bA); refine blk_put (cs := #[.int .i64 t236, .int .i64 0, .string (⟨#[]⟩ : ByteArray)]) ?_ 1 _ rfl; (with_reducible repeat first | apply bN | apply bD | apply bA); refine blk_put (cs := #[.int .i64 0, .int .i64 0, .string (⟨#[]⟩ : ByteArray)]) ?_ 0 _ rfl; (with_reducible repeat first | apply bN | apply bD | apply bA); exact BK240.out))⟩; have n3_ : Aside0 (Below w.heap.size w w37) := ⟨(by rw [hw]; exact (by repeat (first | (with_reducible first | exact HB.out | apply pA | apply pN | apply pD | refine pS ?_ GE232.out | refine pS ?_ GE240.out) | exact HB.out)))⟩; clear hw; clear HO235; clear BK232; clear BK240; clear HB; have HO235 := n0_; have BK232 := n1_; have BK240 := n2_; have HB := n3_; clear n0_ n1_ n2_ n3_) | ((with_reducible refine gate_callee (f := 38) rfl ?_); refine goesL_ (some 35) rfl rfl Tryd.func38 (by kernel_rfl) rfl #[.int .i64 (-7)] rfl (by (try simp only [List.map_toArray, List.map_cons, List.map_nil]); first | done | rfl | (simp only [List.length_drop, List.length_take]; rfl)) ?_; (with_reducible refine (unisonlaw01_number.calls (-7) t241 t242 t243 _ A10.out).mono ?_); rintro e w38 ⟨rfl, hb⟩; refine ⟨_, rfl, ?_⟩; have n0_ := Aside0.mk (Kd.R_below (by (with_reducible repeat (first | apply Kd.R_alloc | apply Kd.R_drewN | apply Kd.R_drew)); exact HO235.out) hb); have n1_ := Aside0.mk (blk_below (g := gb232) (o := .cells #[.int .i64 t228, .int .i64 t229, .string t230] 23 (0, 0)) (by (with_reducible repeat first | apply bN | apply bD | apply bA); exact BK232.out) hb); have n2_ := Aside0.mk (blk_below (g := gb240) (o := .cells #[.int .i64 t236, .int .i64 t237, .string t238] 23 (0, 0)) (by (with_reducible repeat first | apply bN | apply bD | apply bA); exact BK240.out) hb); have n3_ := Aside0.mk (below_step (by repeat (first | (with_reducible first | exact HB.out | apply pA | apply pN | apply pD | refine pS ?_ GE232.out | refine pS ?_ GE240.out) | exact HB.out)) hb); clear HO235; clear BK232; clear BK240; clear HB; have HO235 := n0_; have BK232 := n1_; have BK240 := n2_; have HB := n3_; clear n0_ n1_ n2_ n3_; (try clear hb); (try clear hb2); (try clear hk); (try clear hi)) | ((with_reducible refine gate_callee (f := 38) rfl ?_); refine goesL_ (some 36) rfl rfl Tryd.func38 (by kernel_rfl) rfl #[.int .i64 2] rfl (by (try simp only [List.map_toArray, List.map_cons, List.map_nil]); first | done | rfl | (simp only [List.length_drop, List.length_take]; rfl)) ?_; (with_reducible refine (unisonlaw01_number.calls 2 t244 t245 t246 _ A11.out).mono ?_); rintro e w39 ⟨rfl, hb⟩; refine ⟨_, rfl, ?_⟩; have n0_ := Aside0.mk (Kd.R_below (by (with_reducible repeat (first | apply Kd.R_alloc | apply Kd.R_drewN | apply Kd.R_drew)); exact HO235.out) hb); have n1_ := Aside0.mk (blk_below (g := gb232) (o := .cells #[.int .i64 t228, .int .i64 t229, .string t230] 23 (0, 0)) (by (with_reducible repeat first | apply bN | apply bD | apply bA); exact BK232.out) hb); have n2_ := Aside0.mk (blk_below (g := gb240) (o := .cells #[.int .i64 t236, .int .i64 t237, .string t238] 23 (0, 0)) (by (with_reducible repeat first | apply bN | apply bD | apply bA); exact BK240.out) hb); have n3_ := Aside0.mk (below_step (by repeat (first | (with_reducible first | exact HB.out | apply pA | apply pN | apply pD | refine pS ?_ GE232.out | refine pS ?_ GE240.out) | exact HB.out)) hb); clear HO235; clear BK232; clear BK240; clear HB; have HO235 := n0_; have BK232 := n1_; have BK240 := n2_; have HB := n3_; clear n0_ n1_ n2_ n3_; (try clear hb); (try clear hb2); (try clear hk); (try clear hi)) | ((with_reducible refine gate_callee (f := 23) rfl ?_); refine goesL_ (some 37) rfl rfl Tryd.func23 (by kernel_rfl) rfl #[.int .i64 4, .agg #[.int .i64 t241, .int .i64 t242, .string t243], .agg #[.int .i64 t244, .int .i64 t245, .string t246]] rfl (by (try simp only [List.map_toArray, List.map_cons, List.map_nil]); first | done | rfl | (simp only [List.length_drop, List.length_take]; rfl)) ?_; (with_reducible refine (value_Arith.calls k 4 t241 t242 t243 t244 t245 t246 t247 t248 t249 t250 _ A12.out).mono ?_); rintro e w40 ⟨rfl, hb⟩; refine ⟨_, rfl, ?_⟩; have n0_ := Aside0.mk (Kd.R_below (by (with_reducible repeat (first | apply Kd.R_alloc | apply Kd.R_drewN | apply Kd.R_drew)); exact HO235.out) hb); have n1_ := Aside0.mk (blk_below (g := gb232) (o := .cells #[.int .i64 t228, .int .i64 t229, .string t230] 23 (0, 0)) (by (with_reducible repeat first | apply bN | apply bD | apply bA); exact BK232.out) hb); have n2_ := Aside0.mk (blk_below (g := gb240) (o := .cells #[.int .i64 t236, .int .i64 t237, .string t238] 23 (0, 0)) (by (with_reducible repeat first | apply bN | apply bD | apply bA); exact BK240.out) hb); have n3_ := Aside0.mk (below_step (by repeat (first | (with_reducible first | exact HB.out | apply pA | apply pN | apply pD | refine pS ?_ GE232.out | refine pS ?_ GE240.out) | exact HB.out)) hb); clear HO235; clear BK232; clear BK240; clear HB; have HO235 := n0_; have BK232 := n1_; have BK240 := n2_; have HB := n3_; clear n0_ n1_ n2_ n3_; (try clear hb); (try clear hb2); (try clear hk); (try clear hi)) | ((with_reducible refine gate_dst (N := 8) rfl ?_); refine box_event ?hg (N := 8) ?hd (cs := #[.int .i64 0, .int .i64 0, .string (⟨#[]⟩ : ByteArray)]) (t := 23) ?hr ?_; (case hd => rfl); (case hg => rfl); (case hr => first | (go_simp; done) | (go_simp; rfl)); intro gb251 hg w41 hbox hb; have n0_ := Aside0.mk (Kd.R_below (Kd.R_elderB (by (with_reducible repeat (first | apply Kd.R_alloc | apply Kd.R_drewN | apply Kd.R_drew)); exact HO235.out) gb251 (Nat.le_of_eq hg.symm)) hb); have n1_ := Aside0.mk (blk_below (g := gb232) (o := .cells #[.int .i64 t228, .int .i64 t229, .string t230] 23 (0, 0)) (by (with_reducible repeat first | apply bN | apply bD | apply bA); exact BK232.out) hb); have n2_ := Aside0.mk (blk_below (g := gb240) (o := .cells #[.int .i64 t236, .int .i64 t237, .string t238] 23 (0, 0)) (by (with_reducible repeat first | apply bN | apply bD | apply bA); exact BK240.out) hb); have n3_ := Aside0.mk (below_step (by repeat (first | (with_reducible first | exact HB.out | apply pA | apply pN | apply pD | refine pS ?_ GE232.out | refine pS ?_ GE240.out) | exact HB.out)) hb); have n4_ := Aside0.mk (hbox); have n5_ := Aside0.mk ((by rw [hg]; exact (below_size (by repeat (first | (with_reducible first | exact HB.out | apply pA | apply pN | apply pD | refine pS ?_ GE232.out | refine pS ?_ GE240.out) | exact HB.out))) : w.heap.size ≤ gb251)); have n6_ := Aside0.mk ((by rw [hg]; exact (below_size (by repeat (first | (with_reducible first | exact HB.out | apply pA | apply pN | apply pD | refine pS ?_ GE232.out | refine pS ?_ GE240.out) | exact HB.out))) : w.heap.size ≤ gb251)); have n7_ := Aside0.mk ((by rw [hg]; exact Nat.ne_of_lt (blk_lt (g := gb232) (o := .cells #[.int .i64 t228, .int .i64 t229, .string t230] 23 (0, 0)) (by (with_reducible repeat first | apply bN | apply bD | apply bA); exact BK232.out)) : gb232 ≠ gb251)); have n8_ := Aside0.mk ((by rw [hg]; exact Nat.ne_of_gt (blk_lt (g := gb232) (o := .cells #[.int .i64 t228, .int .i64 t229, .string t230] 23 (0, 0)) (by (with_reducible repeat first | apply bN | apply bD | apply bA); exact BK232.out)) : gb251 ≠ gb232)); have n9_ := Aside0.mk ((by rw [hg]; exact Nat.ne_of_lt (blk_lt (g := gb240) (o := .cells #[.int .i64 t236, .int .i64 t237, .string t238] 23 (0, 0)) (by (with_reducible repeat first | apply bN | apply bD | apply bA); exact BK240.out)) : gb240 ≠ gb251)); have n10_ := Aside0.mk ((by rw [hg]; exact Nat.ne_of_gt (blk_lt (g := gb240) (o := .cells #[.int .i64 t236, .int .i64 t237, .string t238] 23 (0, 0)) (by (with_reducible repeat first | apply bN | apply bD | apply bA); exact BK240.out)) : gb251 ≠ gb240)); clear HO235; clear BK232; clear BK240; clear HB; have HO235 := n0_; have BK232 := n1_; have BK240 := n2_; have HB := n3_; have BK251 := n4_; have GW251 := n5_; have GE251 := n6_; have NB232_251 := n7_; have NB251_232 := n8_; have NB240_251 := n9_; have NB251_240 := n10_; clear n0_ n1_ n2_ n3_ n4_ n5_ n6_ n7_ n8_ n9_ n10_; clear hb hbox hg; have hnb42 := NB251_232.out; have hnc42 := NB232_251.out; have hnb43 := NB251_240.out; have hnc43 := NB240_251.out; have hcz44_0 : w41.cell? ⟨gb251, 0, none⟩ = some (.int .i64 0) := (blk_cell BK251.out 0).trans rfl; have hcz44_1 : w41.cell? ⟨gb251, 1, none⟩ = some (.int .i64 0) := (blk_cell BK251.out 1).trans rfl; have hcz44_2 : w41.cell? ⟨gb251, 2, none⟩ = some (.string (⟨#[]⟩ : ByteArray)) := (blk_cell BK251.out 2).trans rfl; have hfz44_0 := blk_frozen BK251.out 0; have hfz44_1 := blk_frozen BK251.out 1; have hfz44_2 := blk_frozen BK251.out 2) | ((with_reducible refine gate_store (t := 23) (p := 8) rfl ?_); refine store_event (t := 23) (p := 8) (v := ?vo_w45) (w1 := (((w41.setCell ⟨gb251, 0, none⟩ (.int .i64 t247)).setCell ⟨gb251, 1, none⟩ (.int .i64 t248)).setCell ⟨gb251, 2, none⟩ (.string t249))) ?hg ?ho ?hn ?hr ?_; (case ho => rfl); (case hg => rfl); (case hn => rfl); (case hr => first | (go_simp; done) | (go_simp; rfl)); intro w45 hw; have n0_ : Aside0 (Kd.R k23 23 w45 w.heap.size (fun k_ => k_ ≠ gb232 ∧ k_ ≠ gb240 ∧ k_ ≠ gb251) (.slice Ao32 y233.length co32) y233) := ⟨(by rw [hw]; exact (by (with_reducible repeat (first | apply Kd.R_alloc | apply Kd.R_drewN | apply Kd.R_drew)); exact Kd.R_mono (Kd.R_far (p := ⟨gb251, 2, none⟩) (Kd.R_far (p := ⟨gb251, 1, none⟩) (Kd.R_far (p := ⟨gb251, 0, none⟩) (Kd.R_mono HO235.out (fun k_ hk => (⟨hk, hk.2⟩ : _ ∧ k_ ≠ gb251))) (fun _ hk => hk.2) (.int .i64 t247)) (fun _ hk => hk.2) (.int .i64 t248)) (fun _ hk => hk.2) (.string t249)) (fun _ hk => ⟨hk.1.1.1, ⟨hk.1.1.2, hk.1.2⟩⟩)))⟩; have n1_ : Aside0 (w45.heap[gb232]? = some (.cells #[.int .i64 t228, .int .i64 t229, .string t230] 23 (0, 0))) := ⟨(by rw [hw]; exact (by (with_reducible repeat first | apply bN | apply bD | apply bA); refine bF ?_ NB232_251.out _; (with_reducible repeat first | apply bN | apply bD | apply bA); refine bF ?_ NB232_251.out _; (with_reducible repeat first | apply bN | apply bD | apply bA); refine bF ?_ NB232_251.out _; (with_reducible repeat first | apply bN | apply bD | apply bA); exact BK232.out))⟩; have n2_ : Aside0 (w45.heap[gb240]? = some (.cells #[.int .i64 t236, .int .i64 t237, .string t238] 23 (0, 0))) := ⟨(by rw [hw]; exact (by (with_reducible repeat first | apply bN | apply bD | apply bA); refine bF ?_ NB240_251.out _; (with_reducible repeat first | apply bN | apply bD | apply bA); refine bF ?_ NB240_251.out _; (with_reducible repeat first | apply bN | apply bD | apply bA); refine bF ?_ NB240_251.out _; (with_reducible repeat first | apply bN | apply bD | apply bA); exact BK240.out))⟩; have n3_ : Aside0 (w45.heap[gb251]? = some (.cells #[.int .i64 t247, .int .i64 t248, .string t249] 23 (0, 0))) := ⟨(by rw [hw]; exact (by (with_reducible repeat first | apply bN | apply bD | apply bA); refine blk_put (cs := #[.int .i64 t247, .int .i64 t248, .string (⟨#[]⟩ : ByteArray)]) ?_ 2 _ rfl; (with_reducible repeat first | apply bN | apply bD | apply bA); refine blk_put (cs := #[.int .i64 t247, .int .i64 0, .string (⟨#[]⟩ : ByteArray)]) ?_ 1 _ rfl; (with_reducible repeat first | apply bN | apply bD | apply bA); refine blk_put (cs := #[.int .i64 0, .int .i64 0, .string (⟨#[]⟩ : ByteArray)]) ?_ 0 _ rfl; (with_reducible repeat first | apply bN | apply bD | apply bA); exact BK251.out))⟩; have n4_ : Aside0 (Below w.heap.size w w45) := ⟨(by rw [hw]; exact (by repeat (first | (with_reducible first | exact HB.out | apply pA | apply pN | apply pD | refine pS ?_ GE232.out | refine pS ?_ GE240.out | refine pS ?_ GE251.out) | exact HB.out)))⟩; clear hw; clear HO235; clear BK232; clear BK240; clear BK251; clear HB; have HO235 := n0_; have BK232 := n1_; have BK240 := n2_; have BK251 := n3_; have HB := n4_; clear n0_ n1_ n2_ n3_ n4_) | ((with_reducible refine gate_callee (f := 38) rfl ?_); refine goesL_ (some 41) rfl rfl Tryd.func38 (by kernel_rfl) rfl #[.int .i64 4611686018427387904] rfl (by (try simp only [List.map_toArray, List.map_cons, List.map_nil]); first | done | rfl | (simp only [List.length_drop, List.length_take]; rfl)) ?_; (with_reducible refine (unisonlaw01_number.calls 4611686018427387904 t252 t253 t254 _ A13.out).mono ?_); rintro e w46 ⟨rfl, hb⟩; refine ⟨_, rfl, ?_⟩; have n0_ := Aside0.mk (Kd.R_below (by (with_reducible repeat (first | apply Kd.R_alloc | apply Kd.R_drewN | apply Kd.R_drew)); exact HO235.out) hb); have n1_ := Aside0.mk (blk_below (g := gb232) (o := .cells #[.int .i64 t228, .int .i64 t229, .string t230] 23 (0, 0)) (by (with_reducible repeat first | apply bN | apply bD | apply bA); exact BK232.out) hb); have n2_ := Aside0.mk (blk_below (g := gb240) (o := .cells #[.int .i64 t236, .int .i64 t237, .string t238] 23 (0, 0)) (by (with_reducible repeat first | apply bN | apply bD | apply bA); exact BK240.out) hb); have n3_ := Aside0.mk (blk_below (g := gb251) (o := .cells #[.int .i64 t247, .int .i64 t248, .string t249] 23 (0, 0)) (by (with_reducible repeat first | apply bN | apply bD | apply bA); exact BK251.out) hb); have n4_ := Aside0.mk (below_step (by repeat (first | (with_reducible first | exact HB.out | apply pA | apply pN | apply pD | refine pS ?_ GE232.out | refine pS ?_ GE240.out | refine pS ?_ GE251.out) | exact HB.out)) hb); clear HO235; clear BK232; clear BK240; clear BK251; clear HB; have HO235 := n0_; have BK232 := n1_; have BK240 := n2_; have BK251 := n3_; have HB := n4_; clear n0_ n1_ n2_ n3_ n4_; (try clear hb); (try clear hb2); (try clear hk); (try clear hi)) | ((with_reducible refine gate_callee (f := 38) rfl ?_); refine goesL_ (some 42) rfl rfl Tryd.func38 (by kernel_rfl) rfl #[.int .i64 1] rfl (by (try simp only [List.map_toArray, List.map_cons, List.map_nil]); first | done | rfl | (simp only [List.length_drop, List.length_take]; rfl)) ?_; (with_reducible refine (unisonlaw01_number.calls 1 t255 t256 t257 _ A14.out).mono ?_); rintro e w47 ⟨rfl, hb⟩; refine ⟨_, rfl, ?_⟩; have n0_ := Aside0.mk (Kd.R_below (by (with_reducible repeat (first | apply Kd.R_alloc | apply Kd.R_drewN | apply Kd.R_drew)); exact HO235.out) hb); have n1_ := Aside0.mk (blk_below (g := gb232) (o := .cells #[.int .i64 t228, .int .i64 t229, .string t230] 23 (0, 0)) (by (with_reducible repeat first | apply bN | apply bD | apply bA); exact BK232.out) hb); have n2_ := Aside0.mk (blk_below (g := gb240) (o := .cells #[.int .i64 t236, .int .i64 t237, .string t238] 23 (0, 0)) (by (with_reducible repeat first | apply bN | apply bD | apply bA); exact BK240.out) hb); have n3_ := Aside0.mk (blk_below (g := gb251) (o := .cells #[.int .i64 t247, .int .i64 t248, .string t249] 23 (0, 0)) (by (with_reducible repeat first | apply bN | apply bD | apply bA); exact BK251.out) hb); have n4_ := Aside0.mk (below_step (by repeat (first | (with_reducible first | exact HB.out | apply pA | apply pN | apply pD | refine pS ?_ GE232.out | refine pS ?_ GE240.out | refine pS ?_ GE251.out) | exact HB.out)) hb); clear HO235; clear BK232; clear BK240; clear BK251; clear HB; have HO235 := n0_; have BK232 := n1_; have BK240 := n2_; have BK251 := n3_; have HB := n4_; clear n0_ n1_ n2_ n3_ n4_; (try clear hb); (try clear hb2); (try clear hk); (try clear hi)) | ((with_reducible refine gate_callee (f := 38) rfl ?_); refine goesL_ (some 43) rfl rfl Tryd.func38 (by kernel_rfl) rfl #[.int .i64 (-1)] rfl (by (try simp only [List.map_toArray, List.map_cons, List.map_nil]); first | done | rfl | (simp only [List.length_drop, List.length_take]; rfl)) ?_; (with_reducible refine (unisonlaw01_number.calls (-1) t258 t259 t260 _ A15.out).mono ?_); rintro e w48 ⟨rfl, hb⟩; refine ⟨_, rfl, ?_⟩; have n0_ := Aside0.mk (Kd.R_below (by (with_reducible repeat (first | apply Kd.R_alloc | apply Kd.R_drewN | apply Kd.R_drew)); exact HO235.out) hb); have n1_ := Aside0.mk (blk_below (g := gb232) (o := .cells #[.int .i64 t228, .int .i64 t229, .string t230] 23 (0, 0)) (by (with_reducible repeat first | apply bN | apply bD | apply bA); exact BK232.out) hb); have n2_ := Aside0.mk (blk_below (g := gb240) (o := .cells #[.int .i64 t236, .int .i64 t237, .string t238] 23 (0, 0)) (by (with_reducible repeat first | apply bN | apply bD | apply bA); exact BK240.out) hb); have n3_ := Aside0.mk (blk_below (g := gb251) (o := .cells #[.int .i64 t247, .int .i64 t248, .string t249] 23 (0, 0)) (by (with_reducible repeat first | apply bN | apply bD | apply bA); exact BK251.out) hb); have n4_ := Aside0.mk (below_step (by repeat (first | (with_reducible first | exact HB.out | apply pA | apply pN | apply pD | refine pS ?_ GE232.out | refine pS ?_ GE240.out | refine pS ?_ GE251.out) | exact HB.out)) hb); clear HO235; clear BK232; clear BK240; clear BK251; clear HB; have HO235 := n0_; have BK232 := n1_; have BK240 := n2_; have BK251 := n3_; have HB := n4_; clear n0_ n1_ n2_ n3_ n4_; (try clear hb); (try clear hb2); (try clear hk); (try clear hi)) | ((with_reducible refine gate_dst (N := 44) rfl ?_); refine Kd.R_lit k23 _ 23 ?hg (N := 44) ?hd (xs := ([(⟨t252, t253, t254⟩ : S23), (⟨t255, t256, t257⟩ : S23), (⟨t258, t259, t260⟩ : S23)] : List (S23))) (inner := [.int .i64 t252, .int .i64 t253, .string t254, .int .i64 t255, .int .i64 t256, .string t257, .int .i64 t258, .int .i64 t259, .string t260]) (ok := fun _ => True) (okp := fun _ => True) ?hr ?hp (fun _ hk => hk) trivial (Below.refl _ _) (Nat.le_refl _) (by simp) ?_; (case hd => rfl); (case hg => rfl); (case hr => first | (go_simp; done) | (go_simp; rfl)); (case hp => exact (Reps.c3 (show Kd.M k23 _ _ _ (⟨t252, t253, t254⟩ : S23) [.int .i64 t252, .int .i64 t253, .string t254] from (k23_mkM _ _ _ (⟨t252, t253, t254⟩ : S23) )) (Reps.c3 (show Kd.M k23 _ _ _ (⟨t255, t256, t257⟩ : S23) [.int .i64 t255, .int .i64 t256, .string t257] from (k23_mkM _ _ _ (⟨t255, t256, t257⟩ : S23) )) (Reps.c3 (show Kd.M k23 _ _ _ (⟨t258, t259, t260⟩ : S23) [.int .i64 t258, .int .i64 t259, .string t260] from (k23_mkM _ _ _ (⟨t258, t259, t260⟩ : S23) )) (Reps.none _ _))))); intro v262 w49 ho50 hb hg_ hnew_; clear hg_ hnew_; (first | rw [← Ny261.out] at ho50 | (simp only [Int.reduceToNat] at ho50; rw [← Ny261.out] at ho50)); have n0_ := Aside0.mk (Kd.R_elder' (by (with_reducible repeat (first | apply Kd.R_alloc | apply Kd.R_drewN | apply Kd.R_drew)); exact HO235.out) (Kd.R_base ho50) hb); have n1_ := Aside0.mk (Kd.R_lower (Kd.R_newB (Kd.R_newB (Kd.R_newB (Kd.R_new' ho50 (Kd.R_lt (by (with_reducible repeat (first | apply Kd.R_alloc | apply Kd.R_drewN | apply Kd.R_drew)); exact HO235.out))) (g := gb232) (o := .cells #[.int .i64 t228, .int .i64 t229, .string t230] 23 (0, 0)) (by (with_reducible repeat first | apply bN | apply bD | apply bA); exact BK232.out)) (g := gb240) (o := .cells #[.int .i64 t236, .int .i64 t237, .string t238] 23 (0, 0)) (by (with_reducible repeat first | apply bN | apply bD | apply bA); exact BK240.out)) (g := gb251) (o := .cells #[.int .i64 t247, .int .i64 t248, .string t249] 23 (0, 0)) (by (with_reducible repeat first | apply bN | apply bD | apply bA); exact BK251.out)) (below_size (by repeat (first | (with_reducible first | exact HB.out | apply pA | apply pN | apply pD | refine pS ?_ GE232.out | refine pS ?_ GE240.out | refine pS ?_ GE251.out) | exact HB.out)))); have n2_ := Aside0.mk (blk_below (g := gb232) (o := .cells #[.int .i64 t228, .int .i64 t229, .string t230] 23 (0, 0)) (by (with_reducible repeat first | apply bN | apply bD | apply bA); exact BK232.out) hb); have n3_ := Aside0.mk (blk_below (g := gb240) (o := .cells #[.int .i64 t236, .int .i64 t237, .string t238] 23 (0, 0)) (by (with_reducible repeat first | apply bN | apply bD | apply bA); exact BK240.out) hb); have n4_ := Aside0.mk (blk_below (g := gb251) (o := .cells #[.int .i64 t247, .int .i64 t248, .string t249] 23 (0, 0)) (by (with_reducible repeat first | apply bN | apply bD | apply bA); exact BK251.out) hb); have n5_ := Aside0.mk (below_step (by repeat (first | (with_reducible first | exact HB.out | apply pA | apply pN | apply pD | refine pS ?_ GE232.out | refine pS ?_ GE240.out | refine pS ?_ GE251.out) | exact HB.out)) hb); clear HO235; clear BK232; clear BK240; clear BK251; clear HB; have HO235 := n0_; have HO263 := n1_; have BK232 := n2_; have BK240 := n3_; have BK251 := n4_; have HB := n5_; clear n0_ n1_ n2_ n3_ n4_ n5_; clear hb ho50; obtain ⟨Ao51, co51, eo51⟩ := Kd.R_slice HO263.out; subst eo51) | ((with_reducible refine gate_callee (f := 20) rfl ?_); refine goesL_ (some 45) rfl rfl Tryd.func20 (by kernel_rfl) rfl #[.slice Ao51 y261.length co51] rfl (by (try simp only [List.map_toArray, List.map_cons, List.map_nil]); first | done | rfl | (simp only [List.length_drop, List.length_take]; rfl)) ?_; (with_reducible refine (value_Sum.calls k _ _ y261 t264 t265 t266 t267 _ ?side1 ?side2 A16.out).mono ?_); (case side1 => repeat (first | exact (Kd.R_reads' HO263.out).2.2 | (with_reducible refine Kd.C_alloc ?_ _) | (with_reducible refine Kd.C_drewN ?_ _) | (with_reducible refine Kd.C_drew ?_))); (case side2 => exact (Kd.R_reads' HO263.out).2.1); rintro e w52 ⟨rfl, hb⟩; refine ⟨_, rfl, ?_⟩; have n0_ := Aside0.mk (Kd.R_below (by (with_reducible repeat (first | apply Kd.R_alloc | apply Kd.R_drewN | apply Kd.R_drew)); exact HO235.out) hb); have n1_ := Aside0.mk (Kd.R_below (by (with_reducible repeat (first | apply Kd.R_alloc | apply Kd.R_drewN | apply Kd.R_drew)); exact HO263.out) hb); have n2_ := Aside0.mk (blk_below (g := gb232) (o := .cells #[.int .i64 t228, .int .i64 t229, .string t230] 23 (0, 0)) (by (with_reducible repeat first | apply bN | apply bD | apply bA); exact BK232.out) hb); have n3_ := Aside0.mk (blk_below (g := gb240) (o := .cells #[.int .i64 t236, .int .i64 t237, .string t238] 23 (0, 0)) (by (with_reducible repeat first | apply bN | apply bD | apply bA); exact BK240.out) hb); have n4_ := Aside0.mk (blk_below (g := gb251) (o := .cells #[.int .i64 t247, .int .i64 t248, .string t249] 23 (0, 0)) (by (with_reducible repeat first | apply bN | apply bD | apply bA); exact BK251.out) hb); have n5_ := Aside0.mk (below_step (by repeat (first | (with_reducible first | exact HB.out | apply pA | apply pN | apply pD | refine pS ?_ GE232.out | refine pS ?_ GE240.out | refine pS ?_ GE251.out) | exact HB.out)) hb); clear HO235; clear HO263; clear BK232; clear BK240; clear BK251; clear HB; have HO235 := n0_; have HO263 := n1_; have BK232 := n2_; have BK240 := n3_; have BK251 := n4_; have HB := n5_; clear n0_ n1_ n2_ n3_ n4_ n5_; (try clear hb); (try clear hb2); (try clear hk); (try clear hi)) | ((with_reducible refine gate_dst (N := 10) rfl ?_); refine box_event ?hg (N := 10) ?hd (cs := #[.int .i64 0, .int .i64 0, .string (⟨#[]⟩ : ByteArray)]) (t := 23) ?hr ?_; (case hd => rfl); (case hg => rfl); (case hr => first | (go_simp; done) | (go_simp; rfl)); intro gb268 hg w53 hbox hb; have n0_ := Aside0.mk (Kd.R_below (Kd.R_elderB (by (with_reducible repeat (first | apply Kd.R_alloc | apply Kd.R_drewN | apply Kd.R_drew)); exact HO235.out) gb268 (Nat.le_of_eq hg.symm)) hb); have n1_ := Aside0.mk (Kd.R_below (Kd.R_elderB (by (with_reducible repeat (first | apply Kd.R_alloc | apply Kd.R_drewN | apply Kd.R_drew)); exact HO263.out) gb268 (Nat.le_of_eq hg.symm)) hb); have n2_ := Aside0.mk (blk_below (g := gb232) (o := .cells #[.int .i64 t228, .int .i64 t229, .string t230] 23 (0, 0)) (by (with_reducible repeat first | apply bN | apply bD | apply bA); exact BK232.out) hb); have n3_ := Aside0.mk (blk_below (g := gb240) (o := .cells #[.int .i64 t236, .int .i64 t237, .string t238] 23 (0, 0)) (by (with_reducible repeat first | apply bN | apply bD | apply bA); exact BK240.out) hb); have n4_ := Aside0.mk (blk_below (g := gb251) (o := .cells #[.int .i64 t247, .int .i64 t248, .string t249] 23 (0, 0)) (by (with_reducible repeat first | apply bN | apply bD | apply bA); exact BK251.out) hb); have n5_ := Aside0.mk (below_step (by repeat (first | (with_reducible first | exact HB.out | apply pA | apply pN | apply pD | refine pS ?_ GE232.out | refine pS ?_ GE240.out | refine pS ?_ GE251.out) | exact HB.out)) hb); have n6_ := Aside0.mk (hbox); have n7_ := Aside0.mk ((by rw [hg]; exact (below_size (by repeat (first | (with_reducible first | exact HB.out | apply pA | apply pN | apply pD | refine pS ?_ GE232.out | refine pS ?_ GE240.out | refine pS ?_ GE251.out) | exact HB.out))) : w.heap.size ≤ gb268)); have n8_ := Aside0.mk ((by rw [hg]; exact (below_size (by repeat (first | (with_reducible first | exact HB.out | apply pA | apply pN | apply pD | refine pS ?_ GE232.out | refine pS ?_ GE240.out | refine pS ?_ GE251.out) | exact HB.out))) : w.heap.size ≤ gb268)); have n9_ := Aside0.mk ((by rw [hg]; exact Nat.ne_of_lt (blk_lt (g := gb232) (o := .cells #[.int .i64 t228, .int .i64 t229, .string t230] 23 (0, 0)) (by (with_reducible repeat first | apply bN | apply bD | apply bA); exact BK232.out)) : gb232 ≠ gb268)); have n10_ := Aside0.mk ((by rw [hg]; exact Nat.ne_of_gt (blk_lt (g := gb232) (o := .cells #[.int .i64 t228, .int .i64 t229, .string t230] 23 (0, 0)) (by (with_reducible repeat first | apply bN | apply bD | apply bA); exact BK232.out)) : gb268 ≠ gb232)); have n11_ := Aside0.mk ((by rw [hg]; exact Nat.ne_of_lt (blk_lt (g := gb240) (o := .cells #[.int .i64 t236, .int .i64 t237, .string t238] 23 (0, 0)) (by (with_reducible repeat first | apply bN | apply bD | apply bA); exact BK240.out)) : gb240 ≠ gb268)); have n12_ := Aside0.mk ((by rw [hg]; exact Nat.ne_of_gt (blk_lt (g := gb240) (o := .cells #[.int .i64 t236, .int .i64 t237, .string t238] 23 (0, 0)) (by (with_reducible repeat first | apply bN | apply bD | apply bA); exact BK240.out)) : gb268 ≠ gb240)); have n13_ := Aside0.mk ((by rw [hg]; exact Nat.ne_of_lt (blk_lt (g := gb251) (o := .cells #[.int .i64 t247, .int .i64 t248, .string t249] 23 (0, 0)) (by (with_reducible repeat first | apply bN | apply bD | apply bA); exact BK251.out)) : gb251 ≠ gb268)); have n14_ := Aside0.mk ((by rw [hg]; exact Nat.ne_of_gt (blk_lt (g := gb251) (o := .cells #[.int .i64 t247, .int .i64 t248, .string t249] 23 (0, 0)) (by (with_reducible repeat first | apply bN | apply bD | apply bA); exact BK251.out)) : gb268 ≠ gb251)); clear HO235; clear HO263; clear BK232; clear BK240; clear BK251; clear HB; have HO235 := n0_; have HO263 := n1_; have BK232 := n2_; have BK240 := n3_; have BK251 := n4_; have HB := n5_; have BK268 := n6_; have GW268 := n7_; have GE268 := n8_; have NB232_268 := n9_; have NB268_232 := n10_; have NB240_268 := n11_; have NB268_240 := n12_; have NB251_268 := n13_; have NB268_251 := n14_; clear n0_ n1_ n2_ n3_ n4_ n5_ n6_ n7_ n8_ n9_ n10_ n11_ n12_ n13_ n14_; clear hb hbox hg; have hnb54 := NB268_232.out; have hnc54 := NB232_268.out; have hnb55 := NB268_240.out; have hnc55 := NB240_268.out; have hnb56 := NB268_251.out; have hnc56 := NB251_268.out; have hcz57_0 : w53.cell? ⟨gb268, 0, none⟩ = some (.int .i64 0) := (blk_cell BK268.out 0).trans rfl; have hcz57_1 : w53.cell? ⟨gb268, 1, none⟩ = some (.int .i64 0) := (blk_cell BK268.out 1).trans rfl; have hcz57_2 : w53.cell? ⟨gb268, 2, none⟩ = some (.string (⟨#[]⟩ : ByteArray)) := (blk_cell BK268.out 2).trans rfl; have hfz57_0 := blk_frozen BK268.out 0; have hfz57_1 := blk_frozen BK268.out 1; have hfz57_2 := blk_frozen BK268.out 2) | ((with_reducible refine gate_store (t := 23) (p := 10) rfl ?_); refine store_event (t := 23) (p := 10) (v := ?vo_w58) (w1 := (((w53.setCell ⟨gb268, 0, none⟩ (.int .i64 t264)).setCell ⟨gb268, 1, none⟩ (.int .i64 t265)).setCell ⟨gb268, 2, none⟩ (.string t266))) ?hg ?ho ?hn ?hr ?_; (case ho => rfl); (case hg => rfl); (case hn => rfl); (case hr => first | (go_simp; done) | (go_simp; rfl)); intro w58 hw; have n0_ : Aside0 (Kd.R k23 23 w58 w.heap.size (fun k_ => some k_ ≠ (.slice Ao51 y261.length co51 : Value).ownBlock ∧ k_ ≠ gb232 ∧ k_ ≠ gb240 ∧ k_ ≠ gb251 ∧ k_ ≠ gb268) (.slice Ao32 y233.length co32) y233) := ⟨(by rw [hw]; exact (by (with_reducible repeat (first | apply Kd.R_alloc | apply Kd.R_drewN | apply Kd.R_drew)); exact Kd.R_mono (Kd.R_far (p := ⟨gb268, 2, none⟩) (Kd.R_far (p := ⟨gb268, 1, none⟩) (Kd.R_far (p := ⟨gb268, 0, none⟩) (Kd.R_mono HO235.out (fun k_ hk => (⟨hk, hk.2⟩ : _ ∧ k_ ≠ gb268))) (fun _ hk => hk.2) (.int .i64 t264)) (fun _ hk => hk.2) (.int .i64 t265)) (fun _ hk => hk.2) (.string t266)) (fun _ hk => ⟨hk.1.1.2, ⟨hk.1.1.1.1, ⟨hk.1.1.1.2.1, ⟨hk.1.1.1.2.2, hk.1.2⟩⟩⟩⟩)))⟩; have n1_ : Aside0 (Kd.R k23 23 w58 w.heap.size (fun k_ => some k_ ≠ (.slice Ao32 y233.length co32 : Value).ownBlock ∧ k_ ≠ gb232 ∧ k_ ≠ gb240 ∧ k_ ≠ gb251 ∧ k_ ≠ gb268) (.slice Ao51 y261.length co51) y261) := ⟨(by rw [hw]; exact (by (with_reducible repeat (first | apply Kd.R_alloc | apply Kd.R_drewN | apply Kd.R_drew)); exact Kd.R_mono (Kd.R_far (p := ⟨gb268, 2, none⟩) (Kd.R_far (p := ⟨gb268, 1, none⟩) (Kd.R_far (p := ⟨gb268, 0, none⟩) (Kd.R_mono HO263.out (fun k_ hk => (⟨hk, hk.2⟩ : _ ∧ k_ ≠ gb268))) (fun _ hk => hk.2) (.int .i64 t264)) (fun _ hk => hk.2) (.int .i64 t265)) (fun _ hk => hk.2) (.string t266)) (fun _ hk => ⟨hk.1.1.1.1.1.2, ⟨hk.1.1.1.1.2, ⟨hk.1.1.1.2, ⟨hk.1.1.2, hk.1.2⟩⟩⟩⟩)))⟩; have n2_ : Aside0 (w58.heap[gb232]? = some (.cells #[.int .i64 t228, .int .i64 t229, .string t230] 23 (0, 0))) := ⟨(by rw [hw]; exact (by (with_reducible repeat first | apply bN | apply bD | apply bA); refine bF ?_ NB232_268.out _; (with_reducible repeat first | apply bN | apply bD | apply bA); refine bF ?_ NB232_268.out _; (with_reducible repeat first | apply bN | apply bD | apply bA); refine bF ?_ NB232_268.out _; (with_reducible repeat first | apply bN | apply bD | apply bA); exact BK232.out))⟩; have n3_ : Aside0 (w58.heap[gb240]? = some (.cells #[.int .i64 t236, .int .i64 t237, .string t238] 23 (0, 0))) := ⟨(by rw [hw]; exact (by (with_reducible repeat first | apply bN | apply bD | apply bA); refine bF ?_ NB240_268.out _; (with_reducible repeat first | apply bN | apply bD | apply bA); refine bF ?_ NB240_268.out _; (with_reducible repeat first | apply bN | apply bD | apply bA); refine bF ?_ NB240_268.out _; (with_reducible repeat first | apply bN | apply bD | apply bA); exact BK240.out))⟩; have n4_ : Aside0 (w58.heap[gb251]? = some (.cells #[.int .i64 t247, .int .i64 t248, .string t249] 23 (0, 0))) := ⟨(by rw [hw]; exact (by (with_reducible repeat first | apply bN | apply bD | apply bA); refine bF ?_ NB251_268.out _; (with_reducible repeat first | apply bN | apply bD | apply bA); refine bF ?_ NB251_268.out _; (with_reducible repeat first | apply bN | apply bD | apply bA); refine bF ?_ NB251_268.out _; (with_reducible repeat first | apply bN | apply bD | apply bA); exact BK251.out))⟩; have n5_ : Aside0 (w58.heap[gb268]? = some (.cells #[.int .i64 t264, .int .i64 t265, .string t266] 23 (0, 0))) := ⟨(by rw [hw]; exact (by (with_reducible repeat first | apply bN | apply bD | apply bA); refine blk_put (cs := #[.int .i64 t264, .int .i64 t265, .string (⟨#[]⟩ : ByteArray)]) ?_ 2 _ rfl; (with_reducible repeat first | apply bN | apply bD | apply bA); refine blk_put (cs := #[.int .i64 t264, .int .i64 0, .string (⟨#[]⟩ : ByteArray)]) ?_ 1 _ rfl; (with_reducible repeat first | apply bN | apply bD | apply bA); refine blk_put (cs := #[.int .i64 0, .int .i64 0, .string (⟨#[]⟩ : ByteArray)]) ?_ 0 _ rfl; (with_reducible repeat first | apply bN | apply bD | apply bA); exact BK268.out))⟩; have n6_ : Aside0 (Below w.heap.size w w58) := ⟨(by rw [hw]; exact (by repeat (first | (with_reducible first | exact HB.out | apply pA | apply pN | apply pD | refine pS ?_ GE232.out | refine pS ?_ GE240.out | refine pS ?_ GE251.out | refine pS ?_ GE268.out) | exact HB.out)))⟩; clear hw; clear HO235; clear HO263; clear BK232; clear BK240; clear BK251; clear BK268; clear HB; have HO235 := n0_; have HO263 := n1_; have BK232 := n2_; have BK240 := n3_; have BK251 := n4_; have BK268 := n5_; have HB := n6_; clear n0_ n1_ n2_ n3_ n4_ n5_ n6_) | ((with_reducible refine gate_callee (f := 34) rfl ?_); refine goesL_ (some 50) rfl rfl Tryd.func34 (by kernel_rfl) rfl #[.agg #[.int .i64 3, .int .i64 0, .string (⟨#[105, 116, 39, 115]⟩ : ByteArray)]] rfl (by (try simp only [List.map_toArray, List.map_cons, List.map_nil]); first | done | rfl | (simp only [List.length_drop, List.length_take]; rfl)) ?_; (with_reducible refine (value_Print.calls 3 0 (⟨#[105, 116, 39, 115]⟩ : ByteArray) t269 t270 _ A17.out).mono ?_); rintro e w59 ⟨rfl, hb⟩; refine ⟨_, rfl, ?_⟩; have n0_ := Aside0.mk (Kd.R_below (by (with_reducible repeat (first | apply Kd.R_alloc | apply Kd.R_drewN | apply Kd.R_drew)); exact HO235.out) hb); have n1_ := Aside0.mk (Kd.R_below (by (with_reducible repeat (first | apply Kd.R_alloc | apply Kd.R_drewN | apply Kd.R_drew)); exact HO263.out) hb); have n2_ := Aside0.mk (blk_below (g := gb232) (o := .cells #[.int .i64 t228, .int .i64 t229, .string t230] 23 (0, 0)) (by (with_reducible repeat first | apply bN | apply bD | apply bA); exact BK232.out) hb); have n3_ := Aside0.mk (blk_below (g := gb240) (o := .cells #[.int .i64 t236, .int .i64 t237, .string t238] 23 (0, 0)) (by (with_reducible repeat first | apply bN | apply bD | apply bA); exact BK240.out) hb); have n4_ := Aside0.mk (blk_below (g := gb251) (o := .cells #[.int .i64 t247, .int .i64 t248, .string t249] 23 (0, 0)) (by (with_reducible repeat first | apply bN | apply bD | apply bA); exact BK251.out) hb); have n5_ := Aside0.mk (blk_below (g := gb268) (o := .cells #[.int .i64 t264, .int .i64 t265, .string t266] 23 (0, 0)) (by (with_reducible repeat first | apply bN | apply bD | apply bA); exact BK268.out) hb); have n6_ := Aside0.mk (below_step (by repeat (first | (with_reducible first | exact HB.out | apply pA | apply pN | apply pD | refine pS ?_ GE232.out | refine pS ?_ GE240.out | refine pS ?_ GE251.out | refine pS ?_ GE268.out) | exact HB.out)) hb); clear HO235; clear HO263; clear BK232; clear BK240; clear BK251; clear BK268; clear HB; have HO235 := n0_; have HO263 := n1_; have BK232 := n2_; have BK240 := n3_; have BK251 := n4_; have BK268 := n5_; have HB := n6_; clear n0_ n1_ n2_ n3_ n4_ n5_ n6_; (try clear hb); (try clear hb2); (try clear hk); (try clear hi)))
 (try simp only [Act.put, List.setIfInBounds_toArray, List.set_cons_zero, List.set_cons_succ])
 go_cut [79] (fun v79 wc => ∃ (kq : Nat) (x79_17 : Bool), v79 = .bool x79_17 ∧ Aside0 (unisonlaw01_awake.j0 kq t250 t267 t269 t270 x79_17 t247 t248 t249 t264 t265 t266 = some r) ∧ Aside0 (kq ≤ k) ∧ Aside0 (wc.heap[gb232]? = some (.cells #[.int .i64 t228, .int .i64 t229, .string t230] 23 (0, 0))) ∧ Aside0 (wc.heap[gb240]? = some (.cells #[.int .i64 t236, .int .i64 t237, .string t238] 23 (0, 0))) ∧ Aside0 (wc.heap[gb251]? = some (.cells #[.int .i64 t247, .int .i64 t248, .string t249] 23 (0, 0))) ∧ Aside0 (wc.heap[gb268]? = some (.cells #[.int .i64 t264, .int .i64 t265, .string t266] 23 (0, 0))) ∧ Aside0 (Below w.heap.size w wc))
 case first =>
  have H := HC18.out
  clear HC18
  by_cases c60 : t216 = true
  ·
   subst c60
   have H1 : (if t217 = true then (unisonlaw01_awake.j0 k t250 t267 t269 t270 true t247 t248 t249 t264 t265 t266) else (if t221 = (-1) then (if (!(t228 == 2) || (!(t229 == 1) || (!(t230.toList == ([] : List UInt8))))) = true then (unisonlaw01_awake.j0 k t250 t267 t269 t270 true t247 t248 t249 t264 t265 t266) else (if t231 = 0 then (if (!(t236 == 2) || (!(t237 == 0) || (!(t238.toList == ([] : List UInt8))))) = true then (unisonlaw01_awake.j0 k t250 t267 t269 t270 true t247 t248 t249 t264 t265 t266) else (unisonlaw01_awake.j0 k t250 t267 t269 t270 (t239 != 0) t247 t248 t249 t264 t265 t266)) else (unisonlaw01_awake.j0 k t250 t267 t269 t270 true t247 t248 t249 t264 t265 t266))) else (unisonlaw01_awake.j0 k t250 t267 t269 t270 true t247 t248 t249 t264 t265 t266))) = some r := by (first | rw [if_pos rfl] at H | rw [if_pos True.intro] at H | skip); exact H
   clear H
   have H := H1
   clear H1
   by_cases c61 : t217 = true
   ·
    subst c61
    have H1 : (unisonlaw01_awake.j0 k t250 t267 t269 t270 true t247 t248 t249 t264 t265 t266) = some r := by (first | rw [if_pos rfl] at H | rw [if_pos True.intro] at H | skip); exact H
    clear H
    have H := H1
    clear H1
    have H' := Aside0.mk H
    clear H
    go_wp2
    go_meet
    case rel => exact ⟨_, (true), (by first | rfl | (simp; done) | (simp [*]; done)), H', ⟨by first | omega | exact Nat.le_refl _⟩, ⟨by (with_reducible repeat first | apply bN | apply bD | apply bA); exact BK232.out⟩, ⟨by (with_reducible repeat first | apply bN | apply bD | apply bA); exact BK240.out⟩, ⟨by (with_reducible repeat first | apply bN | apply bD | apply bA); exact BK251.out⟩, ⟨by (with_reducible repeat first | apply bN | apply bD | apply bA); exact BK268.out⟩, ⟨by repeat (first | (with_reducible first | exact HB.out | apply pA | apply pN | apply pD | refine pS ?_ GE232.out | refine pS ?_ GE240.out | refine pS ?_ GE251.out | refine pS ?_ GE268.out) | exact HB.out)⟩⟩
   ·
    replace c61 := Bool.eq_false_iff.mpr c61
    subst c61
    have H1 : (if t221 = (-1) then (if (!(t228 == 2) || (!(t229 == 1) || (!(t230.toList == ([] : List UInt8))))) = true then (unisonlaw01_awake.j0 k t250 t267 t269 t270 true t247 t248 t249 t264 t265 t266) else (if t231 = 0 then (if (!(t236 == 2) || (!(t237 == 0) || (!(t238.toList == ([] : List UInt8))))) = true then (unisonlaw01_awake.j0 k t250 t267 t269 t270 true t247 t248 t249 t264 t265 t266) else (unisonlaw01_awake.j0 k t250 t267 t269 t270 (t239 != 0) t247 t248 t249 t264 t265 t266)) else (unisonlaw01_awake.j0 k t250 t267 t269 t270 true t247 t248 t249 t264 t265 t266))) else (unisonlaw01_awake.j0 k t250 t267 t269 t270 true t247 t248 t249 t264 t265 t266)) = some r := by rw [if_neg (show ¬ (false = true) by decide)] at H; exact H
    clear H
    have H := H1
    clear H1
    by_cases c62 : t221 = (-1)
    ·
     rw [if_pos c62] at H
     have c62b0 : (t221 == (-1)) = true := beq_iff_eq.mpr c62
     have c62b1 : (t221 != (-1)) = false := bne_eq_false_iff_eq.mpr c62
     clear c62
     (first | rw [c62b0] | (simp only [i64_w, i32_w, u8_w, u32_w]; rw [c62b0]) | rw [c62b1] | skip)
     by_cases c63 : (!(t228 == 2) || (!(t229 == 1) || (!(t230.toList == ([] : List UInt8))))) = true
     ·
      rw [if_pos c63] at H
      have c63b0 : (!(t228 == 2) || (!(t229 == 1) || (!(t230.toList == ([] : List UInt8))))) = true := c63
      (try (have c63b1 : (!(t228 == 2) || (!(t229 == 1) || (!(t230.toList.isEmpty)))) = true := by simpa using c63))
      clear c63
      have H' := Aside0.mk H
      clear H
      have hnb64 := NB232_240.out
      have hnc64 := NB240_232.out
      have hnb65 := NB232_251.out
      have hnc65 := NB251_232.out
      have hnb66 := NB232_268.out
      have hnc66 := NB268_232.out
      have hcz67_0 : w59.cell? ⟨gb232, 0, none⟩ = some (.int .i64 t228) := (blk_cell BK232.out 0).trans rfl
      have hcz67_1 : w59.cell? ⟨gb232, 1, none⟩ = some (.int .i64 t229) := (blk_cell BK232.out 1).trans rfl
      have hcz67_2 : w59.cell? ⟨gb232, 2, none⟩ = some (.string t230) := (blk_cell BK232.out 2).trans rfl
      have hfz67_0 := blk_frozen BK232.out 0
      have hfz67_1 := blk_frozen BK232.out 1
      have hfz67_2 := blk_frozen BK232.out 2
      go_wp2
      go_meet
      case rel => exact ⟨_, (true), (by first | rfl | (simp; done) | (simp [*]; done)), H', ⟨by first | omega | exact Nat.le_refl _⟩, ⟨by (with_reducible repeat first | apply bN | apply bD | apply bA); exact BK232.out⟩, ⟨by (with_reducible repeat first | apply bN | apply bD | apply bA); exact BK240.out⟩, ⟨by (with_reducible repeat first | apply bN | apply bD | apply bA); exact BK251.out⟩, ⟨by (with_reducible repeat first | apply bN | apply bD | apply bA); exact BK268.out⟩, ⟨by repeat (first | (with_reducible first | exact HB.out | apply pA | apply pN | apply pD | refine pS ?_ GE232.out | refine pS ?_ GE240.out | refine pS ?_ GE251.out | refine pS ?_ GE268.out) | exact HB.out)⟩⟩
     ·
      rw [if_neg c63] at H
      have c63b0 : (!(t228 == 2) || (!(t229 == 1) || (!(t230.toList == ([] : List UInt8))))) = false := by simpa using c63
      (try (have c63b1 : (!(t228 == 2) || (!(t229 == 1) || (!(t230.toList.isEmpty)))) = false := by simpa using c63))
      clear c63
      by_cases c68 : t231 = 0
      ·
       rw [if_pos c68] at H
       have c68b0 : (t231 == 0) = true := beq_iff_eq.mpr c68
       have c68b1 : (t231 != 0) = false := bne_eq_false_iff_eq.mpr c68
       clear c68
       by_cases c69 : (!(t236 == 2) || (!(t237 == 0) || (!(t238.toList == ([] : List UInt8))))) = true
       ·
        rw [if_pos c69] at H
        have c69b0 : (!(t236 == 2) || (!(t237 == 0) || (!(t238.toList == ([] : List UInt8))))) = true := c69
        (try (have c69b1 : (!(t236 == 2) || (!(t237 == 0) || (!(t238.toList.isEmpty)))) = true := by simpa using c69))
        clear c69
        have H' := Aside0.mk H
        clear H
        have hnb70 := NB232_240.out
        have hnc70 := NB240_232.out
        have hnb71 := NB232_251.out
        have hnc71 := NB251_232.out
        have hnb72 := NB232_268.out
        have hnc72 := NB268_232.out
        have hcz73_0 : w59.cell? ⟨gb232, 0, none⟩ = some (.int .i64 t228) := (blk_cell BK232.out 0).trans rfl
        have hcz73_1 : w59.cell? ⟨gb232, 1, none⟩ = some (.int .i64 t229) := (blk_cell BK232.out 1).trans rfl
        have hcz73_2 : w59.cell? ⟨gb232, 2, none⟩ = some (.string t230) := (blk_cell BK232.out 2).trans rfl
        have hfz73_0 := blk_frozen BK232.out 0
        have hfz73_1 := blk_frozen BK232.out 1
        have hfz73_2 := blk_frozen BK232.out 2
        have hnb74 := NB240_251.out
        have hnc74 := NB251_240.out
        have hnb75 := NB240_268.out
        have hnc75 := NB268_240.out
        have hcz76_0 : w59.cell? ⟨gb240, 0, none⟩ = some (.int .i64 t236) := (blk_cell BK240.out 0).trans rfl
        have hcz76_1 : w59.cell? ⟨gb240, 1, none⟩ = some (.int .i64 t237) := (blk_cell BK240.out 1).trans rfl
        have hcz76_2 : w59.cell? ⟨gb240, 2, none⟩ = some (.string t238) := (blk_cell BK240.out 2).trans rfl
        have hfz76_0 := blk_frozen BK240.out 0
        have hfz76_1 := blk_frozen BK240.out 1
        have hfz76_2 := blk_frozen BK240.out 2
        go_wp2
        go_meet
        case rel => exact ⟨_, (true), (by first | rfl | (simp; done) | (simp [*]; done)), H', ⟨by first | omega | exact Nat.le_refl _⟩, ⟨by (with_reducible repeat first | apply bN | apply bD | apply bA); exact BK232.out⟩, ⟨by (with_reducible repeat first | apply bN | apply bD | apply bA); exact BK240.out⟩, ⟨by (with_reducible repeat first | apply bN | apply bD | apply bA); exact BK251.out⟩, ⟨by (with_reducible repeat first | apply bN | apply bD | apply bA); exact BK268.out⟩, ⟨by repeat (first | (with_reducible first | exact HB.out | apply pA | apply pN | apply pD | refine pS ?_ GE232.out | refine pS ?_ GE240.out | refine pS ?_ GE251.out | refine pS ?_ GE268.out) | exact HB.out)⟩⟩
       ·
        rw [if_neg c69] at H
        have c69b0 : (!(t236 == 2) || (!(t237 == 0) || (!(t238.toList == ([] : List UInt8))))) = false := by simpa using c69
        (try (have c69b1 : (!(t236 == 2) || (!(t237 == 0) || (!(t238.toList.isEmpty)))) = false := by simpa using c69))
        clear c69
        have H' := Aside0.mk H
        clear H
        have hnb77 := NB232_240.out
        have hnc77 := NB240_232.out
        have hnb78 := NB232_251.out
        have hnc78 := NB251_232.out
        have hnb79 := NB232_268.out
        have hnc79 := NB268_232.out
        have hcz80_0 : w59.cell? ⟨gb232, 0, none⟩ = some (.int .i64 t228) := (blk_cell BK232.out 0).trans rfl
        have hcz80_1 : w59.cell? ⟨gb232, 1, none⟩ = some (.int .i64 t229) := (blk_cell BK232.out 1).trans rfl
        have hcz80_2 : w59.cell? ⟨gb232, 2, none⟩ = some (.string t230) := (blk_cell BK232.out 2).trans rfl
        have hfz80_0 := blk_frozen BK232.out 0
        have hfz80_1 := blk_frozen BK232.out 1
        have hfz80_2 := blk_frozen BK232.out 2
        have hnb81 := NB240_251.out
        have hnc81 := NB251_240.out
        have hnb82 := NB240_268.out
        have hnc82 := NB268_240.out
        have hcz83_0 : w59.cell? ⟨gb240, 0, none⟩ = some (.int .i64 t236) := (blk_cell BK240.out 0).trans rfl
        have hcz83_1 : w59.cell? ⟨gb240, 1, none⟩ = some (.int .i64 t237) := (blk_cell BK240.out 1).trans rfl
        have hcz83_2 : w59.cell? ⟨gb240, 2, none⟩ = some (.string t238) := (blk_cell BK240.out 2).trans rfl
        have hfz83_0 := blk_frozen BK240.out 0
        have hfz83_1 := blk_frozen BK240.out 1
        have hfz83_2 := blk_frozen BK240.out 2
        go_wp2
        go_meet
        case rel => exact ⟨_, ((t239 != 0)), (by first | rfl | (simp; done) | (simp [*]; done)), H', ⟨by first | omega | exact Nat.le_refl _⟩, ⟨by (with_reducible repeat first | apply bN | apply bD | apply bA); exact BK232.out⟩, ⟨by (with_reducible repeat first | apply bN | apply bD | apply bA); exact BK240.out⟩, ⟨by (with_reducible repeat first | apply bN | apply bD | apply bA); exact BK251.out⟩, ⟨by (with_reducible repeat first | apply bN | apply bD | apply bA); exact BK268.out⟩, ⟨by repeat (first | (with_reducible first | exact HB.out | apply pA | apply pN | apply pD | refine pS ?_ GE232.out | refine pS ?_ GE240.out | refine pS ?_ GE251.out | refine pS ?_ GE268.out) | exact HB.out)⟩⟩
      ·
       rw [if_neg c68] at H
       have c68b0 : (t231 == 0) = false := beq_eq_false_iff_ne.mpr c68
       have c68b1 : (t231 != 0) = true := bne_iff_ne.mpr c68
       have H' := Aside0.mk H
       clear H
       have hnb84 := NB232_240.out
       have hnc84 := NB240_232.out
       have hnb85 := NB232_251.out
       have hnc85 := NB251_232.out
       have hnb86 := NB232_268.out
       have hnc86 := NB268_232.out
       have hcz87_0 : w59.cell? ⟨gb232, 0, none⟩ = some (.int .i64 t228) := (blk_cell BK232.out 0).trans rfl
       have hcz87_1 : w59.cell? ⟨gb232, 1, none⟩ = some (.int .i64 t229) := (blk_cell BK232.out 1).trans rfl
       have hcz87_2 : w59.cell? ⟨gb232, 2, none⟩ = some (.string t230) := (blk_cell BK232.out 2).trans rfl
       have hfz87_0 := blk_frozen BK232.out 0
       have hfz87_1 := blk_frozen BK232.out 1
       have hfz87_2 := blk_frozen BK232.out 2
       go_wp2
       go_meet
       case rel => exact ⟨_, (true), (by first | rfl | (simp; done) | (simp [*]; done)), H', ⟨by first | omega | exact Nat.le_refl _⟩, ⟨by (with_reducible repeat first | apply bN | apply bD | apply bA); exact BK232.out⟩, ⟨by (with_reducible repeat first | apply bN | apply bD | apply bA); exact BK240.out⟩, ⟨by (with_reducible repeat first | apply bN | apply bD | apply bA); exact BK251.out⟩, ⟨by (with_reducible repeat first | apply bN | apply bD | apply bA); exact BK268.out⟩, ⟨by repeat (first | (with_reducible first | exact HB.out | apply pA | apply pN | apply pD | refine pS ?_ GE232.out | refine pS ?_ GE240.out | refine pS ?_ GE251.out | refine pS ?_ GE268.out) | exact HB.out)⟩⟩
    ·
     rw [if_neg c62] at H
     have c62b0 : (t221 == (-1)) = false := beq_eq_false_iff_ne.mpr c62
     have c62b1 : (t221 != (-1)) = true := bne_iff_ne.mpr c62
     (first | rw [c62b0] | (simp only [i64_w, i32_w, u8_w, u32_w]; rw [c62b0]) | rw [c62b1] | skip)
     have H' := Aside0.mk H
     clear H
     go_wp2
     go_meet
     case rel => exact ⟨_, (true), (by first | rfl | (simp; done) | (simp [*]; done)), H', ⟨by first | omega | exact Nat.le_refl _⟩, ⟨by (with_reducible repeat first | apply bN | apply bD | apply bA); exact BK232.out⟩, ⟨by (with_reducible repeat first | apply bN | apply bD | apply bA); exact BK240.out⟩, ⟨by (with_reducible repeat first | apply bN | apply bD | apply bA); exact BK251.out⟩, ⟨by (with_reducible repeat first | apply bN | apply bD | apply bA); exact BK268.out⟩, ⟨by repeat (first | (with_reducible first | exact HB.out | apply pA | apply pN | apply pD | refine pS ?_ GE232.out | refine pS ?_ GE240.out | refine pS ?_ GE251.out | refine pS ?_ GE268.out) | exact HB.out)⟩⟩
  ·
   replace c60 := Bool.eq_false_iff.mpr c60
   subst c60
   have H1 : (unisonlaw01_awake.j0 k t250 t267 t269 t270 true t247 t248 t249 t264 t265 t266) = some r := by rw [if_neg (show ¬ (false = true) by decide)] at H; exact H
   clear H
   have H := H1
   clear H1
   have H' := Aside0.mk H
   clear H
   go_wp2
   go_meet
   case rel => exact ⟨_, (true), (by first | rfl | (simp; done) | (simp [*]; done)), H', ⟨by first | omega | exact Nat.le_refl _⟩, ⟨by (with_reducible repeat first | apply bN | apply bD | apply bA); exact BK232.out⟩, ⟨by (with_reducible repeat first | apply bN | apply bD | apply bA); exact BK240.out⟩, ⟨by (with_reducible repeat first | apply bN | apply bD | apply bA); exact BK251.out⟩, ⟨by (with_reducible repeat first | apply bN | apply bD | apply bA); exact BK268.out⟩, ⟨by repeat (first | (with_reducible first | exact HB.out | apply pA | apply pN | apply pD | refine pS ?_ GE232.out | refine pS ?_ GE240.out | refine pS ?_ GE251.out | refine pS ?_ GE268.out) | exact HB.out)⟩⟩
 case rest =>
  clear HC18
  try clear c1
  try clear c2
  try clear p2
  try clear c3
  try clear c4
  try clear c5
  try clear c6
  try clear c7
  try clear c8
  try clear c12
  try clear c13
  try clear c15
  try clear c17
  try clear c20
  try clear c23
  try clear c28
  try clear c34
  try clear c35
  try clear c38
  try clear c42
  try clear c43
  try clear c54
  try clear c55
  try clear c56
  try clear c60
  try clear c61
  try clear c62
  try clear c62b0
  try clear c62b1
  try clear c63
  try clear c63b0
  try clear c63b1
  try clear c64
  try clear c65
  try clear c66
  try clear c68
  try clear c68b0
  try clear c68b1
  try clear c69
  try clear c69b0
  try clear c69b1
  try clear c70
  try clear c71
  try clear c72
  try clear c74
  try clear c75
  try clear c77
  try clear c78
  try clear c79
  try clear c81
  try clear c82
  try clear c84
  try clear c85
  try clear c86
  try clear hcz28_0
  try clear hcz28_1
  try clear hcz28_2
  try clear hcz36_0
  try clear hcz36_1
  try clear hcz36_2
  try clear hcz44_0
  try clear hcz44_1
  try clear hcz44_2
  try clear hcz57_0
  try clear hcz57_1
  try clear hcz57_2
  try clear hcz67_0
  try clear hcz67_1
  try clear hcz67_2
  try clear hcz73_0
  try clear hcz73_1
  try clear hcz73_2
  try clear hcz76_0
  try clear hcz76_1
  try clear hcz76_2
  try clear hcz80_0
  try clear hcz80_1
  try clear hcz80_2
  try clear hcz83_0
  try clear hcz83_1
  try clear hcz83_2
  try clear hcz87_0
  try clear hcz87_1
  try clear hcz87_2
  try clear hfz28_0
  try clear hfz28_1
  try clear hfz28_2
  try clear hfz36_0
  try clear hfz36_1
  try clear hfz36_2
  try clear hfz44_0
  try clear hfz44_1
  try clear hfz44_2
  try clear hfz57_0
  try clear hfz57_1
  try clear hfz57_2
  try clear hfz67_0
  try clear hfz67_1
  try clear hfz67_2
  try clear hfz73_0
  try clear hfz73_1
  try clear hfz73_2
  try clear hfz76_0
  try clear hfz76_1
  try clear hfz76_2
  try clear hfz80_0
  try clear hfz80_1
  try clear hfz80_2
  try clear hfz83_0
  try clear hfz83_1
  try clear hfz83_2
  try clear hfz87_0
  try clear hfz87_1
  try clear hfz87_2
  obtain ⟨kq, x79_17, rfl, HA, HJ17, BK232, BK240, BK251, BK268, HB⟩ := hcut
  cases kq with
  | zero => exact absurd HA.out (by simp [unisonlaw01_awake.j0])
  | succ kj17 =>
   have H := HA.out
   clear HA
   simp only [unisonlaw01_awake.j0] at H
   by_cases c88 : x79_17 = true
   ·
    subst c88
    have H1 : (some false) = some r := by (first | rw [if_pos rfl] at H | rw [if_pos True.intro] at H | skip); exact H
    clear H
    have H := H1
    clear H1
    obtain rfl := Option.some.inj H
    go_wp2
    go_ret
    exact ⟨by first | (simp only [ByteArray.size_extract, Nat.min_self]; rfl) | rfl | (simp [errW_none, errW_some] <;> rfl) | (simp [*, errW_none, errW_some] <;> rfl), by repeat (first | (with_reducible first | exact HB.out | apply pA | apply pN | apply pD | refine pS ?_ GE232.out | refine pS ?_ GE240.out | refine pS ?_ GE251.out | refine pS ?_ GE268.out) | exact HB.out)⟩
   ·
    replace c88 := Bool.eq_false_iff.mpr c88
    subst c88
    have H1 : ((unisonlaw01_number.f (-3)).bind fun bt271 => (if (t247 == bt271.1 && (t248 == bt271.2.1 && (t249.toList == bt271.2.2.toList))) = true then (if t250 = 0 then ((unisonlaw01_number.f 4611686018427387904).bind fun bt274 => (if (t264 == bt274.1 && (t265 == bt274.2.1 && (t266.toList == bt274.2.2.toList))) = true then (if t267 = 0 then (if t269.toList = ([39, 105, 116, 39, 39, 115, 39] : List UInt8) then (some (t270 == 0)) else (some false)) else (some false)) else (some false))) else (some false)) else (some false))) = some r := by rw [if_neg (show ¬ (false = true) by decide)] at H; exact H
    clear H
    have H := H1
    clear H1
    replace H := Option.bind_eq_some_iff.mp H
    obtain ⟨⟨t271, t272, t273⟩, A890, H⟩ := H
    replace H : (if (t247 == t271 && (t248 == t272 && (t249.toList == t273.toList))) = true then (if t250 = 0 then ((unisonlaw01_number.f 4611686018427387904).bind fun bt274 => (if (t264 == bt274.1 && (t265 == bt274.2.1 && (t266.toList == bt274.2.2.toList))) = true then (if t267 = 0 then (if t269.toList = ([39, 105, 116, 39, 39, 115, 39] : List UInt8) then (some (t270 == 0)) else (some false)) else (some false)) else (some false))) else (some false)) else (some false)) = some r := H
    have A89 := Aside0.mk A890
    clear A890
    by_cases c90 : (t247 == t271 && (t248 == t272 && (t249.toList == t273.toList))) = true
    ·
     rw [if_pos c90] at H
     have c90b0 : (t247 == t271 && (t248 == t272 && (t249.toList == t273.toList))) = true := c90
     (try (have c90b1 : decide (t247 = t271 && (t248 == t272 && (t249.toList == t273.toList))) = true := by simpa using c90))
     (try (have c90b2 : (t247 == t271 && (t248 == t272 && (t249.toList == t273.toList))) = true := by simpa using c90))
     clear c90
     by_cases c91 : t250 = 0
     ·
      rw [if_pos c91] at H
      have c91b0 : (t250 == 0) = true := beq_iff_eq.mpr c91
      have c91b1 : (t250 != 0) = false := bne_eq_false_iff_eq.mpr c91
      clear c91
      replace H := Option.bind_eq_some_iff.mp H
      obtain ⟨⟨t274, t275, t276⟩, A920, H⟩ := H
      replace H : (if (t264 == t274 && (t265 == t275 && (t266.toList == t276.toList))) = true then (if t267 = 0 then (if t269.toList = ([39, 105, 116, 39, 39, 115, 39] : List UInt8) then (some (t270 == 0)) else (some false)) else (some false)) else (some false)) = some r := H
      have A92 := Aside0.mk A920
      clear A920
      by_cases c93 : (t264 == t274 && (t265 == t275 && (t266.toList == t276.toList))) = true
      ·
       rw [if_pos c93] at H
       have c93b0 : (t264 == t274 && (t265 == t275 && (t266.toList == t276.toList))) = true := c93
       (try (have c93b1 : decide (t264 = t274 && (t265 == t275 && (t266.toList == t276.toList))) = true := by simpa using c93))
       (try (have c93b2 : (t264 == t274 && (t265 == t275 && (t266.toList == t276.toList))) = true := by simpa using c93))
       clear c93
       by_cases c94 : t267 = 0
       ·
        rw [if_pos c94] at H
        have c94b0 : (t267 == 0) = true := beq_iff_eq.mpr c94
        have c94b1 : (t267 != 0) = false := bne_eq_false_iff_eq.mpr c94
        clear c94
        by_cases c95 : t269.toList = ([39, 105, 116, 39, 39, 115, 39] : List UInt8)
        ·
         rw [if_pos c95] at H
         have c95b0 : (t269.toList == ([39, 105, 116, 39, 39, 115, 39] : List UInt8)) = true := beq_iff_eq.mpr c95
         have c95b1 : (t269.toList != ([39, 105, 116, 39, 39, 115, 39] : List UInt8)) = false := bne_eq_false_iff_eq.mpr c95
         clear c95
         obtain rfl := Option.some.inj H
         try go_wp2
         have n0_ := Aside0.mk (blk_drew BK232.out)
         have n1_ := Aside0.mk (blk_drew BK240.out)
         have n2_ := Aside0.mk (blk_drew BK251.out)
         have n3_ := Aside0.mk (blk_drew BK268.out)
         have n4_ := Aside0.mk (below_drew1 HB.out)
         clear BK232
         clear BK240
         clear BK251
         clear BK268
         clear HB
         have BK232 := n0_
         have BK240 := n1_
         have BK251 := n2_
         have BK268 := n3_
         have HB := n4_
         clear n0_ n1_ n2_ n3_ n4_
         refine start_ (n := 25) (S := fun w' => w'.cell? ⟨gb251, 0, none⟩ = some (.int .i64 t247) ∧ w'.cell? ⟨gb251, 1, none⟩ = some (.int .i64 t248) ∧ w'.cell? ⟨gb251, 2, none⟩ = some (.string t249) ∧ w'.cell? ⟨gb268, 0, none⟩ = some (.int .i64 t264) ∧ w'.cell? ⟨gb268, 1, none⟩ = some (.int .i64 t265) ∧ w'.cell? ⟨gb268, 2, none⟩ = some (.string t266)) (ds := []) #[false, false, false, false, false, false, false, false, false, false, false, false, false, false, false, false, false, false, false, false, false, false, false, false, false] (by kernel_rfl) rfl rfl ⟨(blk_cell BK251.out 0).trans rfl, (blk_cell BK251.out 1).trans rfl, (blk_cell BK251.out 2).trans rfl, (blk_cell BK268.out 0).trans rfl, (blk_cell BK268.out 1).trans rfl, (blk_cell BK268.out 2).trans rfl⟩ (fun hHeld => ?_); refine with_tabW unisonlaw01_awake.tab11 unisonlaw01_awake.bits11 (fun HT_ HW_ => ?_)
         generalize wc.drew = w96 at BK232 BK240 BK251 BK268 HB hHeld ⊢
         refine take_ (i := 0) (N := some 80) (v := ?_) (a' := ?_) #[true, false, false, false, false, false, false, false, false, false, false, false, false, false, false, false, false, false, false, false, false, false, false, false, false] rfl rfl (take_ofW HT_.out HW_.out (by kernel_rfl)) (fun _ _ _ h => h) (Or.inl ⟨by rfl, ?_⟩) hHeld ?_ ?_
         rotate_left; focus (rintro w' ⟨s0, s1, s2, s3, s4, s5⟩; go_simp; with_reducible rfl; done)
         rotate_left; focus (simp only [Act.put, List.setIfInBounds_toArray, List.set_cons_zero, List.set_cons_succ, i64_w, i32_w, u8_w, u32_w]; rfl; done)
         refine one_ (i := 1) (N := some 81) #[true, true, false, false, false, false, false, false, false, false, false, false, false, false, false, false, false, false, false, false, false, false, false, false, false] rfl rfl (one_of HT_.out (by kernel_rfl)) (by decide) (fun K hK => ?_)
         refine goes_ Tryd.func38 (by kernel_rfl) rfl #[.int .i64 (-3)] (by rfl) rfl rfl (by (try simp only [List.map_toArray, List.map_cons, List.map_nil]); first | done | rfl | (simp only [List.length_drop, List.length_take]; rfl)) ?_
         with_reducible refine (unisonlaw01_number.calls (-3) t271 t272 t273 _ A89.out).mono ?_
         rintro e w97 ⟨rfl, hb⟩
         refine ⟨_, rfl, ?_⟩
         have n0_ := Aside0.mk (blk_below (g := gb232) (o := .cells #[.int .i64 t228, .int .i64 t229, .string t230] 23 (0, 0)) (by (with_reducible repeat first | apply bN | apply bD | apply bA); exact BK232.out) hb)
         have n1_ := Aside0.mk (blk_below (g := gb240) (o := .cells #[.int .i64 t236, .int .i64 t237, .string t238] 23 (0, 0)) (by (with_reducible repeat first | apply bN | apply bD | apply bA); exact BK240.out) hb)
         have n2_ := Aside0.mk (blk_below (g := gb251) (o := .cells #[.int .i64 t247, .int .i64 t248, .string t249] 23 (0, 0)) (by (with_reducible repeat first | apply bN | apply bD | apply bA); exact BK251.out) hb)
         have n3_ := Aside0.mk (blk_below (g := gb268) (o := .cells #[.int .i64 t264, .int .i64 t265, .string t266] 23 (0, 0)) (by (with_reducible repeat first | apply bN | apply bD | apply bA); exact BK268.out) hb)
         have n4_ := Aside0.mk (below_step (by repeat (first | (with_reducible first | exact HB.out | apply pA | apply pN | apply pD | refine pS ?_ GE232.out | refine pS ?_ GE240.out | refine pS ?_ GE251.out | refine pS ?_ GE268.out) | exact HB.out)) hb)
         clear BK232
         clear BK240
         clear BK251
         clear BK268
         clear HB
         have BK232 := n0_
         have BK240 := n1_
         have BK251 := n2_
         have BK268 := n3_
         have HB := n4_
         clear n0_ n1_ n2_ n3_ n4_
         (try clear hb)
         (try clear hb2)
         (try clear hk)
         (try clear hi)
         refine hK.out _ _ ⟨(blk_cell BK251.out 0).trans rfl, (blk_cell BK251.out 1).trans rfl, (blk_cell BK251.out 2).trans rfl, (blk_cell BK268.out 0).trans rfl, (blk_cell BK268.out 1).trans rfl, (blk_cell BK268.out 2).trans rfl⟩ (fun hHeld => ?_)
         clear hK K
         refine norm_ (a' := ?_) ?_ ?_
         rotate_left; focus (show Act.put _ (some 81) _ = _; simp only [Act.put, List.setIfInBounds_toArray, List.set_cons_zero, List.set_cons_succ, i64_w, i32_w, u8_w, u32_w]; rfl; done)
         refine pure_ (i := 2) (N := some 82) (v := ?_) (a' := ?_) #[true, true, true, false, false, false, false, false, false, false, false, false, false, false, false, false, false, false, false, false, false, false, false, false, false] rfl rfl (any_of HT_.out (by kernel_rfl)) (fun _ _ _ h => h) (Or.inl ⟨by rfl, ?_⟩) ?_ ?_
         rotate_left; focus (intro w'; go_simp; with_reducible rfl; done)
         rotate_left; focus (simp only [Act.put, List.setIfInBounds_toArray, List.set_cons_zero, List.set_cons_succ, i64_w, i32_w, u8_w, u32_w]; rfl; done)
         refine pure_ (i := 3) (N := some 83) (v := ?_) (a' := ?_) #[true, true, true, true, false, false, false, false, false, false, false, false, false, false, false, false, false, false, false, false, false, false, false, false, false] rfl rfl (any_of HT_.out (by kernel_rfl)) (fun _ _ _ h => h) (Or.inl ⟨by rfl, ?_⟩) ?_ ?_
         rotate_left; focus (intro w'; go_simp; with_reducible rfl; done)
         rotate_left; focus (simp only [Act.put, List.setIfInBounds_toArray, List.set_cons_zero, List.set_cons_succ, i64_w, i32_w, u8_w, u32_w]; rfl; done)
         refine pure_ (i := 4) (N := some 84) (v := ?_) (a' := ?_) #[true, true, true, true, true, false, false, false, false, false, false, false, false, false, false, false, false, false, false, false, false, false, false, false, false] rfl rfl (any_of HT_.out (by kernel_rfl)) (fun _ _ _ h => h) (Or.inl ⟨by rfl, ?_⟩) ?_ ?_
         rotate_left; focus (intro w'; go_simp; with_reducible rfl; done)
         rotate_left; focus (simp only [Act.put, List.setIfInBounds_toArray, List.set_cons_zero, List.set_cons_succ, i64_w, i32_w, u8_w, u32_w]; rfl; done)
         refine pure_ (i := 5) (N := some 85) (v := ?_) (a' := ?_) #[true, true, true, true, true, true, false, false, false, false, false, false, false, false, false, false, false, false, false, false, false, false, false, false, false] rfl rfl (any_of HT_.out (by kernel_rfl)) (fun _ _ _ h => h) (Or.inl ⟨by rfl, ?_⟩) ?_ ?_
         rotate_left; focus (intro w'; go_simp; with_reducible rfl; done)
         rotate_left; focus (simp only [Act.put, List.setIfInBounds_toArray, List.set_cons_zero, List.set_cons_succ, i64_w, i32_w, u8_w, u32_w]; rfl; done)
         refine pure_ (i := 6) (N := some 86) (v := ?_) (a' := ?_) #[true, true, true, true, true, true, true, false, false, false, false, false, false, false, false, false, false, false, false, false, false, false, false, false, false] rfl rfl (any_of HT_.out (by kernel_rfl)) (fun _ _ _ h => h) (Or.inl ⟨by rfl, ?_⟩) ?_ ?_
         rotate_left; focus (intro w'; go_simp; with_reducible rfl; done)
         rotate_left; focus (simp only [Act.put, List.setIfInBounds_toArray, List.set_cons_zero, List.set_cons_succ, i64_w, i32_w, u8_w, u32_w]; rfl; done)
         refine pure_ (i := 7) (N := some 87) (v := ?_) (a' := ?_) #[true, true, true, true, true, true, true, true, false, false, false, false, false, false, false, false, false, false, false, false, false, false, false, false, false] rfl rfl (any_of HT_.out (by kernel_rfl)) (fun _ _ _ h => h) (Or.inl ⟨by rfl, ?_⟩) ?_ ?_
         rotate_left; focus (intro w'; go_simp; with_reducible rfl; done)
         rotate_left; focus (simp only [Act.put, List.setIfInBounds_toArray, List.set_cons_zero, List.set_cons_succ, i64_w, i32_w, u8_w, u32_w]; rfl; done)
         refine take_ (i := 8) (N := some 88) (v := ?_) (a' := ?_) #[true, true, true, true, true, true, true, true, true, false, false, false, false, false, false, false, false, false, false, false, false, false, false, false, false] rfl rfl (take_ofW HT_.out HW_.out (by kernel_rfl)) (fun _ _ _ h => h) (Or.inl ⟨by rfl, ?_⟩) hHeld ?_ ?_
         rotate_left; focus (rintro w' ⟨s0, s1, s2, s3, s4, s5⟩; go_simp; with_reducible rfl; done)
         rotate_left; focus (simp only [Act.put, List.setIfInBounds_toArray, List.set_cons_zero, List.set_cons_succ, i64_w, i32_w, u8_w, u32_w]; rfl; done)
         refine one_ (i := 9) (N := some 89) #[true, true, true, true, true, true, true, true, true, true, false, false, false, false, false, false, false, false, false, false, false, false, false, false, false] rfl rfl (one_of HT_.out (by kernel_rfl)) (by decide) (fun K hK => ?_)
         refine goes_ Tryd.func38 (by kernel_rfl) rfl #[.int .i64 4611686018427387904] (by rfl) rfl rfl (by (try simp only [List.map_toArray, List.map_cons, List.map_nil]); first | done | rfl | (simp only [List.length_drop, List.length_take]; rfl)) ?_
         with_reducible refine (unisonlaw01_number.calls 4611686018427387904 t274 t275 t276 _ A92.out).mono ?_
         rintro e w98 ⟨rfl, hb⟩
         refine ⟨_, rfl, ?_⟩
         have n0_ := Aside0.mk (blk_below (g := gb232) (o := .cells #[.int .i64 t228, .int .i64 t229, .string t230] 23 (0, 0)) (by (with_reducible repeat first | apply bN | apply bD | apply bA); exact BK232.out) hb)
         have n1_ := Aside0.mk (blk_below (g := gb240) (o := .cells #[.int .i64 t236, .int .i64 t237, .string t238] 23 (0, 0)) (by (with_reducible repeat first | apply bN | apply bD | apply bA); exact BK240.out) hb)
         have n2_ := Aside0.mk (blk_below (g := gb251) (o := .cells #[.int .i64 t247, .int .i64 t248, .string t249] 23 (0, 0)) (by (with_reducible repeat first | apply bN | apply bD | apply bA); exact BK251.out) hb)
         have n3_ := Aside0.mk (blk_below (g := gb268) (o := .cells #[.int .i64 t264, .int .i64 t265, .string t266] 23 (0, 0)) (by (with_reducible repeat first | apply bN | apply bD | apply bA); exact BK268.out) hb)
         have n4_ := Aside0.mk (below_step (by repeat (first | (with_reducible first | exact HB.out | apply pA | apply pN | apply pD | refine pS ?_ GE232.out | refine pS ?_ GE240.out | refine pS ?_ GE251.out | refine pS ?_ GE268.out) | exact HB.out)) hb)
         clear BK232
         clear BK240
         clear BK251
         clear BK268
         clear HB
         have BK232 := n0_
         have BK240 := n1_
         have BK251 := n2_
         have BK268 := n3_
         have HB := n4_
         clear n0_ n1_ n2_ n3_ n4_
         (try clear hb)
         (try clear hb2)
         (try clear hk)
         (try clear hi)
         refine hK.out _ _ ⟨(blk_cell BK251.out 0).trans rfl, (blk_cell BK251.out 1).trans rfl, (blk_cell BK251.out 2).trans rfl, (blk_cell BK268.out 0).trans rfl, (blk_cell BK268.out 1).trans rfl, (blk_cell BK268.out 2).trans rfl⟩ (fun hHeld => ?_)
         clear hK K
         refine norm_ (a' := ?_) ?_ ?_
         rotate_left; focus (show Act.put _ (some 89) _ = _; simp only [Act.put, List.setIfInBounds_toArray, List.set_cons_zero, List.set_cons_succ, i64_w, i32_w, u8_w, u32_w]; rfl; done)
         refine pure_ (i := 10) (N := some 90) (v := ?_) (a' := ?_) #[true, true, true, true, true, true, true, true, true, true, true, false, false, false, false, false, false, false, false, false, false, false, false, false, false] rfl rfl (any_of HT_.out (by kernel_rfl)) (fun _ _ _ h => h) (Or.inl ⟨by rfl, ?_⟩) ?_ ?_
         rotate_left; focus (intro w'; go_simp; with_reducible rfl; done)
         rotate_left; focus (simp only [Act.put, List.setIfInBounds_toArray, List.set_cons_zero, List.set_cons_succ, i64_w, i32_w, u8_w, u32_w]; rfl; done)
         refine pure_ (i := 11) (N := some 91) (v := ?_) (a' := ?_) #[true, true, true, true, true, true, true, true, true, true, true, true, false, false, false, false, false, false, false, false, false, false, false, false, false] rfl rfl (any_of HT_.out (by kernel_rfl)) (fun _ _ _ h => h) (Or.inl ⟨by rfl, ?_⟩) ?_ ?_
         rotate_left; focus (intro w'; go_simp; with_reducible rfl; done)
         rotate_left; focus (simp only [Act.put, List.setIfInBounds_toArray, List.set_cons_zero, List.set_cons_succ, i64_w, i32_w, u8_w, u32_w]; rfl; done)
         refine pure_ (i := 12) (N := some 92) (v := ?_) (a' := ?_) #[true, true, true, true, true, true, true, true, true, true, true, true, true, false, false, false, false, false, false, false, false, false, false, false, false] rfl rfl (any_of HT_.out (by kernel_rfl)) (fun _ _ _ h => h) (Or.inl ⟨by rfl, ?_⟩) ?_ ?_
         rotate_left; focus (intro w'; go_simp; with_reducible rfl; done)
         rotate_left; focus (simp only [Act.put, List.setIfInBounds_toArray, List.set_cons_zero, List.set_cons_succ, i64_w, i32_w, u8_w, u32_w]; rfl; done)
         refine pure_ (i := 13) (N := some 93) (v := ?_) (a' := ?_) #[true, true, true, true, true, true, true, true, true, true, true, true, true, true, false, false, false, false, false, false, false, false, false, false, false] rfl rfl (any_of HT_.out (by kernel_rfl)) (fun _ _ _ h => h) (Or.inl ⟨by rfl, ?_⟩) ?_ ?_
         rotate_left; focus (intro w'; go_simp; with_reducible rfl; done)
         rotate_left; focus (simp only [Act.put, List.setIfInBounds_toArray, List.set_cons_zero, List.set_cons_succ, i64_w, i32_w, u8_w, u32_w]; rfl; done)
         refine pure_ (i := 14) (N := some 94) (v := ?_) (a' := ?_) #[true, true, true, true, true, true, true, true, true, true, true, true, true, true, true, false, false, false, false, false, false, false, false, false, false] rfl rfl (any_of HT_.out (by kernel_rfl)) (fun _ _ _ h => h) (Or.inl ⟨by rfl, ?_⟩) ?_ ?_
         rotate_left; focus (intro w'; go_simp; with_reducible rfl; done)
         rotate_left; focus (simp only [Act.put, List.setIfInBounds_toArray, List.set_cons_zero, List.set_cons_succ, i64_w, i32_w, u8_w, u32_w]; rfl; done)
         refine pure_ (i := 15) (N := some 95) (v := ?_) (a' := ?_) #[true, true, true, true, true, true, true, true, true, true, true, true, true, true, true, true, false, false, false, false, false, false, false, false, false] rfl rfl (any_of HT_.out (by kernel_rfl)) (fun _ _ _ h => h) (Or.inl ⟨by rfl, ?_⟩) ?_ ?_
         rotate_left; focus (intro w'; go_simp; with_reducible rfl; done)
         rotate_left; focus (simp only [Act.put, List.setIfInBounds_toArray, List.set_cons_zero, List.set_cons_succ, i64_w, i32_w, u8_w, u32_w]; rfl; done)
         refine pure_ (i := 16) (N := some 96) (v := ?_) (a' := ?_) #[true, true, true, true, true, true, true, true, true, true, true, true, true, true, true, true, true, false, false, false, false, false, false, false, false] rfl rfl (any_of HT_.out (by kernel_rfl)) (fun _ _ _ h => h) (Or.inl ⟨by rfl, ?_⟩) ?_ ?_
         rotate_left; focus (intro w'; go_simp; with_reducible rfl; done)
         rotate_left; focus (simp only [Act.put, List.setIfInBounds_toArray, List.set_cons_zero, List.set_cons_succ, i64_w, i32_w, u8_w, u32_w]; rfl; done)
         refine pure_ (i := 17) (N := some 97) (v := ?_) (a' := ?_) #[true, true, true, true, true, true, true, true, true, true, true, true, true, true, true, true, true, true, false, false, false, false, false, false, false] rfl rfl (any_of HT_.out (by kernel_rfl)) (fun _ _ _ h => h) (Or.inl ⟨by rfl, ?_⟩) ?_ ?_
         rotate_left; focus (intro w'; go_simp; with_reducible rfl; done)
         rotate_left; focus (simp only [Act.put, List.setIfInBounds_toArray, List.set_cons_zero, List.set_cons_succ, i64_w, i32_w, u8_w, u32_w]; rfl; done)
         refine pure_ (i := 18) (N := some 98) (v := ?_) (a' := ?_) #[true, true, true, true, true, true, true, true, true, true, true, true, true, true, true, true, true, true, true, false, false, false, false, false, false] rfl rfl (any_of HT_.out (by kernel_rfl)) (fun _ _ _ h => h) (Or.inl ⟨by rfl, ?_⟩) ?_ ?_
         rotate_left; focus (intro w'; go_simp; with_reducible rfl; done)
         rotate_left; focus (simp only [Act.put, List.setIfInBounds_toArray, List.set_cons_zero, List.set_cons_succ, i64_w, i32_w, u8_w, u32_w]; rfl; done)
         refine pure_ (i := 19) (N := some 99) (v := ?_) (a' := ?_) #[true, true, true, true, true, true, true, true, true, true, true, true, true, true, true, true, true, true, true, true, false, false, false, false, false] rfl rfl (any_of HT_.out (by kernel_rfl)) (fun _ _ _ h => h) (Or.inl ⟨by rfl, ?_⟩) ?_ ?_
         rotate_left; focus (intro w'; go_simp; with_reducible rfl; done)
         rotate_left; focus (simp only [Act.put, List.setIfInBounds_toArray, List.set_cons_zero, List.set_cons_succ, i64_w, i32_w, u8_w, u32_w]; rfl; done)
         refine pure_ (i := 20) (N := some 100) (v := ?_) (a' := ?_) #[true, true, true, true, true, true, true, true, true, true, true, true, true, true, true, true, true, true, true, true, true, false, false, false, false] rfl rfl (any_of HT_.out (by kernel_rfl)) (fun _ _ _ h => h) (Or.inl ⟨by rfl, ?_⟩) ?_ ?_
         rotate_left; focus (intro w'; go_simp; with_reducible rfl; done)
         rotate_left; focus (simp only [Act.put, List.setIfInBounds_toArray, List.set_cons_zero, List.set_cons_succ, i64_w, i32_w, u8_w, u32_w]; rfl; done)
         refine pure_ (i := 21) (N := some 101) (v := ?_) (a' := ?_) #[true, true, true, true, true, true, true, true, true, true, true, true, true, true, true, true, true, true, true, true, true, true, false, false, false] rfl rfl (any_of HT_.out (by kernel_rfl)) (fun _ _ _ h => h) (Or.inl ⟨by rfl, ?_⟩) ?_ ?_
         rotate_left; focus (intro w'; go_simp; with_reducible rfl; done)
         rotate_left; focus (simp only [Act.put, List.setIfInBounds_toArray, List.set_cons_zero, List.set_cons_succ, i64_w, i32_w, u8_w, u32_w]; rfl; done)
         refine pure_ (i := 22) (N := some 102) (v := ?_) (a' := ?_) #[true, true, true, true, true, true, true, true, true, true, true, true, true, true, true, true, true, true, true, true, true, true, true, false, false] rfl rfl (any_of HT_.out (by kernel_rfl)) (fun _ _ _ h => h) (Or.inl ⟨by rfl, ?_⟩) ?_ ?_
         rotate_left; focus (intro w'; go_simp; with_reducible rfl; done)
         rotate_left; focus (simp only [Act.put, List.setIfInBounds_toArray, List.set_cons_zero, List.set_cons_succ, i64_w, i32_w, u8_w, u32_w]; rfl; done)
         refine pure_ (i := 23) (N := some 103) (v := ?_) (a' := ?_) #[true, true, true, true, true, true, true, true, true, true, true, true, true, true, true, true, true, true, true, true, true, true, true, true, false] rfl rfl (any_of HT_.out (by kernel_rfl)) (fun _ _ _ h => h) (Or.inl ⟨by rfl, ?_⟩) ?_ ?_
         rotate_left; focus (intro w'; go_simp; with_reducible rfl; done)
         rotate_left; focus (simp only [Act.put, List.setIfInBounds_toArray, List.set_cons_zero, List.set_cons_succ, i64_w, i32_w, u8_w, u32_w]; rfl; done)
         refine pure_ (i := 24) (N := some 0) (v := ?_) (a' := ?_) #[true, true, true, true, true, true, true, true, true, true, true, true, true, true, true, true, true, true, true, true, true, true, true, true, true] rfl rfl (any_of HT_.out (by kernel_rfl)) (fun _ _ _ h => h) (Or.inl ⟨by rfl, ?_⟩) ?_ ?_
         rotate_left; focus (intro w'; go_simp; with_reducible rfl; done)
         rotate_left; focus (simp only [Act.put, List.setIfInBounds_toArray, List.set_cons_zero, List.set_cons_succ, i64_w, i32_w, u8_w, u32_w]; rfl; done)
         refine done_ (done_of HT_.out (by kernel_rfl)) ?_
         try go_wp2
         go_ret
         exact ⟨by first | (simp only [ByteArray.size_extract, Nat.min_self]; rfl) | rfl | (simp [errW_none, errW_some] <;> rfl) | (simp [*, errW_none, errW_some] <;> rfl), by repeat (first | (with_reducible first | exact HB.out | apply pA | apply pN | apply pD | refine pS ?_ GE232.out | refine pS ?_ GE240.out | refine pS ?_ GE251.out | refine pS ?_ GE268.out) | exact HB.out)⟩
        ·
         rw [if_neg c95] at H
         have c95b0 : (t269.toList == ([39, 105, 116, 39, 39, 115, 39] : List UInt8)) = false := beq_eq_false_iff_ne.mpr c95
         have c95b1 : (t269.toList != ([39, 105, 116, 39, 39, 115, 39] : List UInt8)) = true := bne_iff_ne.mpr c95
         obtain rfl := Option.some.inj H
         try go_wp2
         have n0_ := Aside0.mk (blk_drew BK232.out)
         have n1_ := Aside0.mk (blk_drew BK240.out)
         have n2_ := Aside0.mk (blk_drew BK251.out)
         have n3_ := Aside0.mk (blk_drew BK268.out)
         have n4_ := Aside0.mk (below_drew1 HB.out)
         clear BK232
         clear BK240
         clear BK251
         clear BK268
         clear HB
         have BK232 := n0_
         have BK240 := n1_
         have BK251 := n2_
         have BK268 := n3_
         have HB := n4_
         clear n0_ n1_ n2_ n3_ n4_
         refine start_ (n := 25) (S := fun w' => w'.cell? ⟨gb251, 0, none⟩ = some (.int .i64 t247) ∧ w'.cell? ⟨gb251, 1, none⟩ = some (.int .i64 t248) ∧ w'.cell? ⟨gb251, 2, none⟩ = some (.string t249) ∧ w'.cell? ⟨gb268, 0, none⟩ = some (.int .i64 t264) ∧ w'.cell? ⟨gb268, 1, none⟩ = some (.int .i64 t265) ∧ w'.cell? ⟨gb268, 2, none⟩ = some (.string t266)) (ds := []) #[false, false, false, false, false, false, false, false, false, false, false, false, false, false, false, false, false, false, false, false, false, false, false, false, false] (by kernel_rfl) rfl rfl ⟨(blk_cell BK251.out 0).trans rfl, (blk_cell BK251.out 1).trans rfl, (blk_cell BK251.out 2).trans rfl, (blk_cell BK268.out 0).trans rfl, (blk_cell BK268.out 1).trans rfl, (blk_cell BK268.out 2).trans rfl⟩ (fun hHeld => ?_); refine with_tabW unisonlaw01_awake.tab11 unisonlaw01_awake.bits11 (fun HT_ HW_ => ?_)
         generalize wc.drew = w99 at BK232 BK240 BK251 BK268 HB hHeld ⊢
         refine take_ (i := 0) (N := some 80) (v := ?_) (a' := ?_) #[true, false, false, false, false, false, false, false, false, false, false, false, false, false, false, false, false, false, false, false, false, false, false, false, false] rfl rfl (take_ofW HT_.out HW_.out (by kernel_rfl)) (fun _ _ _ h => h) (Or.inl ⟨by rfl, ?_⟩) hHeld ?_ ?_
         rotate_left; focus (rintro w' ⟨s0, s1, s2, s3, s4, s5⟩; go_simp; with_reducible rfl; done)
         rotate_left; focus (simp only [Act.put, List.setIfInBounds_toArray, List.set_cons_zero, List.set_cons_succ, i64_w, i32_w, u8_w, u32_w]; rfl; done)
         refine one_ (i := 1) (N := some 81) #[true, true, false, false, false, false, false, false, false, false, false, false, false, false, false, false, false, false, false, false, false, false, false, false, false] rfl rfl (one_of HT_.out (by kernel_rfl)) (by decide) (fun K hK => ?_)
         refine goes_ Tryd.func38 (by kernel_rfl) rfl #[.int .i64 (-3)] (by rfl) rfl rfl (by (try simp only [List.map_toArray, List.map_cons, List.map_nil]); first | done | rfl | (simp only [List.length_drop, List.length_take]; rfl)) ?_
         with_reducible refine (unisonlaw01_number.calls (-3) t271 t272 t273 _ A89.out).mono ?_
         rintro e w100 ⟨rfl, hb⟩
         refine ⟨_, rfl, ?_⟩
         have n0_ := Aside0.mk (blk_below (g := gb232) (o := .cells #[.int .i64 t228, .int .i64 t229, .string t230] 23 (0, 0)) (by (with_reducible repeat first | apply bN | apply bD | apply bA); exact BK232.out) hb)
         have n1_ := Aside0.mk (blk_below (g := gb240) (o := .cells #[.int .i64 t236, .int .i64 t237, .string t238] 23 (0, 0)) (by (with_reducible repeat first | apply bN | apply bD | apply bA); exact BK240.out) hb)
         have n2_ := Aside0.mk (blk_below (g := gb251) (o := .cells #[.int .i64 t247, .int .i64 t248, .string t249] 23 (0, 0)) (by (with_reducible repeat first | apply bN | apply bD | apply bA); exact BK251.out) hb)
         have n3_ := Aside0.mk (blk_below (g := gb268) (o := .cells #[.int .i64 t264, .int .i64 t265, .string t266] 23 (0, 0)) (by (with_reducible repeat first | apply bN | apply bD | apply bA); exact BK268.out) hb)
         have n4_ := Aside0.mk (below_step (by repeat (first | (with_reducible first | exact HB.out | apply pA | apply pN | apply pD | refine pS ?_ GE232.out | refine pS ?_ GE240.out | refine pS ?_ GE251.out | refine pS ?_ GE268.out) | exact HB.out)) hb)
         clear BK232
         clear BK240
         clear BK251
         clear BK268
         clear HB
         have BK232 := n0_
         have BK240 := n1_
         have BK251 := n2_
         have BK268 := n3_
         have HB := n4_
         clear n0_ n1_ n2_ n3_ n4_
         (try clear hb)
         (try clear hb2)
         (try clear hk)
         (try clear hi)
         refine hK.out _ _ ⟨(blk_cell BK251.out 0).trans rfl, (blk_cell BK251.out 1).trans rfl, (blk_cell BK251.out 2).trans rfl, (blk_cell BK268.out 0).trans rfl, (blk_cell BK268.out 1).trans rfl, (blk_cell BK268.out 2).trans rfl⟩ (fun hHeld => ?_)
         clear hK K
         refine norm_ (a' := ?_) ?_ ?_
         rotate_left; focus (show Act.put _ (some 81) _ = _; simp only [Act.put, List.setIfInBounds_toArray, List.set_cons_zero, List.set_cons_succ, i64_w, i32_w, u8_w, u32_w]; rfl; done)
         refine pure_ (i := 2) (N := some 82) (v := ?_) (a' := ?_) #[true, true, true, false, false, false, false, false, false, false, false, false, false, false, false, false, false, false, false, false, false, false, false, false, false] rfl rfl (any_of HT_.out (by kernel_rfl)) (fun _ _ _ h => h) (Or.inl ⟨by rfl, ?_⟩) ?_ ?_
         rotate_left; focus (intro w'; go_simp; with_reducible rfl; done)
         rotate_left; focus (simp only [Act.put, List.setIfInBounds_toArray, List.set_cons_zero, List.set_cons_succ, i64_w, i32_w, u8_w, u32_w]; rfl; done)
         refine pure_ (i := 3) (N := some 83) (v := ?_) (a' := ?_) #[true, true, true, true, false, false, false, false, false, false, false, false, false, false, false, false, false, false, false, false, false, false, false, false, false] rfl rfl (any_of HT_.out (by kernel_rfl)) (fun _ _ _ h => h) (Or.inl ⟨by rfl, ?_⟩) ?_ ?_
         rotate_left; focus (intro w'; go_simp; with_reducible rfl; done)
         rotate_left; focus (simp only [Act.put, List.setIfInBounds_toArray, List.set_cons_zero, List.set_cons_succ, i64_w, i32_w, u8_w, u32_w]; rfl; done)
         refine pure_ (i := 4) (N := some 84) (v := ?_) (a' := ?_) #[true, true, true, true, true, false, false, false, false, false, false, false, false, false, false, false, false, false, false, false, false, false, false, false, false] rfl rfl (any_of HT_.out (by kernel_rfl)) (fun _ _ _ h => h) (Or.inl ⟨by rfl, ?_⟩) ?_ ?_
         rotate_left; focus (intro w'; go_simp; with_reducible rfl; done)
         rotate_left; focus (simp only [Act.put, List.setIfInBounds_toArray, List.set_cons_zero, List.set_cons_succ, i64_w, i32_w, u8_w, u32_w]; rfl; done)
         refine pure_ (i := 5) (N := some 85) (v := ?_) (a' := ?_) #[true, true, true, true, true, true, false, false, false, false, false, false, false, false, false, false, false, false, false, false, false, false, false, false, false] rfl rfl (any_of HT_.out (by kernel_rfl)) (fun _ _ _ h => h) (Or.inl ⟨by rfl, ?_⟩) ?_ ?_
         rotate_left; focus (intro w'; go_simp; with_reducible rfl; done)
         rotate_left; focus (simp only [Act.put, List.setIfInBounds_toArray, List.set_cons_zero, List.set_cons_succ, i64_w, i32_w, u8_w, u32_w]; rfl; done)
         refine pure_ (i := 6) (N := some 86) (v := ?_) (a' := ?_) #[true, true, true, true, true, true, true, false, false, false, false, false, false, false, false, false, false, false, false, false, false, false, false, false, false] rfl rfl (any_of HT_.out (by kernel_rfl)) (fun _ _ _ h => h) (Or.inl ⟨by rfl, ?_⟩) ?_ ?_
         rotate_left; focus (intro w'; go_simp; with_reducible rfl; done)
         rotate_left; focus (simp only [Act.put, List.setIfInBounds_toArray, List.set_cons_zero, List.set_cons_succ, i64_w, i32_w, u8_w, u32_w]; rfl; done)
         refine pure_ (i := 7) (N := some 87) (v := ?_) (a' := ?_) #[true, true, true, true, true, true, true, true, false, false, false, false, false, false, false, false, false, false, false, false, false, false, false, false, false] rfl rfl (any_of HT_.out (by kernel_rfl)) (fun _ _ _ h => h) (Or.inl ⟨by rfl, ?_⟩) ?_ ?_
         rotate_left; focus (intro w'; go_simp; with_reducible rfl; done)
         rotate_left; focus (simp only [Act.put, List.setIfInBounds_toArray, List.set_cons_zero, List.set_cons_succ, i64_w, i32_w, u8_w, u32_w]; rfl; done)
         refine take_ (i := 8) (N := some 88) (v := ?_) (a' := ?_) #[true, true, true, true, true, true, true, true, true, false, false, false, false, false, false, false, false, false, false, false, false, false, false, false, false] rfl rfl (take_ofW HT_.out HW_.out (by kernel_rfl)) (fun _ _ _ h => h) (Or.inl ⟨by rfl, ?_⟩) hHeld ?_ ?_
         rotate_left; focus (rintro w' ⟨s0, s1, s2, s3, s4, s5⟩; go_simp; with_reducible rfl; done)
         rotate_left; focus (simp only [Act.put, List.setIfInBounds_toArray, List.set_cons_zero, List.set_cons_succ, i64_w, i32_w, u8_w, u32_w]; rfl; done)
         refine one_ (i := 9) (N := some 89) #[true, true, true, true, true, true, true, true, true, true, false, false, false, false, false, false, false, false, false, false, false, false, false, false, false] rfl rfl (one_of HT_.out (by kernel_rfl)) (by decide) (fun K hK => ?_)
         refine goes_ Tryd.func38 (by kernel_rfl) rfl #[.int .i64 4611686018427387904] (by rfl) rfl rfl (by (try simp only [List.map_toArray, List.map_cons, List.map_nil]); first | done | rfl | (simp only [List.length_drop, List.length_take]; rfl)) ?_
         with_reducible refine (unisonlaw01_number.calls 4611686018427387904 t274 t275 t276 _ A92.out).mono ?_
         rintro e w101 ⟨rfl, hb⟩
         refine ⟨_, rfl, ?_⟩
         have n0_ := Aside0.mk (blk_below (g := gb232) (o := .cells #[.int .i64 t228, .int .i64 t229, .string t230] 23 (0, 0)) (by (with_reducible repeat first | apply bN | apply bD | apply bA); exact BK232.out) hb)
         have n1_ := Aside0.mk (blk_below (g := gb240) (o := .cells #[.int .i64 t236, .int .i64 t237, .string t238] 23 (0, 0)) (by (with_reducible repeat first | apply bN | apply bD | apply bA); exact BK240.out) hb)
         have n2_ := Aside0.mk (blk_below (g := gb251) (o := .cells #[.int .i64 t247, .int .i64 t248, .string t249] 23 (0, 0)) (by (with_reducible repeat first | apply bN | apply bD | apply bA); exact BK251.out) hb)
         have n3_ := Aside0.mk (blk_below (g := gb268) (o := .cells #[.int .i64 t264, .int .i64 t265, .string t266] 23 (0, 0)) (by (with_reducible repeat first | apply bN | apply bD | apply bA); exact BK268.out) hb)
         have n4_ := Aside0.mk (below_step (by repeat (first | (with_reducible first | exact HB.out | apply pA | apply pN | apply pD | refine pS ?_ GE232.out | refine pS ?_ GE240.out | refine pS ?_ GE251.out | refine pS ?_ GE268.out) | exact HB.out)) hb)
         clear BK232
         clear BK240
         clear BK251
         clear BK268
         clear HB
         have BK232 := n0_
         have BK240 := n1_
         have BK251 := n2_
         have BK268 := n3_
         have HB := n4_
         clear n0_ n1_ n2_ n3_ n4_
         (try clear hb)
         (try clear hb2)
         (try clear hk)
         (try clear hi)
         refine hK.out _ _ ⟨(blk_cell BK251.out 0).trans rfl, (blk_cell BK251.out 1).trans rfl, (blk_cell BK251.out 2).trans rfl, (blk_cell BK268.out 0).trans rfl, (blk_cell BK268.out 1).trans rfl, (blk_cell BK268.out 2).trans rfl⟩ (fun hHeld => ?_)
         clear hK K
         refine norm_ (a' := ?_) ?_ ?_
         rotate_left; focus (show Act.put _ (some 89) _ = _; simp only [Act.put, List.setIfInBounds_toArray, List.set_cons_zero, List.set_cons_succ, i64_w, i32_w, u8_w, u32_w]; rfl; done)
         refine pure_ (i := 10) (N := some 90) (v := ?_) (a' := ?_) #[true, true, true, true, true, true, true, true, true, true, true, false, false, false, false, false, false, false, false, false, false, false, false, false, false] rfl rfl (any_of HT_.out (by kernel_rfl)) (fun _ _ _ h => h) (Or.inl ⟨by rfl, ?_⟩) ?_ ?_
         rotate_left; focus (intro w'; go_simp; with_reducible rfl; done)
         rotate_left; focus (simp only [Act.put, List.setIfInBounds_toArray, List.set_cons_zero, List.set_cons_succ, i64_w, i32_w, u8_w, u32_w]; rfl; done)
         refine pure_ (i := 11) (N := some 91) (v := ?_) (a' := ?_) #[true, true, true, true, true, true, true, true, true, true, true, true, false, false, false, false, false, false, false, false, false, false, false, false, false] rfl rfl (any_of HT_.out (by kernel_rfl)) (fun _ _ _ h => h) (Or.inl ⟨by rfl, ?_⟩) ?_ ?_
         rotate_left; focus (intro w'; go_simp; with_reducible rfl; done)
         rotate_left; focus (simp only [Act.put, List.setIfInBounds_toArray, List.set_cons_zero, List.set_cons_succ, i64_w, i32_w, u8_w, u32_w]; rfl; done)
         refine pure_ (i := 12) (N := some 92) (v := ?_) (a' := ?_) #[true, true, true, true, true, true, true, true, true, true, true, true, true, false, false, false, false, false, false, false, false, false, false, false, false] rfl rfl (any_of HT_.out (by kernel_rfl)) (fun _ _ _ h => h) (Or.inl ⟨by rfl, ?_⟩) ?_ ?_
         rotate_left; focus (intro w'; go_simp; with_reducible rfl; done)
         rotate_left; focus (simp only [Act.put, List.setIfInBounds_toArray, List.set_cons_zero, List.set_cons_succ, i64_w, i32_w, u8_w, u32_w]; rfl; done)
         refine pure_ (i := 13) (N := some 93) (v := ?_) (a' := ?_) #[true, true, true, true, true, true, true, true, true, true, true, true, true, true, false, false, false, false, false, false, false, false, false, false, false] rfl rfl (any_of HT_.out (by kernel_rfl)) (fun _ _ _ h => h) (Or.inl ⟨by rfl, ?_⟩) ?_ ?_
         rotate_left; focus (intro w'; go_simp; with_reducible rfl; done)
         rotate_left; focus (simp only [Act.put, List.setIfInBounds_toArray, List.set_cons_zero, List.set_cons_succ, i64_w, i32_w, u8_w, u32_w]; rfl; done)
         refine pure_ (i := 14) (N := some 94) (v := ?_) (a' := ?_) #[true, true, true, true, true, true, true, true, true, true, true, true, true, true, true, false, false, false, false, false, false, false, false, false, false] rfl rfl (any_of HT_.out (by kernel_rfl)) (fun _ _ _ h => h) (Or.inl ⟨by rfl, ?_⟩) ?_ ?_
         rotate_left; focus (intro w'; go_simp; with_reducible rfl; done)
         rotate_left; focus (simp only [Act.put, List.setIfInBounds_toArray, List.set_cons_zero, List.set_cons_succ, i64_w, i32_w, u8_w, u32_w]; rfl; done)
         refine pure_ (i := 15) (N := some 95) (v := ?_) (a' := ?_) #[true, true, true, true, true, true, true, true, true, true, true, true, true, true, true, true, false, false, false, false, false, false, false, false, false] rfl rfl (any_of HT_.out (by kernel_rfl)) (fun _ _ _ h => h) (Or.inl ⟨by rfl, ?_⟩) ?_ ?_
         rotate_left; focus (intro w'; go_simp; with_reducible rfl; done)
         rotate_left; focus (simp only [Act.put, List.setIfInBounds_toArray, List.set_cons_zero, List.set_cons_succ, i64_w, i32_w, u8_w, u32_w]; rfl; done)
         refine pure_ (i := 16) (N := some 96) (v := ?_) (a' := ?_) #[true, true, true, true, true, true, true, true, true, true, true, true, true, true, true, true, true, false, false, false, false, false, false, false, false] rfl rfl (any_of HT_.out (by kernel_rfl)) (fun _ _ _ h => h) (Or.inl ⟨by rfl, ?_⟩) ?_ ?_
         rotate_left; focus (intro w'; go_simp; with_reducible rfl; done)
         rotate_left; focus (simp only [Act.put, List.setIfInBounds_toArray, List.set_cons_zero, List.set_cons_succ, i64_w, i32_w, u8_w, u32_w]; rfl; done)
         refine pure_ (i := 17) (N := some 97) (v := ?_) (a' := ?_) #[true, true, true, true, true, true, true, true, true, true, true, true, true, true, true, true, true, true, false, false, false, false, false, false, false] rfl rfl (any_of HT_.out (by kernel_rfl)) (fun _ _ _ h => h) (Or.inl ⟨by rfl, ?_⟩) ?_ ?_
         rotate_left; focus (intro w'; go_simp; with_reducible rfl; done)
         rotate_left; focus (simp only [Act.put, List.setIfInBounds_toArray, List.set_cons_zero, List.set_cons_succ, i64_w, i32_w, u8_w, u32_w]; rfl; done)
         refine pure_ (i := 18) (N := some 98) (v := ?_) (a' := ?_) #[true, true, true, true, true, true, true, true, true, true, true, true, true, true, true, true, true, true, true, false, false, false, false, false, false] rfl rfl (any_of HT_.out (by kernel_rfl)) (fun _ _ _ h => h) (Or.inl ⟨by rfl, ?_⟩) ?_ ?_
         rotate_left; focus (intro w'; go_simp; with_reducible rfl; done)
         rotate_left; focus (simp only [Act.put, List.setIfInBounds_toArray, List.set_cons_zero, List.set_cons_succ, i64_w, i32_w, u8_w, u32_w]; rfl; done)
         refine pure_ (i := 19) (N := some 99) (v := ?_) (a' := ?_) #[true, true, true, true, true, true, true, true, true, true, true, true, true, true, true, true, true, true, true, true, false, false, false, false, false] rfl rfl (any_of HT_.out (by kernel_rfl)) (fun _ _ _ h => h) (Or.inl ⟨by rfl, ?_⟩) ?_ ?_
         rotate_left; focus (intro w'; go_simp; with_reducible rfl; done)
         rotate_left; focus (simp only [Act.put, List.setIfInBounds_toArray, List.set_cons_zero, List.set_cons_succ, i64_w, i32_w, u8_w, u32_w]; rfl; done)
         refine pure_ (i := 20) (N := some 100) (v := ?_) (a' := ?_) #[true, true, true, true, true, true, true, true, true, true, true, true, true, true, true, true, true, true, true, true, true, false, false, false, false] rfl rfl (any_of HT_.out (by kernel_rfl)) (fun _ _ _ h => h) (Or.inl ⟨by rfl, ?_⟩) ?_ ?_
         rotate_left; focus (intro w'; go_simp; with_reducible rfl; done)
         rotate_left; focus (simp only [Act.put, List.setIfInBounds_toArray, List.set_cons_zero, List.set_cons_succ, i64_w, i32_w, u8_w, u32_w]; rfl; done)
         refine pure_ (i := 21) (N := some 101) (v := undef) (a' := ?_) #[true, true, true, true, true, true, true, true, true, true, true, true, true, true, true, true, true, true, true, true, true, true, false, false, false] rfl rfl (any_of HT_.out (by kernel_rfl)) (fun _ _ _ h => h) (Or.inr ⟨by rfl, rfl⟩) ?_ ?_
         rotate_left; focus (simp only [Act.put, List.setIfInBounds_toArray, List.set_cons_zero, List.set_cons_succ, i64_w, i32_w, u8_w, u32_w]; rfl; done)
         refine pure_ (i := 22) (N := some 102) (v := undef) (a' := ?_) #[true, true, true, true, true, true, true, true, true, true, true, true, true, true, true, true, true, true, true, true, true, true, true, false, false] rfl rfl (any_of HT_.out (by kernel_rfl)) (fun _ _ _ h => h) (Or.inr ⟨by rfl, rfl⟩) ?_ ?_
         rotate_left; focus (simp only [Act.put, List.setIfInBounds_toArray, List.set_cons_zero, List.set_cons_succ, i64_w, i32_w, u8_w, u32_w]; rfl; done)
         refine pure_ (i := 23) (N := some 103) (v := ?_) (a' := ?_) #[true, true, true, true, true, true, true, true, true, true, true, true, true, true, true, true, true, true, true, true, true, true, true, true, false] rfl rfl (any_of HT_.out (by kernel_rfl)) (fun _ _ _ h => h) (Or.inl ⟨by rfl, ?_⟩) ?_ ?_
         rotate_left; focus (intro w'; go_simp; with_reducible rfl; done)
         rotate_left; focus (simp only [Act.put, List.setIfInBounds_toArray, List.set_cons_zero, List.set_cons_succ, i64_w, i32_w, u8_w, u32_w]; rfl; done)
         refine pure_ (i := 24) (N := some 0) (v := ?_) (a' := ?_) #[true, true, true, true, true, true, true, true, true, true, true, true, true, true, true, true, true, true, true, true, true, true, true, true, true] rfl rfl (any_of HT_.out (by kernel_rfl)) (fun _ _ _ h => h) (Or.inl ⟨by rfl, ?_⟩) ?_ ?_
         rotate_left; focus (intro w'; go_simp; with_reducible rfl; done)
         rotate_left; focus (simp only [Act.put, List.setIfInBounds_toArray, List.set_cons_zero, List.set_cons_succ, i64_w, i32_w, u8_w, u32_w]; rfl; done)
         refine done_ (done_of HT_.out (by kernel_rfl)) ?_
         try go_wp2
         go_ret
         exact ⟨by first | (simp only [ByteArray.size_extract, Nat.min_self]; rfl) | rfl | (simp [errW_none, errW_some] <;> rfl) | (simp [*, errW_none, errW_some] <;> rfl), by repeat (first | (with_reducible first | exact HB.out | apply pA | apply pN | apply pD | refine pS ?_ GE232.out | refine pS ?_ GE240.out | refine pS ?_ GE251.out | refine pS ?_ GE268.out) | exact HB.out)⟩
       ·
        rw [if_neg c94] at H
        have c94b0 : (t267 == 0) = false := beq_eq_false_iff_ne.mpr c94
        have c94b1 : (t267 != 0) = true := bne_iff_ne.mpr c94
        obtain rfl := Option.some.inj H
        try go_wp2
        have n0_ := Aside0.mk (blk_drew BK232.out)
        have n1_ := Aside0.mk (blk_drew BK240.out)
        have n2_ := Aside0.mk (blk_drew BK251.out)
        have n3_ := Aside0.mk (blk_drew BK268.out)
        have n4_ := Aside0.mk (below_drew1 HB.out)
        clear BK232
        clear BK240
        clear BK251
        clear BK268
        clear HB
        have BK232 := n0_
        have BK240 := n1_
        have BK251 := n2_
        have BK268 := n3_
        have HB := n4_
        clear n0_ n1_ n2_ n3_ n4_
        refine start_ (n := 25) (S := fun w' => w'.cell? ⟨gb251, 0, none⟩ = some (.int .i64 t247) ∧ w'.cell? ⟨gb251, 1, none⟩ = some (.int .i64 t248) ∧ w'.cell? ⟨gb251, 2, none⟩ = some (.string t249) ∧ w'.cell? ⟨gb268, 0, none⟩ = some (.int .i64 t264) ∧ w'.cell? ⟨gb268, 1, none⟩ = some (.int .i64 t265) ∧ w'.cell? ⟨gb268, 2, none⟩ = some (.string t266)) (ds := []) #[false, false, false, false, false, false, false, false, false, false, false, false, false, false, false, false, false, false, false, false, false, false, false, false, false] (by kernel_rfl) rfl rfl ⟨(blk_cell BK251.out 0).trans rfl, (blk_cell BK251.out 1).trans rfl, (blk_cell BK251.out 2).trans rfl, (blk_cell BK268.out 0).trans rfl, (blk_cell BK268.out 1).trans rfl, (blk_cell BK268.out 2).trans rfl⟩ (fun hHeld => ?_); refine with_tabW unisonlaw01_awake.tab11 unisonlaw01_awake.bits11 (fun HT_ HW_ => ?_)
        generalize wc.drew = w102 at BK232 BK240 BK251 BK268 HB hHeld ⊢
        refine take_ (i := 0) (N := some 80) (v := ?_) (a' := ?_) #[true, false, false, false, false, false, false, false, false, false, false, false, false, false, false, false, false, false, false, false, false, false, false, false, false] rfl rfl (take_ofW HT_.out HW_.out (by kernel_rfl)) (fun _ _ _ h => h) (Or.inl ⟨by rfl, ?_⟩) hHeld ?_ ?_
        rotate_left; focus (rintro w' ⟨s0, s1, s2, s3, s4, s5⟩; go_simp; with_reducible rfl; done)
        rotate_left; focus (simp only [Act.put, List.setIfInBounds_toArray, List.set_cons_zero, List.set_cons_succ, i64_w, i32_w, u8_w, u32_w]; rfl; done)
        refine one_ (i := 1) (N := some 81) #[true, true, false, false, false, false, false, false, false, false, false, false, false, false, false, false, false, false, false, false, false, false, false, false, false] rfl rfl (one_of HT_.out (by kernel_rfl)) (by decide) (fun K hK => ?_)
        refine goes_ Tryd.func38 (by kernel_rfl) rfl #[.int .i64 (-3)] (by rfl) rfl rfl (by (try simp only [List.map_toArray, List.map_cons, List.map_nil]); first | done | rfl | (simp only [List.length_drop, List.length_take]; rfl)) ?_
        with_reducible refine (unisonlaw01_number.calls (-3) t271 t272 t273 _ A89.out).mono ?_
        rintro e w103 ⟨rfl, hb⟩
        refine ⟨_, rfl, ?_⟩
        have n0_ := Aside0.mk (blk_below (g := gb232) (o := .cells #[.int .i64 t228, .int .i64 t229, .string t230] 23 (0, 0)) (by (with_reducible repeat first | apply bN | apply bD | apply bA); exact BK232.out) hb)
        have n1_ := Aside0.mk (blk_below (g := gb240) (o := .cells #[.int .i64 t236, .int .i64 t237, .string t238] 23 (0, 0)) (by (with_reducible repeat first | apply bN | apply bD | apply bA); exact BK240.out) hb)
        have n2_ := Aside0.mk (blk_below (g := gb251) (o := .cells #[.int .i64 t247, .int .i64 t248, .string t249] 23 (0, 0)) (by (with_reducible repeat first | apply bN | apply bD | apply bA); exact BK251.out) hb)
        have n3_ := Aside0.mk (blk_below (g := gb268) (o := .cells #[.int .i64 t264, .int .i64 t265, .string t266] 23 (0, 0)) (by (with_reducible repeat first | apply bN | apply bD | apply bA); exact BK268.out) hb)
        have n4_ := Aside0.mk (below_step (by repeat (first | (with_reducible first | exact HB.out | apply pA | apply pN | apply pD | refine pS ?_ GE232.out | refine pS ?_ GE240.out | refine pS ?_ GE251.out | refine pS ?_ GE268.out) | exact HB.out)) hb)
        clear BK232
        clear BK240
        clear BK251
        clear BK268
        clear HB
        have BK232 := n0_
        have BK240 := n1_
        have BK251 := n2_
        have BK268 := n3_
        have HB := n4_
        clear n0_ n1_ n2_ n3_ n4_
        (try clear hb)
        (try clear hb2)
        (try clear hk)
        (try clear hi)
        refine hK.out _ _ ⟨(blk_cell BK251.out 0).trans rfl, (blk_cell BK251.out 1).trans rfl, (blk_cell BK251.out 2).trans rfl, (blk_cell BK268.out 0).trans rfl, (blk_cell BK268.out 1).trans rfl, (blk_cell BK268.out 2).trans rfl⟩ (fun hHeld => ?_)
        clear hK K
        refine norm_ (a' := ?_) ?_ ?_
        rotate_left; focus (show Act.put _ (some 81) _ = _; simp only [Act.put, List.setIfInBounds_toArray, List.set_cons_zero, List.set_cons_succ, i64_w, i32_w, u8_w, u32_w]; rfl; done)
        refine pure_ (i := 2) (N := some 82) (v := ?_) (a' := ?_) #[true, true, true, false, false, false, false, false, false, false, false, false, false, false, false, false, false, false, false, false, false, false, false, false, false] rfl rfl (any_of HT_.out (by kernel_rfl)) (fun _ _ _ h => h) (Or.inl ⟨by rfl, ?_⟩) ?_ ?_
        rotate_left; focus (intro w'; go_simp; with_reducible rfl; done)
        rotate_left; focus (simp only [Act.put, List.setIfInBounds_toArray, List.set_cons_zero, List.set_cons_succ, i64_w, i32_w, u8_w, u32_w]; rfl; done)
        refine pure_ (i := 3) (N := some 83) (v := ?_) (a' := ?_) #[true, true, true, true, false, false, false, false, false, false, false, false, false, false, false, false, false, false, false, false, false, false, false, false, false] rfl rfl (any_of HT_.out (by kernel_rfl)) (fun _ _ _ h => h) (Or.inl ⟨by rfl, ?_⟩) ?_ ?_
        rotate_left; focus (intro w'; go_simp; with_reducible rfl; done)
        rotate_left; focus (simp only [Act.put, List.setIfInBounds_toArray, List.set_cons_zero, List.set_cons_succ, i64_w, i32_w, u8_w, u32_w]; rfl; done)
        refine pure_ (i := 4) (N := some 84) (v := ?_) (a' := ?_) #[true, true, true, true, true, false, false, false, false, false, false, false, false, false, false, false, false, false, false, false, false, false, false, false, false] rfl rfl (any_of HT_.out (by kernel_rfl)) (fun _ _ _ h => h) (Or.inl ⟨by rfl, ?_⟩) ?_ ?_
        rotate_left; focus (intro w'; go_simp; with_reducible rfl; done)
        rotate_left; focus (simp only [Act.put, List.setIfInBounds_toArray, List.set_cons_zero, List.set_cons_succ, i64_w, i32_w, u8_w, u32_w]; rfl; done)
        refine pure_ (i := 5) (N := some 85) (v := ?_) (a' := ?_) #[true, true, true, true, true, true, false, false, false, false, false, false, false, false, false, false, false, false, false, false, false, false, false, false, false] rfl rfl (any_of HT_.out (by kernel_rfl)) (fun _ _ _ h => h) (Or.inl ⟨by rfl, ?_⟩) ?_ ?_
        rotate_left; focus (intro w'; go_simp; with_reducible rfl; done)
        rotate_left; focus (simp only [Act.put, List.setIfInBounds_toArray, List.set_cons_zero, List.set_cons_succ, i64_w, i32_w, u8_w, u32_w]; rfl; done)
        refine pure_ (i := 6) (N := some 86) (v := ?_) (a' := ?_) #[true, true, true, true, true, true, true, false, false, false, false, false, false, false, false, false, false, false, false, false, false, false, false, false, false] rfl rfl (any_of HT_.out (by kernel_rfl)) (fun _ _ _ h => h) (Or.inl ⟨by rfl, ?_⟩) ?_ ?_
        rotate_left; focus (intro w'; go_simp; with_reducible rfl; done)
        rotate_left; focus (simp only [Act.put, List.setIfInBounds_toArray, List.set_cons_zero, List.set_cons_succ, i64_w, i32_w, u8_w, u32_w]; rfl; done)
        refine pure_ (i := 7) (N := some 87) (v := ?_) (a' := ?_) #[true, true, true, true, true, true, true, true, false, false, false, false, false, false, false, false, false, false, false, false, false, false, false, false, false] rfl rfl (any_of HT_.out (by kernel_rfl)) (fun _ _ _ h => h) (Or.inl ⟨by rfl, ?_⟩) ?_ ?_
        rotate_left; focus (intro w'; go_simp; with_reducible rfl; done)
        rotate_left; focus (simp only [Act.put, List.setIfInBounds_toArray, List.set_cons_zero, List.set_cons_succ, i64_w, i32_w, u8_w, u32_w]; rfl; done)
        refine take_ (i := 8) (N := some 88) (v := ?_) (a' := ?_) #[true, true, true, true, true, true, true, true, true, false, false, false, false, false, false, false, false, false, false, false, false, false, false, false, false] rfl rfl (take_ofW HT_.out HW_.out (by kernel_rfl)) (fun _ _ _ h => h) (Or.inl ⟨by rfl, ?_⟩) hHeld ?_ ?_
        rotate_left; focus (rintro w' ⟨s0, s1, s2, s3, s4, s5⟩; go_simp; with_reducible rfl; done)
        rotate_left; focus (simp only [Act.put, List.setIfInBounds_toArray, List.set_cons_zero, List.set_cons_succ, i64_w, i32_w, u8_w, u32_w]; rfl; done)
        refine one_ (i := 9) (N := some 89) #[true, true, true, true, true, true, true, true, true, true, false, false, false, false, false, false, false, false, false, false, false, false, false, false, false] rfl rfl (one_of HT_.out (by kernel_rfl)) (by decide) (fun K hK => ?_)
        refine goes_ Tryd.func38 (by kernel_rfl) rfl #[.int .i64 4611686018427387904] (by rfl) rfl rfl (by (try simp only [List.map_toArray, List.map_cons, List.map_nil]); first | done | rfl | (simp only [List.length_drop, List.length_take]; rfl)) ?_
        with_reducible refine (unisonlaw01_number.calls 4611686018427387904 t274 t275 t276 _ A92.out).mono ?_
        rintro e w104 ⟨rfl, hb⟩
        refine ⟨_, rfl, ?_⟩
        have n0_ := Aside0.mk (blk_below (g := gb232) (o := .cells #[.int .i64 t228, .int .i64 t229, .string t230] 23 (0, 0)) (by (with_reducible repeat first | apply bN | apply bD | apply bA); exact BK232.out) hb)
        have n1_ := Aside0.mk (blk_below (g := gb240) (o := .cells #[.int .i64 t236, .int .i64 t237, .string t238] 23 (0, 0)) (by (with_reducible repeat first | apply bN | apply bD | apply bA); exact BK240.out) hb)
        have n2_ := Aside0.mk (blk_below (g := gb251) (o := .cells #[.int .i64 t247, .int .i64 t248, .string t249] 23 (0, 0)) (by (with_reducible repeat first | apply bN | apply bD | apply bA); exact BK251.out) hb)
        have n3_ := Aside0.mk (blk_below (g := gb268) (o := .cells #[.int .i64 t264, .int .i64 t265, .string t266] 23 (0, 0)) (by (with_reducible repeat first | apply bN | apply bD | apply bA); exact BK268.out) hb)
        have n4_ := Aside0.mk (below_step (by repeat (first | (with_reducible first | exact HB.out | apply pA | apply pN | apply pD | refine pS ?_ GE232.out | refine pS ?_ GE240.out | refine pS ?_ GE251.out | refine pS ?_ GE268.out) | exact HB.out)) hb)
        clear BK232
        clear BK240
        clear BK251
        clear BK268
        clear HB
        have BK232 := n0_
        have BK240 := n1_
        have BK251 := n2_
        have BK268 := n3_
        have HB := n4_
        clear n0_ n1_ n2_ n3_ n4_
        (try clear hb)
        (try clear hb2)
        (try clear hk)
        (try clear hi)
        refine hK.out _ _ ⟨(blk_cell BK251.out 0).trans rfl, (blk_cell BK251.out 1).trans rfl, (blk_cell BK251.out 2).trans rfl, (blk_cell BK268.out 0).trans rfl, (blk_cell BK268.out 1).trans rfl, (blk_cell BK268.out 2).trans rfl⟩ (fun hHeld => ?_)
        clear hK K
        refine norm_ (a' := ?_) ?_ ?_
        rotate_left; focus (show Act.put _ (some 89) _ = _; simp only [Act.put, List.setIfInBounds_toArray, List.set_cons_zero, List.set_cons_succ, i64_w, i32_w, u8_w, u32_w]; rfl; done)
        refine pure_ (i := 10) (N := some 90) (v := ?_) (a' := ?_) #[true, true, true, true, true, true, true, true, true, true, true, false, false, false, false, false, false, false, false, false, false, false, false, false, false] rfl rfl (any_of HT_.out (by kernel_rfl)) (fun _ _ _ h => h) (Or.inl ⟨by rfl, ?_⟩) ?_ ?_
        rotate_left; focus (intro w'; go_simp; with_reducible rfl; done)
        rotate_left; focus (simp only [Act.put, List.setIfInBounds_toArray, List.set_cons_zero, List.set_cons_succ, i64_w, i32_w, u8_w, u32_w]; rfl; done)
        refine pure_ (i := 11) (N := some 91) (v := ?_) (a' := ?_) #[true, true, true, true, true, true, true, true, true, true, true, true, false, false, false, false, false, false, false, false, false, false, false, false, false] rfl rfl (any_of HT_.out (by kernel_rfl)) (fun _ _ _ h => h) (Or.inl ⟨by rfl, ?_⟩) ?_ ?_
        rotate_left; focus (intro w'; go_simp; with_reducible rfl; done)
        rotate_left; focus (simp only [Act.put, List.setIfInBounds_toArray, List.set_cons_zero, List.set_cons_succ, i64_w, i32_w, u8_w, u32_w]; rfl; done)
        refine pure_ (i := 12) (N := some 92) (v := ?_) (a' := ?_) #[true, true, true, true, true, true, true, true, true, true, true, true, true, false, false, false, false, false, false, false, false, false, false, false, false] rfl rfl (any_of HT_.out (by kernel_rfl)) (fun _ _ _ h => h) (Or.inl ⟨by rfl, ?_⟩) ?_ ?_
        rotate_left; focus (intro w'; go_simp; with_reducible rfl; done)
        rotate_left; focus (simp only [Act.put, List.setIfInBounds_toArray, List.set_cons_zero, List.set_cons_succ, i64_w, i32_w, u8_w, u32_w]; rfl; done)
        refine pure_ (i := 13) (N := some 93) (v := ?_) (a' := ?_) #[true, true, true, true, true, true, true, true, true, true, true, true, true, true, false, false, false, false, false, false, false, false, false, false, false] rfl rfl (any_of HT_.out (by kernel_rfl)) (fun _ _ _ h => h) (Or.inl ⟨by rfl, ?_⟩) ?_ ?_
        rotate_left; focus (intro w'; go_simp; with_reducible rfl; done)
        rotate_left; focus (simp only [Act.put, List.setIfInBounds_toArray, List.set_cons_zero, List.set_cons_succ, i64_w, i32_w, u8_w, u32_w]; rfl; done)
        refine pure_ (i := 14) (N := some 94) (v := ?_) (a' := ?_) #[true, true, true, true, true, true, true, true, true, true, true, true, true, true, true, false, false, false, false, false, false, false, false, false, false] rfl rfl (any_of HT_.out (by kernel_rfl)) (fun _ _ _ h => h) (Or.inl ⟨by rfl, ?_⟩) ?_ ?_
        rotate_left; focus (intro w'; go_simp; with_reducible rfl; done)
        rotate_left; focus (simp only [Act.put, List.setIfInBounds_toArray, List.set_cons_zero, List.set_cons_succ, i64_w, i32_w, u8_w, u32_w]; rfl; done)
        refine pure_ (i := 15) (N := some 95) (v := ?_) (a' := ?_) #[true, true, true, true, true, true, true, true, true, true, true, true, true, true, true, true, false, false, false, false, false, false, false, false, false] rfl rfl (any_of HT_.out (by kernel_rfl)) (fun _ _ _ h => h) (Or.inl ⟨by rfl, ?_⟩) ?_ ?_
        rotate_left; focus (intro w'; go_simp; with_reducible rfl; done)
        rotate_left; focus (simp only [Act.put, List.setIfInBounds_toArray, List.set_cons_zero, List.set_cons_succ, i64_w, i32_w, u8_w, u32_w]; rfl; done)
        refine pure_ (i := 16) (N := some 96) (v := ?_) (a' := ?_) #[true, true, true, true, true, true, true, true, true, true, true, true, true, true, true, true, true, false, false, false, false, false, false, false, false] rfl rfl (any_of HT_.out (by kernel_rfl)) (fun _ _ _ h => h) (Or.inl ⟨by rfl, ?_⟩) ?_ ?_
        rotate_left; focus (intro w'; go_simp; with_reducible rfl; done)
        rotate_left; focus (simp only [Act.put, List.setIfInBounds_toArray, List.set_cons_zero, List.set_cons_succ, i64_w, i32_w, u8_w, u32_w]; rfl; done)
        refine pure_ (i := 17) (N := some 97) (v := undef) (a' := ?_) #[true, true, true, true, true, true, true, true, true, true, true, true, true, true, true, true, true, true, false, false, false, false, false, false, false] rfl rfl (any_of HT_.out (by kernel_rfl)) (fun _ _ _ h => h) (Or.inr ⟨by rfl, rfl⟩) ?_ ?_
        rotate_left; focus (simp only [Act.put, List.setIfInBounds_toArray, List.set_cons_zero, List.set_cons_succ, i64_w, i32_w, u8_w, u32_w]; rfl; done)
        refine pure_ (i := 18) (N := some 98) (v := undef) (a' := ?_) #[true, true, true, true, true, true, true, true, true, true, true, true, true, true, true, true, true, true, true, false, false, false, false, false, false] rfl rfl (any_of HT_.out (by kernel_rfl)) (fun _ _ _ h => h) (Or.inr ⟨by rfl, rfl⟩) ?_ ?_
        rotate_left; focus (simp only [Act.put, List.setIfInBounds_toArray, List.set_cons_zero, List.set_cons_succ, i64_w, i32_w, u8_w, u32_w]; rfl; done)
        refine pure_ (i := 19) (N := some 99) (v := ?_) (a' := ?_) #[true, true, true, true, true, true, true, true, true, true, true, true, true, true, true, true, true, true, true, true, false, false, false, false, false] rfl rfl (any_of HT_.out (by kernel_rfl)) (fun _ _ _ h => h) (Or.inl ⟨by rfl, ?_⟩) ?_ ?_
        rotate_left; focus (intro w'; go_simp; with_reducible rfl; done)
        rotate_left; focus (simp only [Act.put, List.setIfInBounds_toArray, List.set_cons_zero, List.set_cons_succ, i64_w, i32_w, u8_w, u32_w]; rfl; done)
        refine pure_ (i := 20) (N := some 100) (v := ?_) (a' := ?_) #[true, true, true, true, true, true, true, true, true, true, true, true, true, true, true, true, true, true, true, true, true, false, false, false, false] rfl rfl (any_of HT_.out (by kernel_rfl)) (fun _ _ _ h => h) (Or.inl ⟨by rfl, ?_⟩) ?_ ?_
        rotate_left; focus (intro w'; go_simp; with_reducible rfl; done)
        rotate_left; focus (simp only [Act.put, List.setIfInBounds_toArray, List.set_cons_zero, List.set_cons_succ, i64_w, i32_w, u8_w, u32_w]; rfl; done)
        refine pure_ (i := 21) (N := some 101) (v := undef) (a' := ?_) #[true, true, true, true, true, true, true, true, true, true, true, true, true, true, true, true, true, true, true, true, true, true, false, false, false] rfl rfl (any_of HT_.out (by kernel_rfl)) (fun _ _ _ h => h) (Or.inr ⟨by rfl, rfl⟩) ?_ ?_
        rotate_left; focus (simp only [Act.put, List.setIfInBounds_toArray, List.set_cons_zero, List.set_cons_succ, i64_w, i32_w, u8_w, u32_w]; rfl; done)
        refine pure_ (i := 22) (N := some 102) (v := undef) (a' := ?_) #[true, true, true, true, true, true, true, true, true, true, true, true, true, true, true, true, true, true, true, true, true, true, true, false, false] rfl rfl (any_of HT_.out (by kernel_rfl)) (fun _ _ _ h => h) (Or.inr ⟨by rfl, rfl⟩) ?_ ?_
        rotate_left; focus (simp only [Act.put, List.setIfInBounds_toArray, List.set_cons_zero, List.set_cons_succ, i64_w, i32_w, u8_w, u32_w]; rfl; done)
        refine pure_ (i := 23) (N := some 103) (v := ?_) (a' := ?_) #[true, true, true, true, true, true, true, true, true, true, true, true, true, true, true, true, true, true, true, true, true, true, true, true, false] rfl rfl (any_of HT_.out (by kernel_rfl)) (fun _ _ _ h => h) (Or.inl ⟨by rfl, ?_⟩) ?_ ?_
        rotate_left; focus (intro w'; go_simp; with_reducible rfl; done)
        rotate_left; focus (simp only [Act.put, List.setIfInBounds_toArray, List.set_cons_zero, List.set_cons_succ, i64_w, i32_w, u8_w, u32_w]; rfl; done)
        refine pure_ (i := 24) (N := some 0) (v := ?_) (a' := ?_) #[true, true, true, true, true, true, true, true, true, true, true, true, true, true, true, true, true, true, true, true, true, true, true, true, true] rfl rfl (any_of HT_.out (by kernel_rfl)) (fun _ _ _ h => h) (Or.inl ⟨by rfl, ?_⟩) ?_ ?_
        rotate_left; focus (intro w'; go_simp; with_reducible rfl; done)
        rotate_left; focus (simp only [Act.put, List.setIfInBounds_toArray, List.set_cons_zero, List.set_cons_succ, i64_w, i32_w, u8_w, u32_w]; rfl; done)
        refine done_ (done_of HT_.out (by kernel_rfl)) ?_
        try go_wp2
        go_ret
        exact ⟨by first | (simp only [ByteArray.size_extract, Nat.min_self]; rfl) | rfl | (simp [errW_none, errW_some] <;> rfl) | (simp [*, errW_none, errW_some] <;> rfl), by repeat (first | (with_reducible first | exact HB.out | apply pA | apply pN | apply pD | refine pS ?_ GE232.out | refine pS ?_ GE240.out | refine pS ?_ GE251.out | refine pS ?_ GE268.out) | exact HB.out)⟩
      ·
       rw [if_neg c93] at H
       have c93b0 : (t264 == t274 && (t265 == t275 && (t266.toList == t276.toList))) = false := by simpa using c93
       (try (have c93b1 : decide (t264 = t274 && (t265 == t275 && (t266.toList == t276.toList))) = false := by simpa using c93))
       (try (have c93b2 : (t264 == t274 && (t265 == t275 && (t266.toList == t276.toList))) = false := by simpa using c93))
       (try (have c93b3 : ¬ (t264 = t274 && (t265 == t275 && (t266.toList == t276.toList))) := by simpa using c93))
       clear c93
       obtain rfl := Option.some.inj H
       try go_wp2
       have n0_ := Aside0.mk (blk_drew BK232.out)
       have n1_ := Aside0.mk (blk_drew BK240.out)
       have n2_ := Aside0.mk (blk_drew BK251.out)
       have n3_ := Aside0.mk (blk_drew BK268.out)
       have n4_ := Aside0.mk (below_drew1 HB.out)
       clear BK232
       clear BK240
       clear BK251
       clear BK268
       clear HB
       have BK232 := n0_
       have BK240 := n1_
       have BK251 := n2_
       have BK268 := n3_
       have HB := n4_
       clear n0_ n1_ n2_ n3_ n4_
       refine start_ (n := 25) (S := fun w' => w'.cell? ⟨gb251, 0, none⟩ = some (.int .i64 t247) ∧ w'.cell? ⟨gb251, 1, none⟩ = some (.int .i64 t248) ∧ w'.cell? ⟨gb251, 2, none⟩ = some (.string t249) ∧ w'.cell? ⟨gb268, 0, none⟩ = some (.int .i64 t264) ∧ w'.cell? ⟨gb268, 1, none⟩ = some (.int .i64 t265) ∧ w'.cell? ⟨gb268, 2, none⟩ = some (.string t266)) (ds := []) #[false, false, false, false, false, false, false, false, false, false, false, false, false, false, false, false, false, false, false, false, false, false, false, false, false] (by kernel_rfl) rfl rfl ⟨(blk_cell BK251.out 0).trans rfl, (blk_cell BK251.out 1).trans rfl, (blk_cell BK251.out 2).trans rfl, (blk_cell BK268.out 0).trans rfl, (blk_cell BK268.out 1).trans rfl, (blk_cell BK268.out 2).trans rfl⟩ (fun hHeld => ?_); refine with_tabW unisonlaw01_awake.tab11 unisonlaw01_awake.bits11 (fun HT_ HW_ => ?_)
       generalize wc.drew = w105 at BK232 BK240 BK251 BK268 HB hHeld ⊢
       refine take_ (i := 0) (N := some 80) (v := ?_) (a' := ?_) #[true, false, false, false, false, false, false, false, false, false, false, false, false, false, false, false, false, false, false, false, false, false, false, false, false] rfl rfl (take_ofW HT_.out HW_.out (by kernel_rfl)) (fun _ _ _ h => h) (Or.inl ⟨by rfl, ?_⟩) hHeld ?_ ?_
       rotate_left; focus (rintro w' ⟨s0, s1, s2, s3, s4, s5⟩; go_simp; with_reducible rfl; done)
       rotate_left; focus (simp only [Act.put, List.setIfInBounds_toArray, List.set_cons_zero, List.set_cons_succ, i64_w, i32_w, u8_w, u32_w]; rfl; done)
       refine one_ (i := 1) (N := some 81) #[true, true, false, false, false, false, false, false, false, false, false, false, false, false, false, false, false, false, false, false, false, false, false, false, false] rfl rfl (one_of HT_.out (by kernel_rfl)) (by decide) (fun K hK => ?_)
       refine goes_ Tryd.func38 (by kernel_rfl) rfl #[.int .i64 (-3)] (by rfl) rfl rfl (by (try simp only [List.map_toArray, List.map_cons, List.map_nil]); first | done | rfl | (simp only [List.length_drop, List.length_take]; rfl)) ?_
       with_reducible refine (unisonlaw01_number.calls (-3) t271 t272 t273 _ A89.out).mono ?_
       rintro e w106 ⟨rfl, hb⟩
       refine ⟨_, rfl, ?_⟩
       have n0_ := Aside0.mk (blk_below (g := gb232) (o := .cells #[.int .i64 t228, .int .i64 t229, .string t230] 23 (0, 0)) (by (with_reducible repeat first | apply bN | apply bD | apply bA); exact BK232.out) hb)
       have n1_ := Aside0.mk (blk_below (g := gb240) (o := .cells #[.int .i64 t236, .int .i64 t237, .string t238] 23 (0, 0)) (by (with_reducible repeat first | apply bN | apply bD | apply bA); exact BK240.out) hb)
       have n2_ := Aside0.mk (blk_below (g := gb251) (o := .cells #[.int .i64 t247, .int .i64 t248, .string t249] 23 (0, 0)) (by (with_reducible repeat first | apply bN | apply bD | apply bA); exact BK251.out) hb)
       have n3_ := Aside0.mk (blk_below (g := gb268) (o := .cells #[.int .i64 t264, .int .i64 t265, .string t266] 23 (0, 0)) (by (with_reducible repeat first | apply bN | apply bD | apply bA); exact BK268.out) hb)
       have n4_ := Aside0.mk (below_step (by repeat (first | (with_reducible first | exact HB.out | apply pA | apply pN | apply pD | refine pS ?_ GE232.out | refine pS ?_ GE240.out | refine pS ?_ GE251.out | refine pS ?_ GE268.out) | exact HB.out)) hb)
       clear BK232
       clear BK240
       clear BK251
       clear BK268
       clear HB
       have BK232 := n0_
       have BK240 := n1_
       have BK251 := n2_
       have BK268 := n3_
       have HB := n4_
       clear n0_ n1_ n2_ n3_ n4_
       (try clear hb)
       (try clear hb2)
       (try clear hk)
       (try clear hi)
       refine hK.out _ _ ⟨(blk_cell BK251.out 0).trans rfl, (blk_cell BK251.out 1).trans rfl, (blk_cell BK251.out 2).trans rfl, (blk_cell BK268.out 0).trans rfl, (blk_cell BK268.out 1).trans rfl, (blk_cell BK268.out 2).trans rfl⟩ (fun hHeld => ?_)
       clear hK K
       refine norm_ (a' := ?_) ?_ ?_
       rotate_left; focus (show Act.put _ (some 81) _ = _; simp only [Act.put, List.setIfInBounds_toArray, List.set_cons_zero, List.set_cons_succ, i64_w, i32_w, u8_w, u32_w]; rfl; done)
       refine pure_ (i := 2) (N := some 82) (v := ?_) (a' := ?_) #[true, true, true, false, false, false, false, false, false, false, false, false, false, false, false, false, false, false, false, false, false, false, false, false, false] rfl rfl (any_of HT_.out (by kernel_rfl)) (fun _ _ _ h => h) (Or.inl ⟨by rfl, ?_⟩) ?_ ?_
       rotate_left; focus (intro w'; go_simp; with_reducible rfl; done)
       rotate_left; focus (simp only [Act.put, List.setIfInBounds_toArray, List.set_cons_zero, List.set_cons_succ, i64_w, i32_w, u8_w, u32_w]; rfl; done)
       refine pure_ (i := 3) (N := some 83) (v := ?_) (a' := ?_) #[true, true, true, true, false, false, false, false, false, false, false, false, false, false, false, false, false, false, false, false, false, false, false, false, false] rfl rfl (any_of HT_.out (by kernel_rfl)) (fun _ _ _ h => h) (Or.inl ⟨by rfl, ?_⟩) ?_ ?_
       rotate_left; focus (intro w'; go_simp; with_reducible rfl; done)
       rotate_left; focus (simp only [Act.put, List.setIfInBounds_toArray, List.set_cons_zero, List.set_cons_succ, i64_w, i32_w, u8_w, u32_w]; rfl; done)
       refine pure_ (i := 4) (N := some 84) (v := ?_) (a' := ?_) #[true, true, true, true, true, false, false, false, false, false, false, false, false, false, false, false, false, false, false, false, false, false, false, false, false] rfl rfl (any_of HT_.out (by kernel_rfl)) (fun _ _ _ h => h) (Or.inl ⟨by rfl, ?_⟩) ?_ ?_
       rotate_left; focus (intro w'; go_simp; with_reducible rfl; done)
       rotate_left; focus (simp only [Act.put, List.setIfInBounds_toArray, List.set_cons_zero, List.set_cons_succ, i64_w, i32_w, u8_w, u32_w]; rfl; done)
       refine pure_ (i := 5) (N := some 85) (v := ?_) (a' := ?_) #[true, true, true, true, true, true, false, false, false, false, false, false, false, false, false, false, false, false, false, false, false, false, false, false, false] rfl rfl (any_of HT_.out (by kernel_rfl)) (fun _ _ _ h => h) (Or.inl ⟨by rfl, ?_⟩) ?_ ?_
       rotate_left; focus (intro w'; go_simp; with_reducible rfl; done)
       rotate_left; focus (simp only [Act.put, List.setIfInBounds_toArray, List.set_cons_zero, List.set_cons_succ, i64_w, i32_w, u8_w, u32_w]; rfl; done)
       refine pure_ (i := 6) (N := some 86) (v := ?_) (a' := ?_) #[true, true, true, true, true, true, true, false, false, false, false, false, false, false, false, false, false, false, false, false, false, false, false, false, false] rfl rfl (any_of HT_.out (by kernel_rfl)) (fun _ _ _ h => h) (Or.inl ⟨by rfl, ?_⟩) ?_ ?_
       rotate_left; focus (intro w'; go_simp; with_reducible rfl; done)
       rotate_left; focus (simp only [Act.put, List.setIfInBounds_toArray, List.set_cons_zero, List.set_cons_succ, i64_w, i32_w, u8_w, u32_w]; rfl; done)
       refine pure_ (i := 7) (N := some 87) (v := ?_) (a' := ?_) #[true, true, true, true, true, true, true, true, false, false, false, false, false, false, false, false, false, false, false, false, false, false, false, false, false] rfl rfl (any_of HT_.out (by kernel_rfl)) (fun _ _ _ h => h) (Or.inl ⟨by rfl, ?_⟩) ?_ ?_
       rotate_left; focus (intro w'; go_simp; with_reducible rfl; done)
       rotate_left; focus (simp only [Act.put, List.setIfInBounds_toArray, List.set_cons_zero, List.set_cons_succ, i64_w, i32_w, u8_w, u32_w]; rfl; done)
       refine take_ (i := 8) (N := some 88) (v := ?_) (a' := ?_) #[true, true, true, true, true, true, true, true, true, false, false, false, false, false, false, false, false, false, false, false, false, false, false, false, false] rfl rfl (take_ofW HT_.out HW_.out (by kernel_rfl)) (fun _ _ _ h => h) (Or.inl ⟨by rfl, ?_⟩) hHeld ?_ ?_
       rotate_left; focus (rintro w' ⟨s0, s1, s2, s3, s4, s5⟩; go_simp; with_reducible rfl; done)
       rotate_left; focus (simp only [Act.put, List.setIfInBounds_toArray, List.set_cons_zero, List.set_cons_succ, i64_w, i32_w, u8_w, u32_w]; rfl; done)
       refine one_ (i := 9) (N := some 89) #[true, true, true, true, true, true, true, true, true, true, false, false, false, false, false, false, false, false, false, false, false, false, false, false, false] rfl rfl (one_of HT_.out (by kernel_rfl)) (by decide) (fun K hK => ?_)
       refine goes_ Tryd.func38 (by kernel_rfl) rfl #[.int .i64 4611686018427387904] (by rfl) rfl rfl (by (try simp only [List.map_toArray, List.map_cons, List.map_nil]); first | done | rfl | (simp only [List.length_drop, List.length_take]; rfl)) ?_
       with_reducible refine (unisonlaw01_number.calls 4611686018427387904 t274 t275 t276 _ A92.out).mono ?_
       rintro e w107 ⟨rfl, hb⟩
       refine ⟨_, rfl, ?_⟩
       have n0_ := Aside0.mk (blk_below (g := gb232) (o := .cells #[.int .i64 t228, .int .i64 t229, .string t230] 23 (0, 0)) (by (with_reducible repeat first | apply bN | apply bD | apply bA); exact BK232.out) hb)
       have n1_ := Aside0.mk (blk_below (g := gb240) (o := .cells #[.int .i64 t236, .int .i64 t237, .string t238] 23 (0, 0)) (by (with_reducible repeat first | apply bN | apply bD | apply bA); exact BK240.out) hb)
       have n2_ := Aside0.mk (blk_below (g := gb251) (o := .cells #[.int .i64 t247, .int .i64 t248, .string t249] 23 (0, 0)) (by (with_reducible repeat first | apply bN | apply bD | apply bA); exact BK251.out) hb)
       have n3_ := Aside0.mk (blk_below (g := gb268) (o := .cells #[.int .i64 t264, .int .i64 t265, .string t266] 23 (0, 0)) (by (with_reducible repeat first | apply bN | apply bD | apply bA); exact BK268.out) hb)
       have n4_ := Aside0.mk (below_step (by repeat (first | (with_reducible first | exact HB.out | apply pA | apply pN | apply pD | refine pS ?_ GE232.out | refine pS ?_ GE240.out | refine pS ?_ GE251.out | refine pS ?_ GE268.out) | exact HB.out)) hb)
       clear BK232
       clear BK240
       clear BK251
       clear BK268
       clear HB
       have BK232 := n0_
       have BK240 := n1_
       have BK251 := n2_
       have BK268 := n3_
       have HB := n4_
       clear n0_ n1_ n2_ n3_ n4_
       (try clear hb)
       (try clear hb2)
       (try clear hk)
       (try clear hi)
       refine hK.out _ _ ⟨(blk_cell BK251.out 0).trans rfl, (blk_cell BK251.out 1).trans rfl, (blk_cell BK251.out 2).trans rfl, (blk_cell BK268.out 0).trans rfl, (blk_cell BK268.out 1).trans rfl, (blk_cell BK268.out 2).trans rfl⟩ (fun hHeld => ?_)
       clear hK K
       refine norm_ (a' := ?_) ?_ ?_
       rotate_left; focus (show Act.put _ (some 89) _ = _; simp only [Act.put, List.setIfInBounds_toArray, List.set_cons_zero, List.set_cons_succ, i64_w, i32_w, u8_w, u32_w]; rfl; done)
       refine pure_ (i := 10) (N := some 90) (v := ?_) (a' := ?_) #[true, true, true, true, true, true, true, true, true, true, true, false, false, false, false, false, false, false, false, false, false, false, false, false, false] rfl rfl (any_of HT_.out (by kernel_rfl)) (fun _ _ _ h => h) (Or.inl ⟨by rfl, ?_⟩) ?_ ?_
       rotate_left; focus (intro w'; go_simp; with_reducible rfl; done)
       rotate_left; focus (simp only [Act.put, List.setIfInBounds_toArray, List.set_cons_zero, List.set_cons_succ, i64_w, i32_w, u8_w, u32_w]; rfl; done)
       refine pure_ (i := 11) (N := some 91) (v := ?_) (a' := ?_) #[true, true, true, true, true, true, true, true, true, true, true, true, false, false, false, false, false, false, false, false, false, false, false, false, false] rfl rfl (any_of HT_.out (by kernel_rfl)) (fun _ _ _ h => h) (Or.inl ⟨by rfl, ?_⟩) ?_ ?_
       rotate_left; focus (intro w'; go_simp; with_reducible rfl; done)
       rotate_left; focus (simp only [Act.put, List.setIfInBounds_toArray, List.set_cons_zero, List.set_cons_succ, i64_w, i32_w, u8_w, u32_w]; rfl; done)
       refine pure_ (i := 12) (N := some 92) (v := ?_) (a' := ?_) #[true, true, true, true, true, true, true, true, true, true, true, true, true, false, false, false, false, false, false, false, false, false, false, false, false] rfl rfl (any_of HT_.out (by kernel_rfl)) (fun _ _ _ h => h) (Or.inl ⟨by rfl, ?_⟩) ?_ ?_
       rotate_left; focus (intro w'; go_simp; with_reducible rfl; done)
       rotate_left; focus (simp only [Act.put, List.setIfInBounds_toArray, List.set_cons_zero, List.set_cons_succ, i64_w, i32_w, u8_w, u32_w]; rfl; done)
       refine pure_ (i := 13) (N := some 93) (v := undef) (a' := ?_) #[true, true, true, true, true, true, true, true, true, true, true, true, true, true, false, false, false, false, false, false, false, false, false, false, false] rfl rfl (any_of HT_.out (by kernel_rfl)) (fun _ _ _ h => h) (Or.inr ⟨by rfl, rfl⟩) ?_ ?_
       rotate_left; focus (simp only [Act.put, List.setIfInBounds_toArray, List.set_cons_zero, List.set_cons_succ, i64_w, i32_w, u8_w, u32_w]; rfl; done)
       refine pure_ (i := 14) (N := some 94) (v := undef) (a' := ?_) #[true, true, true, true, true, true, true, true, true, true, true, true, true, true, true, false, false, false, false, false, false, false, false, false, false] rfl rfl (any_of HT_.out (by kernel_rfl)) (fun _ _ _ h => h) (Or.inr ⟨by rfl, rfl⟩) ?_ ?_
       rotate_left; focus (simp only [Act.put, List.setIfInBounds_toArray, List.set_cons_zero, List.set_cons_succ, i64_w, i32_w, u8_w, u32_w]; rfl; done)
       refine pure_ (i := 15) (N := some 95) (v := ?_) (a' := ?_) #[true, true, true, true, true, true, true, true, true, true, true, true, true, true, true, true, false, false, false, false, false, false, false, false, false] rfl rfl (any_of HT_.out (by kernel_rfl)) (fun _ _ _ h => h) (Or.inl ⟨by rfl, ?_⟩) ?_ ?_
       rotate_left; focus (intro w'; go_simp; with_reducible rfl; done)
       rotate_left; focus (simp only [Act.put, List.setIfInBounds_toArray, List.set_cons_zero, List.set_cons_succ, i64_w, i32_w, u8_w, u32_w]; rfl; done)
       refine pure_ (i := 16) (N := some 96) (v := ?_) (a' := ?_) #[true, true, true, true, true, true, true, true, true, true, true, true, true, true, true, true, true, false, false, false, false, false, false, false, false] rfl rfl (any_of HT_.out (by kernel_rfl)) (fun _ _ _ h => h) (Or.inl ⟨by rfl, ?_⟩) ?_ ?_
       rotate_left; focus (intro w'; go_simp; with_reducible rfl; done)
       rotate_left; focus (simp only [Act.put, List.setIfInBounds_toArray, List.set_cons_zero, List.set_cons_succ, i64_w, i32_w, u8_w, u32_w]; rfl; done)
       refine pure_ (i := 17) (N := some 97) (v := undef) (a' := ?_) #[true, true, true, true, true, true, true, true, true, true, true, true, true, true, true, true, true, true, false, false, false, false, false, false, false] rfl rfl (any_of HT_.out (by kernel_rfl)) (fun _ _ _ h => h) (Or.inr ⟨by rfl, rfl⟩) ?_ ?_
       rotate_left; focus (simp only [Act.put, List.setIfInBounds_toArray, List.set_cons_zero, List.set_cons_succ, i64_w, i32_w, u8_w, u32_w]; rfl; done)
       refine pure_ (i := 18) (N := some 98) (v := undef) (a' := ?_) #[true, true, true, true, true, true, true, true, true, true, true, true, true, true, true, true, true, true, true, false, false, false, false, false, false] rfl rfl (any_of HT_.out (by kernel_rfl)) (fun _ _ _ h => h) (Or.inr ⟨by rfl, rfl⟩) ?_ ?_
       rotate_left; focus (simp only [Act.put, List.setIfInBounds_toArray, List.set_cons_zero, List.set_cons_succ, i64_w, i32_w, u8_w, u32_w]; rfl; done)
       refine pure_ (i := 19) (N := some 99) (v := ?_) (a' := ?_) #[true, true, true, true, true, true, true, true, true, true, true, true, true, true, true, true, true, true, true, true, false, false, false, false, false] rfl rfl (any_of HT_.out (by kernel_rfl)) (fun _ _ _ h => h) (Or.inl ⟨by rfl, ?_⟩) ?_ ?_
       rotate_left; focus (intro w'; go_simp; with_reducible rfl; done)
       rotate_left; focus (simp only [Act.put, List.setIfInBounds_toArray, List.set_cons_zero, List.set_cons_succ, i64_w, i32_w, u8_w, u32_w]; rfl; done)
       refine pure_ (i := 20) (N := some 100) (v := ?_) (a' := ?_) #[true, true, true, true, true, true, true, true, true, true, true, true, true, true, true, true, true, true, true, true, true, false, false, false, false] rfl rfl (any_of HT_.out (by kernel_rfl)) (fun _ _ _ h => h) (Or.inl ⟨by rfl, ?_⟩) ?_ ?_
       rotate_left; focus (intro w'; go_simp; with_reducible rfl; done)
       rotate_left; focus (simp only [Act.put, List.setIfInBounds_toArray, List.set_cons_zero, List.set_cons_succ, i64_w, i32_w, u8_w, u32_w]; rfl; done)
       refine pure_ (i := 21) (N := some 101) (v := undef) (a' := ?_) #[true, true, true, true, true, true, true, true, true, true, true, true, true, true, true, true, true, true, true, true, true, true, false, false, false] rfl rfl (any_of HT_.out (by kernel_rfl)) (fun _ _ _ h => h) (Or.inr ⟨by rfl, rfl⟩) ?_ ?_
       rotate_left; focus (simp only [Act.put, List.setIfInBounds_toArray, List.set_cons_zero, List.set_cons_succ, i64_w, i32_w, u8_w, u32_w]; rfl; done)
       refine pure_ (i := 22) (N := some 102) (v := undef) (a' := ?_) #[true, true, true, true, true, true, true, true, true, true, true, true, true, true, true, true, true, true, true, true, true, true, true, false, false] rfl rfl (any_of HT_.out (by kernel_rfl)) (fun _ _ _ h => h) (Or.inr ⟨by rfl, rfl⟩) ?_ ?_
       rotate_left; focus (simp only [Act.put, List.setIfInBounds_toArray, List.set_cons_zero, List.set_cons_succ, i64_w, i32_w, u8_w, u32_w]; rfl; done)
       refine pure_ (i := 23) (N := some 103) (v := ?_) (a' := ?_) #[true, true, true, true, true, true, true, true, true, true, true, true, true, true, true, true, true, true, true, true, true, true, true, true, false] rfl rfl (any_of HT_.out (by kernel_rfl)) (fun _ _ _ h => h) (Or.inl ⟨by rfl, ?_⟩) ?_ ?_
       rotate_left; focus (intro w'; go_simp; with_reducible rfl; done)
       rotate_left; focus (simp only [Act.put, List.setIfInBounds_toArray, List.set_cons_zero, List.set_cons_succ, i64_w, i32_w, u8_w, u32_w]; rfl; done)
       refine pure_ (i := 24) (N := some 0) (v := ?_) (a' := ?_) #[true, true, true, true, true, true, true, true, true, true, true, true, true, true, true, true, true, true, true, true, true, true, true, true, true] rfl rfl (any_of HT_.out (by kernel_rfl)) (fun _ _ _ h => h) (Or.inl ⟨by rfl, ?_⟩) ?_ ?_
       rotate_left; focus (intro w'; go_simp; with_reducible rfl; done)
       rotate_left; focus (simp only [Act.put, List.setIfInBounds_toArray, List.set_cons_zero, List.set_cons_succ, i64_w, i32_w, u8_w, u32_w]; rfl; done)
       refine done_ (done_of HT_.out (by kernel_rfl)) ?_
       try go_wp2
       go_ret
       exact ⟨by first | (simp only [ByteArray.size_extract, Nat.min_self]; rfl) | rfl | (simp [errW_none, errW_some] <;> rfl) | (simp [*, errW_none, errW_some] <;> rfl), by repeat (first | (with_reducible first | exact HB.out | apply pA | apply pN | apply pD | refine pS ?_ GE232.out | refine pS ?_ GE240.out | refine pS ?_ GE251.out | refine pS ?_ GE268.out) | exact HB.out)⟩
     ·
      rw [if_neg c91] at H
      have c91b0 : (t250 == 0) = false := beq_eq_false_iff_ne.mpr c91
      have c91b1 : (t250 != 0) = true := bne_iff_ne.mpr c91
      obtain rfl := Option.some.inj H
      try go_wp2
      have n0_ := Aside0.mk (blk_drew BK232.out)
      have n1_ := Aside0.mk (blk_drew BK240.out)
      have n2_ := Aside0.mk (blk_drew BK251.out)
      have n3_ := Aside0.mk (blk_drew BK268.out)
      have n4_ := Aside0.mk (below_drew1 HB.out)
      clear BK232
      clear BK240
      clear BK251
      clear BK268
      clear HB
      have BK232 := n0_
      have BK240 := n1_
      have BK251 := n2_
      have BK268 := n3_
      have HB := n4_
      clear n0_ n1_ n2_ n3_ n4_
      refine start_ (n := 25) (S := fun w' => w'.cell? ⟨gb251, 0, none⟩ = some (.int .i64 t247) ∧ w'.cell? ⟨gb251, 1, none⟩ = some (.int .i64 t248) ∧ w'.cell? ⟨gb251, 2, none⟩ = some (.string t249)) (ds := []) #[false, false, false, false, false, false, false, false, false, false, false, false, false, false, false, false, false, false, false, false, false, false, false, false, false] (by kernel_rfl) rfl rfl ⟨(blk_cell BK251.out 0).trans rfl, (blk_cell BK251.out 1).trans rfl, (blk_cell BK251.out 2).trans rfl⟩ (fun hHeld => ?_); refine with_tabW unisonlaw01_awake.tab11 unisonlaw01_awake.bits11 (fun HT_ HW_ => ?_)
      generalize wc.drew = w108 at BK232 BK240 BK251 BK268 HB hHeld ⊢
      refine take_ (i := 0) (N := some 80) (v := ?_) (a' := ?_) #[true, false, false, false, false, false, false, false, false, false, false, false, false, false, false, false, false, false, false, false, false, false, false, false, false] rfl rfl (take_ofW HT_.out HW_.out (by kernel_rfl)) (fun _ _ _ h => h) (Or.inl ⟨by rfl, ?_⟩) hHeld ?_ ?_
      rotate_left; focus (rintro w' ⟨s0, s1, s2⟩; go_simp; with_reducible rfl; done)
      rotate_left; focus (simp only [Act.put, List.setIfInBounds_toArray, List.set_cons_zero, List.set_cons_succ, i64_w, i32_w, u8_w, u32_w]; rfl; done)
      refine one_ (i := 1) (N := some 81) #[true, true, false, false, false, false, false, false, false, false, false, false, false, false, false, false, false, false, false, false, false, false, false, false, false] rfl rfl (one_of HT_.out (by kernel_rfl)) (by decide) (fun K hK => ?_)
      refine goes_ Tryd.func38 (by kernel_rfl) rfl #[.int .i64 (-3)] (by rfl) rfl rfl (by (try simp only [List.map_toArray, List.map_cons, List.map_nil]); first | done | rfl | (simp only [List.length_drop, List.length_take]; rfl)) ?_
      with_reducible refine (unisonlaw01_number.calls (-3) t271 t272 t273 _ A89.out).mono ?_
      rintro e w109 ⟨rfl, hb⟩
      refine ⟨_, rfl, ?_⟩
      have n0_ := Aside0.mk (blk_below (g := gb232) (o := .cells #[.int .i64 t228, .int .i64 t229, .string t230] 23 (0, 0)) (by (with_reducible repeat first | apply bN | apply bD | apply bA); exact BK232.out) hb)
      have n1_ := Aside0.mk (blk_below (g := gb240) (o := .cells #[.int .i64 t236, .int .i64 t237, .string t238] 23 (0, 0)) (by (with_reducible repeat first | apply bN | apply bD | apply bA); exact BK240.out) hb)
      have n2_ := Aside0.mk (blk_below (g := gb251) (o := .cells #[.int .i64 t247, .int .i64 t248, .string t249] 23 (0, 0)) (by (with_reducible repeat first | apply bN | apply bD | apply bA); exact BK251.out) hb)
      have n3_ := Aside0.mk (blk_below (g := gb268) (o := .cells #[.int .i64 t264, .int .i64 t265, .string t266] 23 (0, 0)) (by (with_reducible repeat first | apply bN | apply bD | apply bA); exact BK268.out) hb)
      have n4_ := Aside0.mk (below_step (by repeat (first | (with_reducible first | exact HB.out | apply pA | apply pN | apply pD | refine pS ?_ GE232.out | refine pS ?_ GE240.out | refine pS ?_ GE251.out | refine pS ?_ GE268.out) | exact HB.out)) hb)
      clear BK232
      clear BK240
      clear BK251
      clear BK268
      clear HB
      have BK232 := n0_
      have BK240 := n1_
      have BK251 := n2_
      have BK268 := n3_
      have HB := n4_
      clear n0_ n1_ n2_ n3_ n4_
      (try clear hb)
      (try clear hb2)
      (try clear hk)
      (try clear hi)
      refine hK.out _ _ ⟨(blk_cell BK251.out 0).trans rfl, (blk_cell BK251.out 1).trans rfl, (blk_cell BK251.out 2).trans rfl⟩ (fun hHeld => ?_)
      clear hK K
      refine norm_ (a' := ?_) ?_ ?_
      rotate_left; focus (show Act.put _ (some 81) _ = _; simp only [Act.put, List.setIfInBounds_toArray, List.set_cons_zero, List.set_cons_succ, i64_w, i32_w, u8_w, u32_w]; rfl; done)
      refine pure_ (i := 2) (N := some 82) (v := ?_) (a' := ?_) #[true, true, true, false, false, false, false, false, false, false, false, false, false, false, false, false, false, false, false, false, false, false, false, false, false] rfl rfl (any_of HT_.out (by kernel_rfl)) (fun _ _ _ h => h) (Or.inl ⟨by rfl, ?_⟩) ?_ ?_
      rotate_left; focus (intro w'; go_simp; with_reducible rfl; done)
      rotate_left; focus (simp only [Act.put, List.setIfInBounds_toArray, List.set_cons_zero, List.set_cons_succ, i64_w, i32_w, u8_w, u32_w]; rfl; done)
      refine pure_ (i := 3) (N := some 83) (v := ?_) (a' := ?_) #[true, true, true, true, false, false, false, false, false, false, false, false, false, false, false, false, false, false, false, false, false, false, false, false, false] rfl rfl (any_of HT_.out (by kernel_rfl)) (fun _ _ _ h => h) (Or.inl ⟨by rfl, ?_⟩) ?_ ?_
      rotate_left; focus (intro w'; go_simp; with_reducible rfl; done)
      rotate_left; focus (simp only [Act.put, List.setIfInBounds_toArray, List.set_cons_zero, List.set_cons_succ, i64_w, i32_w, u8_w, u32_w]; rfl; done)
      refine pure_ (i := 4) (N := some 84) (v := ?_) (a' := ?_) #[true, true, true, true, true, false, false, false, false, false, false, false, false, false, false, false, false, false, false, false, false, false, false, false, false] rfl rfl (any_of HT_.out (by kernel_rfl)) (fun _ _ _ h => h) (Or.inl ⟨by rfl, ?_⟩) ?_ ?_
      rotate_left; focus (intro w'; go_simp; with_reducible rfl; done)
      rotate_left; focus (simp only [Act.put, List.setIfInBounds_toArray, List.set_cons_zero, List.set_cons_succ, i64_w, i32_w, u8_w, u32_w]; rfl; done)
      refine pure_ (i := 5) (N := some 85) (v := ?_) (a' := ?_) #[true, true, true, true, true, true, false, false, false, false, false, false, false, false, false, false, false, false, false, false, false, false, false, false, false] rfl rfl (any_of HT_.out (by kernel_rfl)) (fun _ _ _ h => h) (Or.inl ⟨by rfl, ?_⟩) ?_ ?_
      rotate_left; focus (intro w'; go_simp; with_reducible rfl; done)
      rotate_left; focus (simp only [Act.put, List.setIfInBounds_toArray, List.set_cons_zero, List.set_cons_succ, i64_w, i32_w, u8_w, u32_w]; rfl; done)
      refine pure_ (i := 6) (N := some 86) (v := ?_) (a' := ?_) #[true, true, true, true, true, true, true, false, false, false, false, false, false, false, false, false, false, false, false, false, false, false, false, false, false] rfl rfl (any_of HT_.out (by kernel_rfl)) (fun _ _ _ h => h) (Or.inl ⟨by rfl, ?_⟩) ?_ ?_
      rotate_left; focus (intro w'; go_simp; with_reducible rfl; done)
      rotate_left; focus (simp only [Act.put, List.setIfInBounds_toArray, List.set_cons_zero, List.set_cons_succ, i64_w, i32_w, u8_w, u32_w]; rfl; done)
      refine pure_ (i := 7) (N := some 87) (v := ?_) (a' := ?_) #[true, true, true, true, true, true, true, true, false, false, false, false, false, false, false, false, false, false, false, false, false, false, false, false, false] rfl rfl (any_of HT_.out (by kernel_rfl)) (fun _ _ _ h => h) (Or.inl ⟨by rfl, ?_⟩) ?_ ?_
      rotate_left; focus (intro w'; go_simp; with_reducible rfl; done)
      rotate_left; focus (simp only [Act.put, List.setIfInBounds_toArray, List.set_cons_zero, List.set_cons_succ, i64_w, i32_w, u8_w, u32_w]; rfl; done)
      refine pure_ (i := 8) (N := some 88) (v := undef) (a' := ?_) #[true, true, true, true, true, true, true, true, true, false, false, false, false, false, false, false, false, false, false, false, false, false, false, false, false] rfl rfl (any_of HT_.out (by kernel_rfl)) (fun _ _ _ h => h) (Or.inr ⟨by rfl, rfl⟩) ?_ ?_
      rotate_left; focus (simp only [Act.put, List.setIfInBounds_toArray, List.set_cons_zero, List.set_cons_succ, i64_w, i32_w, u8_w, u32_w]; rfl; done)
      refine pure_ (i := 9) (N := some 89) (v := undef) (a' := ?_) #[true, true, true, true, true, true, true, true, true, true, false, false, false, false, false, false, false, false, false, false, false, false, false, false, false] rfl rfl (any_of HT_.out (by kernel_rfl)) (fun _ _ _ h => h) (Or.inr ⟨by rfl, rfl⟩) ?_ ?_
      rotate_left; focus (simp only [Act.put, List.setIfInBounds_toArray, List.set_cons_zero, List.set_cons_succ, i64_w, i32_w, u8_w, u32_w]; rfl; done)
      refine pure_ (i := 10) (N := some 90) (v := undef) (a' := ?_) #[true, true, true, true, true, true, true, true, true, true, true, false, false, false, false, false, false, false, false, false, false, false, false, false, false] rfl rfl (any_of HT_.out (by kernel_rfl)) (fun _ _ _ h => h) (Or.inr ⟨by rfl, rfl⟩) ?_ ?_
      rotate_left; focus (simp only [Act.put, List.setIfInBounds_toArray, List.set_cons_zero, List.set_cons_succ, i64_w, i32_w, u8_w, u32_w]; rfl; done)
      refine pure_ (i := 11) (N := some 91) (v := ?_) (a' := ?_) #[true, true, true, true, true, true, true, true, true, true, true, true, false, false, false, false, false, false, false, false, false, false, false, false, false] rfl rfl (any_of HT_.out (by kernel_rfl)) (fun _ _ _ h => h) (Or.inl ⟨by rfl, ?_⟩) ?_ ?_
      rotate_left; focus (intro w'; go_simp; with_reducible rfl; done)
      rotate_left; focus (simp only [Act.put, List.setIfInBounds_toArray, List.set_cons_zero, List.set_cons_succ, i64_w, i32_w, u8_w, u32_w]; rfl; done)
      refine pure_ (i := 12) (N := some 92) (v := ?_) (a' := ?_) #[true, true, true, true, true, true, true, true, true, true, true, true, true, false, false, false, false, false, false, false, false, false, false, false, false] rfl rfl (any_of HT_.out (by kernel_rfl)) (fun _ _ _ h => h) (Or.inl ⟨by rfl, ?_⟩) ?_ ?_
      rotate_left; focus (intro w'; go_simp; with_reducible rfl; done)
      rotate_left; focus (simp only [Act.put, List.setIfInBounds_toArray, List.set_cons_zero, List.set_cons_succ, i64_w, i32_w, u8_w, u32_w]; rfl; done)
      refine pure_ (i := 13) (N := some 93) (v := undef) (a' := ?_) #[true, true, true, true, true, true, true, true, true, true, true, true, true, true, false, false, false, false, false, false, false, false, false, false, false] rfl rfl (any_of HT_.out (by kernel_rfl)) (fun _ _ _ h => h) (Or.inr ⟨by rfl, rfl⟩) ?_ ?_
      rotate_left; focus (simp only [Act.put, List.setIfInBounds_toArray, List.set_cons_zero, List.set_cons_succ, i64_w, i32_w, u8_w, u32_w]; rfl; done)
      refine pure_ (i := 14) (N := some 94) (v := undef) (a' := ?_) #[true, true, true, true, true, true, true, true, true, true, true, true, true, true, true, false, false, false, false, false, false, false, false, false, false] rfl rfl (any_of HT_.out (by kernel_rfl)) (fun _ _ _ h => h) (Or.inr ⟨by rfl, rfl⟩) ?_ ?_
      rotate_left; focus (simp only [Act.put, List.setIfInBounds_toArray, List.set_cons_zero, List.set_cons_succ, i64_w, i32_w, u8_w, u32_w]; rfl; done)
      refine pure_ (i := 15) (N := some 95) (v := ?_) (a' := ?_) #[true, true, true, true, true, true, true, true, true, true, true, true, true, true, true, true, false, false, false, false, false, false, false, false, false] rfl rfl (any_of HT_.out (by kernel_rfl)) (fun _ _ _ h => h) (Or.inl ⟨by rfl, ?_⟩) ?_ ?_
      rotate_left; focus (intro w'; go_simp; with_reducible rfl; done)
      rotate_left; focus (simp only [Act.put, List.setIfInBounds_toArray, List.set_cons_zero, List.set_cons_succ, i64_w, i32_w, u8_w, u32_w]; rfl; done)
      refine pure_ (i := 16) (N := some 96) (v := ?_) (a' := ?_) #[true, true, true, true, true, true, true, true, true, true, true, true, true, true, true, true, true, false, false, false, false, false, false, false, false] rfl rfl (any_of HT_.out (by kernel_rfl)) (fun _ _ _ h => h) (Or.inl ⟨by rfl, ?_⟩) ?_ ?_
      rotate_left; focus (intro w'; go_simp; with_reducible rfl; done)
      rotate_left; focus (simp only [Act.put, List.setIfInBounds_toArray, List.set_cons_zero, List.set_cons_succ, i64_w, i32_w, u8_w, u32_w]; rfl; done)
      refine pure_ (i := 17) (N := some 97) (v := undef) (a' := ?_) #[true, true, true, true, true, true, true, true, true, true, true, true, true, true, true, true, true, true, false, false, false, false, false, false, false] rfl rfl (any_of HT_.out (by kernel_rfl)) (fun _ _ _ h => h) (Or.inr ⟨by rfl, rfl⟩) ?_ ?_
      rotate_left; focus (simp only [Act.put, List.setIfInBounds_toArray, List.set_cons_zero, List.set_cons_succ, i64_w, i32_w, u8_w, u32_w]; rfl; done)
      refine pure_ (i := 18) (N := some 98) (v := undef) (a' := ?_) #[true, true, true, true, true, true, true, true, true, true, true, true, true, true, true, true, true, true, true, false, false, false, false, false, false] rfl rfl (any_of HT_.out (by kernel_rfl)) (fun _ _ _ h => h) (Or.inr ⟨by rfl, rfl⟩) ?_ ?_
      rotate_left; focus (simp only [Act.put, List.setIfInBounds_toArray, List.set_cons_zero, List.set_cons_succ, i64_w, i32_w, u8_w, u32_w]; rfl; done)
      refine pure_ (i := 19) (N := some 99) (v := ?_) (a' := ?_) #[true, true, true, true, true, true, true, true, true, true, true, true, true, true, true, true, true, true, true, true, false, false, false, false, false] rfl rfl (any_of HT_.out (by kernel_rfl)) (fun _ _ _ h => h) (Or.inl ⟨by rfl, ?_⟩) ?_ ?_
      rotate_left; focus (intro w'; go_simp; with_reducible rfl; done)
      rotate_left; focus (simp only [Act.put, List.setIfInBounds_toArray, List.set_cons_zero, List.set_cons_succ, i64_w, i32_w, u8_w, u32_w]; rfl; done)
      refine pure_ (i := 20) (N := some 100) (v := ?_) (a' := ?_) #[true, true, true, true, true, true, true, true, true, true, true, true, true, true, true, true, true, true, true, true, true, false, false, false, false] rfl rfl (any_of HT_.out (by kernel_rfl)) (fun _ _ _ h => h) (Or.inl ⟨by rfl, ?_⟩) ?_ ?_
      rotate_left; focus (intro w'; go_simp; with_reducible rfl; done)
      rotate_left; focus (simp only [Act.put, List.setIfInBounds_toArray, List.set_cons_zero, List.set_cons_succ, i64_w, i32_w, u8_w, u32_w]; rfl; done)
      refine pure_ (i := 21) (N := some 101) (v := undef) (a' := ?_) #[true, true, true, true, true, true, true, true, true, true, true, true, true, true, true, true, true, true, true, true, true, true, false, false, false] rfl rfl (any_of HT_.out (by kernel_rfl)) (fun _ _ _ h => h) (Or.inr ⟨by rfl, rfl⟩) ?_ ?_
      rotate_left; focus (simp only [Act.put, List.setIfInBounds_toArray, List.set_cons_zero, List.set_cons_succ, i64_w, i32_w, u8_w, u32_w]; rfl; done)
      refine pure_ (i := 22) (N := some 102) (v := undef) (a' := ?_) #[true, true, true, true, true, true, true, true, true, true, true, true, true, true, true, true, true, true, true, true, true, true, true, false, false] rfl rfl (any_of HT_.out (by kernel_rfl)) (fun _ _ _ h => h) (Or.inr ⟨by rfl, rfl⟩) ?_ ?_
      rotate_left; focus (simp only [Act.put, List.setIfInBounds_toArray, List.set_cons_zero, List.set_cons_succ, i64_w, i32_w, u8_w, u32_w]; rfl; done)
      refine pure_ (i := 23) (N := some 103) (v := ?_) (a' := ?_) #[true, true, true, true, true, true, true, true, true, true, true, true, true, true, true, true, true, true, true, true, true, true, true, true, false] rfl rfl (any_of HT_.out (by kernel_rfl)) (fun _ _ _ h => h) (Or.inl ⟨by rfl, ?_⟩) ?_ ?_
      rotate_left; focus (intro w'; go_simp; with_reducible rfl; done)
      rotate_left; focus (simp only [Act.put, List.setIfInBounds_toArray, List.set_cons_zero, List.set_cons_succ, i64_w, i32_w, u8_w, u32_w]; rfl; done)
      refine pure_ (i := 24) (N := some 0) (v := ?_) (a' := ?_) #[true, true, true, true, true, true, true, true, true, true, true, true, true, true, true, true, true, true, true, true, true, true, true, true, true] rfl rfl (any_of HT_.out (by kernel_rfl)) (fun _ _ _ h => h) (Or.inl ⟨by rfl, ?_⟩) ?_ ?_
      rotate_left; focus (intro w'; go_simp; with_reducible rfl; done)
      rotate_left; focus (simp only [Act.put, List.setIfInBounds_toArray, List.set_cons_zero, List.set_cons_succ, i64_w, i32_w, u8_w, u32_w]; rfl; done)
      refine done_ (done_of HT_.out (by kernel_rfl)) ?_
      try go_wp2
      go_ret
      exact ⟨by first | (simp only [ByteArray.size_extract, Nat.min_self]; rfl) | rfl | (simp [errW_none, errW_some] <;> rfl) | (simp [*, errW_none, errW_some] <;> rfl), by repeat (first | (with_reducible first | exact HB.out | apply pA | apply pN | apply pD | refine pS ?_ GE232.out | refine pS ?_ GE240.out | refine pS ?_ GE251.out | refine pS ?_ GE268.out) | exact HB.out)⟩
    ·
     rw [if_neg c90] at H
     have c90b0 : (t247 == t271 && (t248 == t272 && (t249.toList == t273.toList))) = false := by simpa using c90
     (try (have c90b1 : decide (t247 = t271 && (t248 == t272 && (t249.toList == t273.toList))) = false := by simpa using c90))
     (try (have c90b2 : (t247 == t271 && (t248 == t272 && (t249.toList == t273.toList))) = false := by simpa using c90))
     (try (have c90b3 : ¬ (t247 = t271 && (t248 == t272 && (t249.toList == t273.toList))) := by simpa using c90))
     clear c90
     obtain rfl := Option.some.inj H
     try go_wp2
     have n0_ := Aside0.mk (blk_drew BK232.out)
     have n1_ := Aside0.mk (blk_drew BK240.out)
     have n2_ := Aside0.mk (blk_drew BK251.out)
     have n3_ := Aside0.mk (blk_drew BK268.out)
     have n4_ := Aside0.mk (below_drew1 HB.out)
     clear BK232
     clear BK240
     clear BK251
     clear BK268
     clear HB
     have BK232 := n0_
     have BK240 := n1_
     have BK251 := n2_
     have BK268 := n3_
     have HB := n4_
     clear n0_ n1_ n2_ n3_ n4_
     refine start_ (n := 25) (S := fun w' => w'.cell? ⟨gb251, 0, none⟩ = some (.int .i64 t247) ∧ w'.cell? ⟨gb251, 1, none⟩ = some (.int .i64 t248) ∧ w'.cell? ⟨gb251, 2, none⟩ = some (.string t249)) (ds := []) #[false, false, false, false, false, false, false, false, false, false, false, false, false, false, false, false, false, false, false, false, false, false, false, false, false] (by kernel_rfl) rfl rfl ⟨(blk_cell BK251.out 0).trans rfl, (blk_cell BK251.out 1).trans rfl, (blk_cell BK251.out 2).trans rfl⟩ (fun hHeld => ?_); refine with_tabW unisonlaw01_awake.tab11 unisonlaw01_awake.bits11 (fun HT_ HW_ => ?_)
     generalize wc.drew = w110 at BK232 BK240 BK251 BK268 HB hHeld ⊢
     refine take_ (i := 0) (N := some 80) (v := ?_) (a' := ?_) #[true, false, false, false, false, false, false, false, false, false, false, false, false, false, false, false, false, false, false, false, false, false, false, false, false] rfl rfl (take_ofW HT_.out HW_.out (by kernel_rfl)) (fun _ _ _ h => h) (Or.inl ⟨by rfl, ?_⟩) hHeld ?_ ?_
     rotate_left; focus (rintro w' ⟨s0, s1, s2⟩; go_simp; with_reducible rfl; done)
     rotate_left; focus (simp only [Act.put, List.setIfInBounds_toArray, List.set_cons_zero, List.set_cons_succ, i64_w, i32_w, u8_w, u32_w]; rfl; done)
     refine one_ (i := 1) (N := some 81) #[true, true, false, false, false, false, false, false, false, false, false, false, false, false, false, false, false, false, false, false, false, false, false, false, false] rfl rfl (one_of HT_.out (by kernel_rfl)) (by decide) (fun K hK => ?_)
     refine goes_ Tryd.func38 (by kernel_rfl) rfl #[.int .i64 (-3)] (by rfl) rfl rfl (by (try simp only [List.map_toArray, List.map_cons, List.map_nil]); first | done | rfl | (simp only [List.length_drop, List.length_take]; rfl)) ?_
     with_reducible refine (unisonlaw01_number.calls (-3) t271 t272 t273 _ A89.out).mono ?_
     rintro e w111 ⟨rfl, hb⟩
     refine ⟨_, rfl, ?_⟩
     have n0_ := Aside0.mk (blk_below (g := gb232) (o := .cells #[.int .i64 t228, .int .i64 t229, .string t230] 23 (0, 0)) (by (with_reducible repeat first | apply bN | apply bD | apply bA); exact BK232.out) hb)
     have n1_ := Aside0.mk (blk_below (g := gb240) (o := .cells #[.int .i64 t236, .int .i64 t237, .string t238] 23 (0, 0)) (by (with_reducible repeat first | apply bN | apply bD | apply bA); exact BK240.out) hb)
     have n2_ := Aside0.mk (blk_below (g := gb251) (o := .cells #[.int .i64 t247, .int .i64 t248, .string t249] 23 (0, 0)) (by (with_reducible repeat first | apply bN | apply bD | apply bA); exact BK251.out) hb)
     have n3_ := Aside0.mk (blk_below (g := gb268) (o := .cells #[.int .i64 t264, .int .i64 t265, .string t266] 23 (0, 0)) (by (with_reducible repeat first | apply bN | apply bD | apply bA); exact BK268.out) hb)
     have n4_ := Aside0.mk (below_step (by repeat (first | (with_reducible first | exact HB.out | apply pA | apply pN | apply pD | refine pS ?_ GE232.out | refine pS ?_ GE240.out | refine pS ?_ GE251.out | refine pS ?_ GE268.out) | exact HB.out)) hb)
     clear BK232
     clear BK240
     clear BK251
     clear BK268
     clear HB
     have BK232 := n0_
     have BK240 := n1_
     have BK251 := n2_
     have BK268 := n3_
     have HB := n4_
     clear n0_ n1_ n2_ n3_ n4_
     (try clear hb)
     (try clear hb2)
     (try clear hk)
     (try clear hi)
     refine hK.out _ _ ⟨(blk_cell BK251.out 0).trans rfl, (blk_cell BK251.out 1).trans rfl, (blk_cell BK251.out 2).trans rfl⟩ (fun hHeld => ?_)
     clear hK K
     refine norm_ (a' := ?_) ?_ ?_
     rotate_left; focus (show Act.put _ (some 81) _ = _; simp only [Act.put, List.setIfInBounds_toArray, List.set_cons_zero, List.set_cons_succ, i64_w, i32_w, u8_w, u32_w]; rfl; done)
     refine pure_ (i := 2) (N := some 82) (v := ?_) (a' := ?_) #[true, true, true, false, false, false, false, false, false, false, false, false, false, false, false, false, false, false, false, false, false, false, false, false, false] rfl rfl (any_of HT_.out (by kernel_rfl)) (fun _ _ _ h => h) (Or.inl ⟨by rfl, ?_⟩) ?_ ?_
     rotate_left; focus (intro w'; go_simp; with_reducible rfl; done)
     rotate_left; focus (simp only [Act.put, List.setIfInBounds_toArray, List.set_cons_zero, List.set_cons_succ, i64_w, i32_w, u8_w, u32_w]; rfl; done)
     refine pure_ (i := 3) (N := some 83) (v := ?_) (a' := ?_) #[true, true, true, true, false, false, false, false, false, false, false, false, false, false, false, false, false, false, false, false, false, false, false, false, false] rfl rfl (any_of HT_.out (by kernel_rfl)) (fun _ _ _ h => h) (Or.inl ⟨by rfl, ?_⟩) ?_ ?_
     rotate_left; focus (intro w'; go_simp; with_reducible rfl; done)
     rotate_left; focus (simp only [Act.put, List.setIfInBounds_toArray, List.set_cons_zero, List.set_cons_succ, i64_w, i32_w, u8_w, u32_w]; rfl; done)
     refine pure_ (i := 4) (N := some 84) (v := undef) (a' := ?_) #[true, true, true, true, true, false, false, false, false, false, false, false, false, false, false, false, false, false, false, false, false, false, false, false, false] rfl rfl (any_of HT_.out (by kernel_rfl)) (fun _ _ _ h => h) (Or.inr ⟨by rfl, rfl⟩) ?_ ?_
     rotate_left; focus (simp only [Act.put, List.setIfInBounds_toArray, List.set_cons_zero, List.set_cons_succ, i64_w, i32_w, u8_w, u32_w]; rfl; done)
     refine pure_ (i := 5) (N := some 85) (v := undef) (a' := ?_) #[true, true, true, true, true, true, false, false, false, false, false, false, false, false, false, false, false, false, false, false, false, false, false, false, false] rfl rfl (any_of HT_.out (by kernel_rfl)) (fun _ _ _ h => h) (Or.inr ⟨by rfl, rfl⟩) ?_ ?_
     rotate_left; focus (simp only [Act.put, List.setIfInBounds_toArray, List.set_cons_zero, List.set_cons_succ, i64_w, i32_w, u8_w, u32_w]; rfl; done)
     refine pure_ (i := 6) (N := some 86) (v := ?_) (a' := ?_) #[true, true, true, true, true, true, true, false, false, false, false, false, false, false, false, false, false, false, false, false, false, false, false, false, false] rfl rfl (any_of HT_.out (by kernel_rfl)) (fun _ _ _ h => h) (Or.inl ⟨by rfl, ?_⟩) ?_ ?_
     rotate_left; focus (intro w'; go_simp; with_reducible rfl; done)
     rotate_left; focus (simp only [Act.put, List.setIfInBounds_toArray, List.set_cons_zero, List.set_cons_succ, i64_w, i32_w, u8_w, u32_w]; rfl; done)
     refine pure_ (i := 7) (N := some 87) (v := ?_) (a' := ?_) #[true, true, true, true, true, true, true, true, false, false, false, false, false, false, false, false, false, false, false, false, false, false, false, false, false] rfl rfl (any_of HT_.out (by kernel_rfl)) (fun _ _ _ h => h) (Or.inl ⟨by rfl, ?_⟩) ?_ ?_
     rotate_left; focus (intro w'; go_simp; with_reducible rfl; done)
     rotate_left; focus (simp only [Act.put, List.setIfInBounds_toArray, List.set_cons_zero, List.set_cons_succ, i64_w, i32_w, u8_w, u32_w]; rfl; done)
     refine pure_ (i := 8) (N := some 88) (v := undef) (a' := ?_) #[true, true, true, true, true, true, true, true, true, false, false, false, false, false, false, false, false, false, false, false, false, false, false, false, false] rfl rfl (any_of HT_.out (by kernel_rfl)) (fun _ _ _ h => h) (Or.inr ⟨by rfl, rfl⟩) ?_ ?_
     rotate_left; focus (simp only [Act.put, List.setIfInBounds_toArray, List.set_cons_zero, List.set_cons_succ, i64_w, i32_w, u8_w, u32_w]; rfl; done)
     refine pure_ (i := 9) (N := some 89) (v := undef) (a' := ?_) #[true, true, true, true, true, true, true, true, true, true, false, false, false, false, false, false, false, false, false, false, false, false, false, false, false] rfl rfl (any_of HT_.out (by kernel_rfl)) (fun _ _ _ h => h) (Or.inr ⟨by rfl, rfl⟩) ?_ ?_
     rotate_left; focus (simp only [Act.put, List.setIfInBounds_toArray, List.set_cons_zero, List.set_cons_succ, i64_w, i32_w, u8_w, u32_w]; rfl; done)
     refine pure_ (i := 10) (N := some 90) (v := undef) (a' := ?_) #[true, true, true, true, true, true, true, true, true, true, true, false, false, false, false, false, false, false, false, false, false, false, false, false, false] rfl rfl (any_of HT_.out (by kernel_rfl)) (fun _ _ _ h => h) (Or.inr ⟨by rfl, rfl⟩) ?_ ?_
     rotate_left; focus (simp only [Act.put, List.setIfInBounds_toArray, List.set_cons_zero, List.set_cons_succ, i64_w, i32_w, u8_w, u32_w]; rfl; done)
     refine pure_ (i := 11) (N := some 91) (v := ?_) (a' := ?_) #[true, true, true, true, true, true, true, true, true, true, true, true, false, false, false, false, false, false, false, false, false, false, false, false, false] rfl rfl (any_of HT_.out (by kernel_rfl)) (fun _ _ _ h => h) (Or.inl ⟨by rfl, ?_⟩) ?_ ?_
     rotate_left; focus (intro w'; go_simp; with_reducible rfl; done)
     rotate_left; focus (simp only [Act.put, List.setIfInBounds_toArray, List.set_cons_zero, List.set_cons_succ, i64_w, i32_w, u8_w, u32_w]; rfl; done)
     refine pure_ (i := 12) (N := some 92) (v := ?_) (a' := ?_) #[true, true, true, true, true, true, true, true, true, true, true, true, true, false, false, false, false, false, false, false, false, false, false, false, false] rfl rfl (any_of HT_.out (by kernel_rfl)) (fun _ _ _ h => h) (Or.inl ⟨by rfl, ?_⟩) ?_ ?_
     rotate_left; focus (intro w'; go_simp; with_reducible rfl; done)
     rotate_left; focus (simp only [Act.put, List.setIfInBounds_toArray, List.set_cons_zero, List.set_cons_succ, i64_w, i32_w, u8_w, u32_w]; rfl; done)
     refine pure_ (i := 13) (N := some 93) (v := undef) (a' := ?_) #[true, true, true, true, true, true, true, true, true, true, true, true, true, true, false, false, false, false, false, false, false, false, false, false, false] rfl rfl (any_of HT_.out (by kernel_rfl)) (fun _ _ _ h => h) (Or.inr ⟨by rfl, rfl⟩) ?_ ?_
     rotate_left; focus (simp only [Act.put, List.setIfInBounds_toArray, List.set_cons_zero, List.set_cons_succ, i64_w, i32_w, u8_w, u32_w]; rfl; done)
     refine pure_ (i := 14) (N := some 94) (v := undef) (a' := ?_) #[true, true, true, true, true, true, true, true, true, true, true, true, true, true, true, false, false, false, false, false, false, false, false, false, false] rfl rfl (any_of HT_.out (by kernel_rfl)) (fun _ _ _ h => h) (Or.inr ⟨by rfl, rfl⟩) ?_ ?_
     rotate_left; focus (simp only [Act.put, List.setIfInBounds_toArray, List.set_cons_zero, List.set_cons_succ, i64_w, i32_w, u8_w, u32_w]; rfl; done)
     refine pure_ (i := 15) (N := some 95) (v := ?_) (a' := ?_) #[true, true, true, true, true, true, true, true, true, true, true, true, true, true, true, true, false, false, false, false, false, false, false, false, false] rfl rfl (any_of HT_.out (by kernel_rfl)) (fun _ _ _ h => h) (Or.inl ⟨by rfl, ?_⟩) ?_ ?_
     rotate_left; focus (intro w'; go_simp; with_reducible rfl; done)
     rotate_left; focus (simp only [Act.put, List.setIfInBounds_toArray, List.set_cons_zero, List.set_cons_succ, i64_w, i32_w, u8_w, u32_w]; rfl; done)
     refine pure_ (i := 16) (N := some 96) (v := ?_) (a' := ?_) #[true, true, true, true, true, true, true, true, true, true, true, true, true, true, true, true, true, false, false, false, false, false, false, false, false] rfl rfl (any_of HT_.out (by kernel_rfl)) (fun _ _ _ h => h) (Or.inl ⟨by rfl, ?_⟩) ?_ ?_
     rotate_left; focus (intro w'; go_simp; with_reducible rfl; done)
     rotate_left; focus (simp only [Act.put, List.setIfInBounds_toArray, List.set_cons_zero, List.set_cons_succ, i64_w, i32_w, u8_w, u32_w]; rfl; done)
     refine pure_ (i := 17) (N := some 97) (v := undef) (a' := ?_) #[true, true, true, true, true, true, true, true, true, true, true, true, true, true, true, true, true, true, false, false, false, false, false, false, false] rfl rfl (any_of HT_.out (by kernel_rfl)) (fun _ _ _ h => h) (Or.inr ⟨by rfl, rfl⟩) ?_ ?_
     rotate_left; focus (simp only [Act.put, List.setIfInBounds_toArray, List.set_cons_zero, List.set_cons_succ, i64_w, i32_w, u8_w, u32_w]; rfl; done)
     refine pure_ (i := 18) (N := some 98) (v := undef) (a' := ?_) #[true, true, true, true, true, true, true, true, true, true, true, true, true, true, true, true, true, true, true, false, false, false, false, false, false] rfl rfl (any_of HT_.out (by kernel_rfl)) (fun _ _ _ h => h) (Or.inr ⟨by rfl, rfl⟩) ?_ ?_
     rotate_left; focus (simp only [Act.put, List.setIfInBounds_toArray, List.set_cons_zero, List.set_cons_succ, i64_w, i32_w, u8_w, u32_w]; rfl; done)
     refine pure_ (i := 19) (N := some 99) (v := ?_) (a' := ?_) #[true, true, true, true, true, true, true, true, true, true, true, true, true, true, true, true, true, true, true, true, false, false, false, false, false] rfl rfl (any_of HT_.out (by kernel_rfl)) (fun _ _ _ h => h) (Or.inl ⟨by rfl, ?_⟩) ?_ ?_
     rotate_left; focus (intro w'; go_simp; with_reducible rfl; done)
     rotate_left; focus (simp only [Act.put, List.setIfInBounds_toArray, List.set_cons_zero, List.set_cons_succ, i64_w, i32_w, u8_w, u32_w]; rfl; done)
     refine pure_ (i := 20) (N := some 100) (v := ?_) (a' := ?_) #[true, true, true, true, true, true, true, true, true, true, true, true, true, true, true, true, true, true, true, true, true, false, false, false, false] rfl rfl (any_of HT_.out (by kernel_rfl)) (fun _ _ _ h => h) (Or.inl ⟨by rfl, ?_⟩) ?_ ?_
     rotate_left; focus (intro w'; go_simp; with_reducible rfl; done)
     rotate_left; focus (simp only [Act.put, List.setIfInBounds_toArray, List.set_cons_zero, List.set_cons_succ, i64_w, i32_w, u8_w, u32_w]; rfl; done)
     refine pure_ (i := 21) (N := some 101) (v := undef) (a' := ?_) #[true, true, true, true, true, true, true, true, true, true, true, true, true, true, true, true, true, true, true, true, true, true, false, false, false] rfl rfl (any_of HT_.out (by kernel_rfl)) (fun _ _ _ h => h) (Or.inr ⟨by rfl, rfl⟩) ?_ ?_
     rotate_left; focus (simp only [Act.put, List.setIfInBounds_toArray, List.set_cons_zero, List.set_cons_succ, i64_w, i32_w, u8_w, u32_w]; rfl; done)
     refine pure_ (i := 22) (N := some 102) (v := undef) (a' := ?_) #[true, true, true, true, true, true, true, true, true, true, true, true, true, true, true, true, true, true, true, true, true, true, true, false, false] rfl rfl (any_of HT_.out (by kernel_rfl)) (fun _ _ _ h => h) (Or.inr ⟨by rfl, rfl⟩) ?_ ?_
     rotate_left; focus (simp only [Act.put, List.setIfInBounds_toArray, List.set_cons_zero, List.set_cons_succ, i64_w, i32_w, u8_w, u32_w]; rfl; done)
     refine pure_ (i := 23) (N := some 103) (v := ?_) (a' := ?_) #[true, true, true, true, true, true, true, true, true, true, true, true, true, true, true, true, true, true, true, true, true, true, true, true, false] rfl rfl (any_of HT_.out (by kernel_rfl)) (fun _ _ _ h => h) (Or.inl ⟨by rfl, ?_⟩) ?_ ?_
     rotate_left; focus (intro w'; go_simp; with_reducible rfl; done)
     rotate_left; focus (simp only [Act.put, List.setIfInBounds_toArray, List.set_cons_zero, List.set_cons_succ, i64_w, i32_w, u8_w, u32_w]; rfl; done)
     refine pure_ (i := 24) (N := some 0) (v := ?_) (a' := ?_) #[true, true, true, true, true, true, true, true, true, true, true, true, true, true, true, true, true, true, true, true, true, true, true, true, true] rfl rfl (any_of HT_.out (by kernel_rfl)) (fun _ _ _ h => h) (Or.inl ⟨by rfl, ?_⟩) ?_ ?_
     rotate_left; focus (intro w'; go_simp; with_reducible rfl; done)
     rotate_left; focus (simp only [Act.put, List.setIfInBounds_toArray, List.set_cons_zero, List.set_cons_succ, i64_w, i32_w, u8_w, u32_w]; rfl; done)
     refine done_ (done_of HT_.out (by kernel_rfl)) ?_
     try go_wp2
     go_ret
     exact ⟨by first | (simp only [ByteArray.size_extract, Nat.min_self]; rfl) | rfl | (simp [errW_none, errW_some] <;> rfl) | (simp [*, errW_none, errW_some] <;> rfl), by repeat (first | (with_reducible first | exact HB.out | apply pA | apply pN | apply pD | refine pS ?_ GE232.out | refine pS ?_ GE240.out | refine pS ?_ GE251.out | refine pS ?_ GE268.out) | exact HB.out)⟩

end Go.Proofs.YteehcopkljiikaaDoor.PA
