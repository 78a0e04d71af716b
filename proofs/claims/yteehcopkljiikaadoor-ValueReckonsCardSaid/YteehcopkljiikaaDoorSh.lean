/- The shelf's contracts that package value's walks use, laid at this dump over one numbering found by name (printed by wip/gen/shelfby.py); no conditions beyond those in each theorem's head. -/
import Derived.Shelf.Strings.Builder1
import Derived.Shelf.Strings.Builder2
import Derived.Shelf.Small.Strs
import Derived.Shelf.Small.Wraps
import Derived.Shelf.Strings.BuilderF
import Derived.Shelf.Strings.BuilderK
import Derived.Shelf.LaysM
import Derived.Test.YteehcopkljiikaaDoorProg
namespace Go.Proofs.YteehcopkljiikaaDoorSh
open Go.Shelf
def ren : Go.Shelf.Ren := ⟨fun | 0 => 0 | 1 => 1 | 2 => 2 | 99 => 71 | 106 => 41 | 118 => 80 | 121 => 54 | 122 => 40 | 129 => 105 | 158 => 53 | 165 => 65 | 166 => 66 | 167 => 55 | 168 => 81 | 169 => 56 | 171 => 52 | 172 => 60 | 197 => 79 | 203 => 68 | 205 => 103 | 206 => 85 | 213 => 63 | 214 => 69 | 215 => 62 | 230 => 67 | 240 => 70 | 241 => 78 | 242 => 98 | 243 => 64 | 244 => 73 | 245 => 74 | 246 => 77 | 247 => 87 | 260 => 97 | 262 => 83 | 265 => 76 | 270 => 82 | 274 => 110 | 275 => 111 | 276 => 84 | 277 => 96 | 278 => 109 | 279 => 88 | 280 => 89 | 281 => 90 | 282 => 91 | 283 => 92 | 284 => 93 | 285 => 94 | 286 => 95 | 287 => 86 | 313 => 99 | 316 => 102 | 317 => 104 | 318 => 106 | 319 => 107 | 320 => 108 | 321 => 100 | 322 => 101 | 337 => 112 | 338 => 113 | 347 => 114 | 348 => 115 | 349 => 116 | 350 => 117 | 351 => 118 | 352 => 119 | 353 => 120 | 354 => 121 | 355 => 122 | 356 => 123 | 357 => 124 | 358 => 125 | 359 => 126 | 360 => 127 | 361 => 128 | 362 => 130 | 363 => 133 | 364 => 131 | 365 => 132 | 366 => 134 | 367 => 145 | n => n, fun | 0 => 0 | 1 => 1 | 2 => 2 | 3 => 3 | 4 => 4 | 5 => 5 | 6 => 6 | 7 => 7 | 8 => 8 | 9 => 9 | 10 => 10 | 11 => 11 | 12 => 12 | 13 => 13 | 14 => 14 | 15 => 15 | 16 => 16 | 17 => 17 | 18 => 18 | 19 => 19 | 20 => 20 | 21 => 21 | 22 => 81 | 24 => 71 | 27 => 49 | 28 => 52 | 37 => 64 | 39 => 90 | 42 => 62 | 43 => 48 | 46 => 46 | 47 => 122 | 48 => 86 | 51 => 120 | 52 => 133 | 53 => 82 | 54 => 103 | 69 => 61 | 70 => 63 | 71 => 65 | 72 => 66 | 73 => 77 | 74 => 67 | 75 => 68 | 76 => 73 | 77 => 74 | 78 => 69 | 79 => 91 | 80 => 70 | 81 => 92 | 83 => 60 | 84 => 87 | 85 => 97 | 86 => 98 | 104 => 113 | 105 => 88 | 106 => 89 | 107 => 79 | 108 => 116 | 111 => 76 | 114 => 117 | 119 => 123 | 121 => 78 | 126 => 108 | 127 => 80 | 128 => 85 | 131 => 56 | 137 => 124 | 138 => 125 | 139 => 126 | 142 => 93 | 143 => 130 | 144 => 131 | 145 => 132 | 160 => 127 | 161 => 128 | 162 => 111 | 163 => 129 | 164 => 94 | 165 => 95 | 166 => 107 | 167 => 96 | 168 => 99 | 169 => 100 | 170 => 101 | 171 => 102 | 172 => 104 | 173 => 105 | 174 => 106 | 175 => 83 | 176 => 84 | 203 => 109 | 204 => 110 | 205 => 134 | 206 => 135 | 207 => 136 | 208 => 137 | 209 => 114 | 210 => 115 | 211 => 118 | 212 => 119 | 213 => 121 | 214 => 112 | 232 => 138 | 233 => 139 | 238 => 140 | 239 => 141 | 240 => 142 | 241 => 143 | 242 => 144 | 243 => 145 | 244 => 146 | 245 => 147 | 246 => 148 | 247 => 149 | 248 => 150 | 249 => 151 | n => n, fun | 1 => 0 | 3 => 5 | 4 => 6 | 13 => 1 | 15 => 2 | 16 => 3 | 17 => 4 | 18 => 7 | 19 => 8 | n => n⟩
theorem lays106 : Go.Proofs.Lays.n106 Tryd.prog ren := {
  mixed := by kernel_rfl
  f106 := Tryd.func41.trans (congrArg some (by kernel_rfl))
  f213 := Tryd.func63.trans (congrArg some (by kernel_rfl))
  f265 := Tryd.func76.trans (congrArg some (by kernel_rfl))
  t3 := Tryd.underlying3
  a3 := Tryd.isAgg3
  z3 := Tryd.sizeOf3
  v3 := Tryd.zeroValue3
  t9 := Tryd.underlying9
  a9 := Tryd.isAgg9
  z9 := Tryd.sizeOf9
  v9 := Tryd.zeroValue9 }
theorem lays167 : Go.Proofs.Lays.n167 Tryd.prog ren := {
  mixed := by kernel_rfl
  f167 := Tryd.func55.trans (congrArg some (by kernel_rfl))
  f240 := Tryd.func70.trans (congrArg some (by kernel_rfl))
  f276 := Tryd.func84.trans (congrArg some (by kernel_rfl))
  t0 := Tryd.underlying0
  a0 := Tryd.isAgg0
  z0 := Tryd.sizeOf0
  v0 := Tryd.zeroValue0
  t4 := Tryd.underlying4
  a4 := Tryd.isAgg4
  z4 := Tryd.sizeOf4
  v4 := Tryd.zeroValue4
  t5 := Tryd.underlying5
  a5 := Tryd.isAgg5
  z5 := Tryd.sizeOf5
  v5 := Tryd.zeroValue5
  t9 := Tryd.underlying9
  a9 := Tryd.isAgg9
  z9 := Tryd.sizeOf9
  v9 := Tryd.zeroValue9
  t20 := Tryd.underlying20
  a20 := Tryd.isAgg20
  z20 := Tryd.sizeOf20
  v20 := Tryd.zeroValue20
  t37 := Tryd.underlying64
  a37 := Tryd.isAgg64
  z37 := Tryd.sizeOf64
  v37 := Tryd.zeroValue64
  t70 := Tryd.underlying63
  a70 := Tryd.isAgg63
  z70 := Tryd.sizeOf63
  v70 := Tryd.zeroValue63
  t72 := Tryd.underlying66
  a72 := Tryd.isAgg66
  z72 := Tryd.sizeOf66
  v72 := Tryd.zeroValue66
  t75 := Tryd.underlying68
  a75 := Tryd.isAgg68
  z75 := Tryd.sizeOf68
  v75 := Tryd.zeroValue68
  t164 := Tryd.underlying94
  a164 := Tryd.isAgg94
  z164 := Tryd.sizeOf94
  v164 := Tryd.zeroValue94 }
theorem lays169 : Go.Proofs.Lays.n169 Tryd.prog ren := {
  mixed := by kernel_rfl
  f169 := Tryd.func56.trans (congrArg some (by kernel_rfl))
  t0 := Tryd.underlying0
  a0 := Tryd.isAgg0
  z0 := Tryd.sizeOf0
  v0 := Tryd.zeroValue0
  t3 := Tryd.underlying3
  a3 := Tryd.isAgg3
  z3 := Tryd.sizeOf3
  v3 := Tryd.zeroValue3
  t9 := Tryd.underlying9
  a9 := Tryd.isAgg9
  z9 := Tryd.sizeOf9
  v9 := Tryd.zeroValue9
  t37 := Tryd.underlying64
  a37 := Tryd.isAgg64
  z37 := Tryd.sizeOf64
  v37 := Tryd.zeroValue64
  t70 := Tryd.underlying63
  a70 := Tryd.isAgg63
  z70 := Tryd.sizeOf63
  v70 := Tryd.zeroValue63
  t72 := Tryd.underlying66
  a72 := Tryd.isAgg66
  z72 := Tryd.sizeOf66
  v72 := Tryd.zeroValue66
  t127 := Tryd.underlying80
  a127 := Tryd.isAgg80
  z127 := Tryd.sizeOf80
  v127 := Tryd.zeroValue80 }
theorem extra : Builder.Extra Tryd.prog ren := {
  sizeBuilder := by kernel_rfl
  liesBuilder := by kernel_rfl
  t5 := Tryd.underlying5
  a5 := Tryd.isAgg5
  z5 := Tryd.sizeOf5
  v5 := Tryd.zeroValue5
  infoByte := by kernel_rfl
  cellsByte := by kernel_rfl
  sizeByte := by kernel_rfl
  neB5 := by decide }
open Go.RowKit
theorem strings_Compare (a b : ByteArray) (w : World) :
    Calls Tryd.prog 41 #[.string a, .string b] w fun e w' => e = .returned (.int .i64 (Lib.compareBytes a.data.toList b.data.toList)) ∧ w' = w := Any.strings_Compare lays106 a b w
theorem Builder_WriteByte (B b : Nat) (bs : List Value) (c : Int) (w : World) (h : Lib.IsBuilderF 66 5 B b bs w) (hlen : bs.length + 1 ≤ 140737488355328) (hBw : B ≤ w.heap.size) :
    Calls Tryd.prog 55 #[.pointer (some ⟨b, 0, none⟩), .int .u8 c] w fun e w' => e = .returned .nilIface ∧ (Lib.BuilderAtF 66 5 B b (.pointer (some ⟨b, 0, none⟩)) (bs ++ [.int .u8 c]) w' ∧ Below B w w' ∧ Lib.OthersKept 5 (some b) w w') := Any.Builder_WriteByte_k lays167 extra B b bs c w h hlen hBw
theorem Builder_String (B b : Nat) (l : List UInt8) (w : World) (h : Lib.IsBuilderF 66 5 B b (Lib.byteCells l) w) (hBw : B ≤ w.heap.size) :
    Calls Tryd.prog 56 #[.pointer (some ⟨b, 0, none⟩)] w fun e w' => e = .returned (.string ⟨l.toArray⟩) ∧ (Lib.IsBuilderF 66 5 B b (Lib.byteCells l) w' ∧ Below B w w' ∧ Lib.OthersKept 5 (some b) w w') := Any.Builder_String_any_k lays169 extra B b l w h hBw
end Go.Proofs.YteehcopkljiikaaDoorSh
