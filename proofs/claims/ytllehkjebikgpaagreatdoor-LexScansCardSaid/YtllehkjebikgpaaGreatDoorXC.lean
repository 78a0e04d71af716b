/- lex.Scan: what it comes to, walked by hand over its three labels; no conditions beyond those in each theorem's head. -/
import Derived.Test.YtllehkjebikgpaaGreatDoorPAx0
import Derived.Test.YtllehkjebikgpaaGreatDoorMB
import Derived.Lib.IndexLaws
import Derived.WalkMore
import Derived.ScopeJumps
namespace Go
/-- As Q; by a goto to a label: what holds there. -/
def Exit.jumps (J : Nat → Act → World → Prop) (Q : Exit → Act → World → Prop) : Exit → Act → World → Prop
  | .goto l, a, w => J l a w
  | e, a, w => Q e a w
def at3 (J0 J1 J2 : Nat → Act → World → Prop) (g : Nat) : Nat → Act → World → Prop
  | 0 => J0 g
  | 1 => J1 g
  | 2 => J2 g
  | _ => fun _ _ => False
/-- A scope of three labels, to which the run jumps: what holds at each, over a number that every pass lowers. -/
theorem wp_scope_three {P : Program} {a : Act} {w : World} {Q : Exit → Act → World → Prop} {c r0 r1 r2 : Code} (J0 J1 J2 : Nat → Act → World → Prop)
    (h0 : findLabel c 0 = some (Code.skip.seq r0)) (h1 : findLabel c 1 = some (Code.skip.seq r1)) (h2 : findLabel c 2 = some (Code.skip.seq r2))
    (p0 : ∀ g a w, J0 g a w → r0.wp P (Exit.jumps (fun l a w => ∃ g', g' < g ∧ at3 J0 J1 J2 g' l a w) Q) a w)
    (p1 : ∀ g a w, J1 g a w → r1.wp P (Exit.jumps (fun l a w => ∃ g', g' < g ∧ at3 J0 J1 J2 g' l a w) Q) a w)
    (p2 : ∀ g a w, J2 g a w → r2.wp P (Exit.jumps (fun l a w => ∃ g', g' < g ∧ at3 J0 J1 J2 g' l a w) Q) a w)
    (first : (∀ g a w, J0 g a w → r0.wp P (Exit.jumps (fun l a w => ∃ g', at3 J0 J1 J2 g' l a w) Q) a w) → c.wp P (Exit.jumps (fun l a w => ∃ g', at3 J0 J1 J2 g' l a w) Q) a w) : (Code.scope c).wp P Q a w := by
  intro b k cs
  have hg : ∀ {g l a w}, at3 J0 J1 J2 g l a w → ∃ r, gotoIn l (.inScope c :: k) = some (.code r :: .inScope c :: k) ∧ r.wp P (Exit.jumps (fun l a w => ∃ g', g' < g ∧ at3 J0 J1 J2 g' l a w) Q) a w := by
    intro g l a w h
    match l, h with
    | 0, h => exact ⟨_, by simp [gotoIn, h0], wp_seq (wp_skip (p0 g a w h))⟩
    | 1, h => exact ⟨_, by simp [gotoIn, h1], wp_seq (wp_skip (p1 g a w h))⟩
    | 2, h => exact ⟨_, by simp [gotoIn, h2], wp_seq (wp_skip (p2 g a w h))⟩
  have key : ∀ n l a w, at3 J0 J1 J2 n l a w → ∃ r, gotoIn l (.inScope c :: k) = some (.code r :: .inScope c :: k) ∧ ∃ e a' w', Q e a' w' ∧ Arrives P (lone (b.at a (.code r :: .inScope c :: k)) cs w) b k cs e a' w' := by
    intro n
    induction n using Nat.strongRecOn with
    | _ n ih =>
      intro l a w hJ
      obtain ⟨r, hr, hp⟩ := hg hJ
      refine ⟨r, hr, ?_⟩
      obtain ⟨e, a₁, w₁, hq, harr⟩ := hp b (.inScope c :: k) cs
      cases e with
      | normal => exact ⟨.normal, a₁, w₁, hq, Steps.trans harr (.one step_inScope)⟩
      | exit id => exact ⟨.exit id, a₁, w₁, hq, fun k' hk => harr k' (by simp [exitTo, hk])⟩
      | goto l' =>
        obtain ⟨g', hlt, hJ'⟩ := hq
        obtain ⟨r', hr', e₂, a₂, w₂, hq₂, harr₂⟩ := ih g' hlt l' a₁ w₁ hJ'
        exact ⟨e₂, a₂, w₂, hq₂, .of_steps (harr _ hr') harr₂⟩
      | ret => exact ⟨_, a₁, w₁, hq, harr⟩
      | panic ch => exact ⟨_, a₁, w₁, hq, harr⟩
      | outgrown => exact ⟨_, a₁, w₁, hq, harr⟩
  obtain ⟨e, a₁, w₁, hq, harr⟩ := first (fun g a w h => wp_mono (p0 g a w h) (fun e a w hq => by
    cases e with
    | goto l => obtain ⟨g', _, h⟩ := hq; exact ⟨g', h⟩
    | normal => exact hq
    | exit id => exact hq
    | ret => exact hq
    | panic ch => exact hq
    | outgrown => exact hq)) b (.inScope c :: k) cs
  cases e with
  | normal => exact ⟨.normal, a₁, w₁, hq, .head step_scope (Steps.trans harr (.one step_inScope))⟩
  | exit id => exact ⟨.exit id, a₁, w₁, hq, fun k' hk => .head step_scope (harr k' (by simp [exitTo, hk]))⟩
  | goto l' =>
    obtain ⟨g', hJ'⟩ := hq
    obtain ⟨r', hr', e₂, a₂, w₂, hq₂, harr₂⟩ := key g' l' a₁ w₁ hJ'
    exact ⟨e₂, a₂, w₂, hq₂, .of_steps (.head step_scope (harr _ hr')) harr₂⟩
  | ret => exact ⟨_, a₁, w₁, hq, .of_steps (.one step_scope) harr⟩
  | panic ch => exact ⟨_, a₁, w₁, hq, .of_steps (.one step_scope) harr⟩
  | outgrown => exact ⟨_, a₁, w₁, hq, .of_steps (.one step_scope) harr⟩
end Go
namespace Go.Proofs.YtllehkjebikgpaaGreatDoor.PA
open Go.RowKit Go.Lib Go.Proofs.YtllehkjebikgpaaGreatDoorSh Go.Proofs.YtllehkjebikgpaaGreatDoorW.PrintWords Go.Proofs.YtllehkjebikgpaaGreatDoorW.PrintLast Go.Proofs.YtllehkjebikgpaaGreatDoorW.PrintMore Go.Proofs.YtllehkjebikgpaaGreatDoorX
set_option linter.unusedVariables false
set_option linter.unusedSimpArgs false

/-- What Scan comes to, from a place on. -/
def lex_Scan.l0 : Nat → ByteArray → List S28 → Nat → Option (List S28 × Int × Int)
  | 0, _, _, _ => none
  | k + 1, s, l, i =>
    if i = s.size then (if l.length < 100000 then some (l ++ [⟨1, 0, ⟨#[]⟩, (i : Int)⟩], 0, 0) else none)
    else if i < s.size then (lex_classOf.f k (bt s i)).bind fun c =>
      if c = 1 then lex_Scan.l0 k s l (i + 1)
      else if Lib.hasPrefix (s.extract i s.size).data.toList [45, 45] = true then
        (if Lib.indexByte (s.extract i s.size).data.toList 10 < 0 then lex_Scan.l0 k s l s.size else lex_Scan.l0 k s l (i + (Lib.indexByte (s.extract i s.size).data.toList 10).toNat))
      else (lex_token.f k (s.extract i s.size)).bind fun b =>
        if b.2.2.2.2.2 = 0 then (if l.length < 100000 ∧ 0 ≤ b.2.2.2.2.1 ∧ b.2.2.2.2.1 ≤ 1000 then lex_Scan.l0 k s (l ++ [⟨b.1, b.2.1, b.2.2.1, (i : Int)⟩]) (i + b.2.2.2.2.1.toNat) else none)
        else some ([], (i : Int), b.2.2.2.2.2)
    else none
def lex_Scan.rem (k : Nat) (s : ByteArray) (l : List S28) (i : Nat) : Option (List S28 × Int × Int) :=
  if Lib.indexByte (s.extract i s.size).data.toList 10 < 0 then lex_Scan.l0 k s l s.size else lex_Scan.l0 k s l (i + (Lib.indexByte (s.extract i s.size).data.toList 10).toNat)
def lex_Scan.lay (k : Nat) (s : ByteArray) (l : List S28) (i : Nat) : Option (List S28 × Int × Int) :=
  (lex_token.f k (s.extract i s.size)).bind fun b =>
    if b.2.2.2.2.2 = 0 then (if l.length < 100000 ∧ 0 ≤ b.2.2.2.2.1 ∧ b.2.2.2.2.1 ≤ 1000 then lex_Scan.l0 k s (l ++ [⟨b.1, b.2.1, b.2.2.1, (i : Int)⟩]) (i + b.2.2.2.2.1.toNat) else none)
    else some ([], (i : Int), b.2.2.2.2.2)
def lex_Scan.f (k : Nat) (s : ByteArray) : Option (List S28 × Int × Int) := if s.size ≤ 1000 then lex_Scan.l0 k s [] 0 else some ([], 0, 2)
theorem lex_Scan.mono_l : ∀ k, (∀ y0 y1 y2, LeO (lex_Scan.l0 k y0 y1 y2) (lex_Scan.l0 (k + 1) y0 y1 y2))
  | 0 => fun _ _ _ r h => by simp [lex_Scan.l0] at h
  | k + 1 => by
    have ih0 := lex_Scan.mono_l k
    intro y0 y1 y2
    unfold lex_Scan.l0
    repeat' first
      | (with_reducible exact ih0 _ _ _)
      | (with_reducible exact lex_classOf.mono _ _)
      | (with_reducible exact lex_token.mono _ _)
      | (with_reducible exact LeO.refl _)
      | (with_reducible exact LeO.none _)
      | (with_reducible refine LeO.ite ?_ ?_)
      | (with_reducible refine LeO.bind ?_ (fun _ => ?_))
theorem lex_Scan.mono : ∀ a0 k, LeO (lex_Scan.f k a0) (lex_Scan.f (k + 1) a0) := by
  intro a0 k
  unfold lex_Scan.f
  repeat' first
    | (with_reducible exact lex_Scan.mono_l k _ _ _)
    | (with_reducible exact LeO.refl _)
    | (with_reducible refine LeO.ite ?_ ?_)
theorem indexByte_lt : ∀ (l : List UInt8) (c : UInt8), l ≠ [] → Lib.indexByte l c < l.length
  | [], _, h => absurd rfl h
  | b :: l, c, _ => by
    rw [Lib.indexByte]
    have hl : ((b :: l).length : Int) = l.length + 1 := by simp
    split
    · omega
    · split
      · omega
      · by_cases e : l = []
        · subst e; rw [Lib.indexByte] at *; simp at *
        · have := indexByte_lt l c e; omega

def lex_Scan.J0 (s : ByteArray) (w0 : World) (R : List S28 × Int × Int) (g : Nat) (a : Act) (w : World) : Prop :=
  ∃ (k : Nat) (l : List S28) (i : Nat) (v u2 u3 u4 u7 u8 u9 u10 u11 u12 u13 u14 u15 u16 u17 u18 u19 u20 u21 u22 u23 u24 u25 u26 u27 u28 u29 u30 u31 u32 u33 u34 u35 u36 u37 u38 u39 u40 u41 u42 u43 u44 u45 u46 u47 u48 u49 u50 u51 u52 u53 u54 u55 u56 u57 u58 u59 u60 u61 u62 u63 u64 u65 : Value), a = { tmps := #[.string s, undef, u2, u3, u4, v, .int .i64 ((i : Nat)), u7, u8, u9, u10, u11, u12, u13, u14, u15, u16, u17, u18, u19, u20, u21, u22, u23, u24, u25, u26, u27, u28, u29, u30, u31, u32, u33, u34, u35, u36, u37, u38, u39, u40, u41, u42, u43, u44, u45, u46, u47, u48, u49, u50, u51, u52, u53, u54, u55, u56, u57, u58, u59, u60, u61, u62, u63, u64, u65], defers := [] } ∧ g = 2 * k ∧ Aside0 (lex_Scan.l0 k s l i = some R) ∧ Aside0 (Kd.R k28 28 w w0.heap.size (fun _ => True) v l) ∧ Aside0 (Below w0.heap.size w0 w)
def lex_Scan.J1 (s : ByteArray) (w0 : World) (R : List S28 × Int × Int) (g : Nat) (a : Act) (w : World) : Prop :=
  ∃ (k : Nat) (l : List S28) (i : Nat) (v u2 u3 u4 u7 u8 u9 u10 u11 u12 u13 u14 u15 u16 u17 u18 u19 u20 u21 u22 u23 u24 u25 u26 u27 u28 u29 u30 u31 u32 u33 u34 u35 u36 u37 u38 u39 u40 u41 u42 u43 u44 u45 u46 u47 u48 u49 u50 u51 u52 u53 u54 u55 u56 u57 u58 u59 u60 u61 u62 u63 u64 u65 : Value), a = { tmps := #[.string s, undef, u2, u3, u4, v, .int .i64 ((i : Nat)), u7, u8, u9, u10, u11, u12, u13, u14, u15, u16, u17, u18, u19, u20, u21, u22, u23, u24, u25, u26, u27, u28, u29, u30, u31, u32, u33, u34, u35, u36, u37, u38, u39, u40, u41, u42, u43, u44, u45, u46, u47, u48, u49, u50, u51, u52, u53, u54, u55, u56, u57, u58, u59, u60, u61, u62, u63, u64, u65], defers := [] } ∧ g = 2 * k + 1 ∧ i < s.size ∧ Aside0 (lex_Scan.rem k s l i = some R) ∧ Aside0 (Kd.R k28 28 w w0.heap.size (fun _ => True) v l) ∧ Aside0 (Below w0.heap.size w0 w)
def lex_Scan.J2 (s : ByteArray) (w0 : World) (R : List S28 × Int × Int) (g : Nat) (a : Act) (w : World) : Prop :=
  ∃ (k : Nat) (l : List S28) (i : Nat) (v u2 u3 u4 u7 u8 u9 u10 u11 u12 u13 u14 u15 u16 u17 u18 u19 u20 u21 u22 u23 u24 u25 u26 u27 u28 u29 u30 u31 u32 u33 u34 u35 u36 u37 u38 u39 u40 u41 u42 u43 u44 u45 u46 u47 u48 u49 u50 u51 u52 u53 u54 u55 u56 u57 u58 u59 u60 u61 u62 u63 u64 u65 : Value), a = { tmps := #[.string s, undef, u2, u3, u4, v, .int .i64 ((i : Nat)), u7, u8, u9, u10, u11, u12, u13, u14, u15, u16, u17, u18, u19, u20, u21, u22, u23, u24, u25, u26, u27, u28, u29, u30, u31, u32, u33, u34, u35, u36, u37, u38, u39, u40, u41, u42, u43, u44, u45, u46, u47, u48, u49, u50, u51, u52, u53, u54, u55, u56, u57, u58, u59, u60, u61, u62, u63, u64, u65], defers := [] } ∧ g = 2 * k + 1 ∧ i < s.size ∧ Aside0 (lex_Scan.lay k s l i = some R) ∧ Aside0 (Kd.R k28 28 w w0.heap.size (fun _ => True) v l) ∧ Aside0 (Below w0.heap.size w0 w)
theorem lex_Scan.J0_mk {s : ByteArray} {w0 w : World} {R : List S28 × Int × Int} (k : Nat) (l : List S28) (i : Nat) (j : Int) (hj : j = (i : Int)) {v u2 u3 u4 u7 u8 u9 u10 u11 u12 u13 u14 u15 u16 u17 u18 u19 u20 u21 u22 u23 u24 u25 u26 u27 u28 u29 u30 u31 u32 u33 u34 u35 u36 u37 u38 u39 u40 u41 u42 u43 u44 u45 u46 u47 u48 u49 u50 u51 u52 u53 u54 u55 u56 u57 u58 u59 u60 u61 u62 u63 u64 u65 : Value} (HA : Aside0 (lex_Scan.l0 k s l i = some R)) (HO : Kd.R k28 28 w w0.heap.size (fun _ => True) v l) (HB : Below w0.heap.size w0 w) :
    lex_Scan.J0 s w0 R (2 * k) { tmps := #[.string s, undef, u2, u3, u4, v, .int .i64 (j), u7, u8, u9, u10, u11, u12, u13, u14, u15, u16, u17, u18, u19, u20, u21, u22, u23, u24, u25, u26, u27, u28, u29, u30, u31, u32, u33, u34, u35, u36, u37, u38, u39, u40, u41, u42, u43, u44, u45, u46, u47, u48, u49, u50, u51, u52, u53, u54, u55, u56, u57, u58, u59, u60, u61, u62, u63, u64, u65], defers := [] } w := by
  subst hj
  exact ⟨k, l, i, v, u2, u3, u4, u7, u8, u9, u10, u11, u12, u13, u14, u15, u16, u17, u18, u19, u20, u21, u22, u23, u24, u25, u26, u27, u28, u29, u30, u31, u32, u33, u34, u35, u36, u37, u38, u39, u40, u41, u42, u43, u44, u45, u46, u47, u48, u49, u50, u51, u52, u53, u54, u55, u56, u57, u58, u59, u60, u61, u62, u63, u64, u65, rfl, rfl, HA, ⟨HO⟩, ⟨HB⟩⟩
theorem lex_Scan.J1_mk {s : ByteArray} {w0 w : World} {R : List S28 × Int × Int} (k : Nat) (l : List S28) (i : Nat) (j : Int) (hj : j = (i : Int)) {v u2 u3 u4 u7 u8 u9 u10 u11 u12 u13 u14 u15 u16 u17 u18 u19 u20 u21 u22 u23 u24 u25 u26 u27 u28 u29 u30 u31 u32 u33 u34 u35 u36 u37 u38 u39 u40 u41 u42 u43 u44 u45 u46 u47 u48 u49 u50 u51 u52 u53 u54 u55 u56 u57 u58 u59 u60 u61 u62 u63 u64 u65 : Value} (hi : i < s.size) (HA : Aside0 (lex_Scan.rem k s l i = some R)) (HO : Kd.R k28 28 w w0.heap.size (fun _ => True) v l) (HB : Below w0.heap.size w0 w) :
    lex_Scan.J1 s w0 R (2 * k + 1) { tmps := #[.string s, undef, u2, u3, u4, v, .int .i64 (j), u7, u8, u9, u10, u11, u12, u13, u14, u15, u16, u17, u18, u19, u20, u21, u22, u23, u24, u25, u26, u27, u28, u29, u30, u31, u32, u33, u34, u35, u36, u37, u38, u39, u40, u41, u42, u43, u44, u45, u46, u47, u48, u49, u50, u51, u52, u53, u54, u55, u56, u57, u58, u59, u60, u61, u62, u63, u64, u65], defers := [] } w := by
  subst hj
  exact ⟨k, l, i, v, u2, u3, u4, u7, u8, u9, u10, u11, u12, u13, u14, u15, u16, u17, u18, u19, u20, u21, u22, u23, u24, u25, u26, u27, u28, u29, u30, u31, u32, u33, u34, u35, u36, u37, u38, u39, u40, u41, u42, u43, u44, u45, u46, u47, u48, u49, u50, u51, u52, u53, u54, u55, u56, u57, u58, u59, u60, u61, u62, u63, u64, u65, rfl, rfl, hi, HA, ⟨HO⟩, ⟨HB⟩⟩
theorem lex_Scan.J2_mk {s : ByteArray} {w0 w : World} {R : List S28 × Int × Int} (k : Nat) (l : List S28) (i : Nat) (j : Int) (hj : j = (i : Int)) {v u2 u3 u4 u7 u8 u9 u10 u11 u12 u13 u14 u15 u16 u17 u18 u19 u20 u21 u22 u23 u24 u25 u26 u27 u28 u29 u30 u31 u32 u33 u34 u35 u36 u37 u38 u39 u40 u41 u42 u43 u44 u45 u46 u47 u48 u49 u50 u51 u52 u53 u54 u55 u56 u57 u58 u59 u60 u61 u62 u63 u64 u65 : Value} (hi : i < s.size) (HA : Aside0 (lex_Scan.lay k s l i = some R)) (HO : Kd.R k28 28 w w0.heap.size (fun _ => True) v l) (HB : Below w0.heap.size w0 w) :
    lex_Scan.J2 s w0 R (2 * k + 1) { tmps := #[.string s, undef, u2, u3, u4, v, .int .i64 (j), u7, u8, u9, u10, u11, u12, u13, u14, u15, u16, u17, u18, u19, u20, u21, u22, u23, u24, u25, u26, u27, u28, u29, u30, u31, u32, u33, u34, u35, u36, u37, u38, u39, u40, u41, u42, u43, u44, u45, u46, u47, u48, u49, u50, u51, u52, u53, u54, u55, u56, u57, u58, u59, u60, u61, u62, u63, u64, u65], defers := [] } w := by
  subst hj
  exact ⟨k, l, i, v, u2, u3, u4, u7, u8, u9, u10, u11, u12, u13, u14, u15, u16, u17, u18, u19, u20, u21, u22, u23, u24, u25, u26, u27, u28, u29, u30, u31, u32, u33, u34, u35, u36, u37, u38, u39, u40, u41, u42, u43, u44, u45, u46, u47, u48, u49, u50, u51, u52, u53, u54, u55, u56, u57, u58, u59, u60, u61, u62, u63, u64, u65, rfl, rfl, hi, HA, ⟨HO⟩, ⟨HB⟩⟩
set_option maxHeartbeats 32000000 in
set_option maxRecDepth 1000000 in
theorem lex_Scan.calls (k : Nat) (s : ByteArray) (r1 : List S28) (r2 r3 : Int) (w : World) (h : lex_Scan.f k s = some (r1, r2, r3)) (HG0 : Gw w) :
    Calls Tryz.prog 4 #[.string s] w fun e w' => ∃ v0_ : Value, e = .returned (.tuple #[v0_, .int .i64 r2, .int .i64 r3]) ∧ Kd.R k28 28 w' w.heap.size (fun _ => True) v0_ r1 ∧ Below w.heap.size w w' := by
  have HG := Aside0.mk HG0
  clear HG0
  have HB := Aside0.mk (Below.refl w.heap.size w)
  unfold lex_Scan.f at h
  by_cases hs : s.size ≤ 1000
  · rw [if_pos hs] at h
    have HS := Aside0.mk hs
    have H' := Aside0.mk h
    clear h
    have c2b0 : decide (1000 < (s.size : Int)) = false := decide_eq_false (by omega)
    have c2b1 : decide (1000 < s.size) = false := decide_eq_false (by omega)
    clear hs
    go_enter Tryz.func4, Tryz.ntmps4
    go_wp2
    refine wp_scope_three (lex_Scan.J0 s w (r1, r2, r3)) (lex_Scan.J1 s w (r1, r2, r3)) (lex_Scan.J2 s w (r1, r2, r3)) rfl rfl rfl ?p0 ?p1 ?p2 ?first
    case first =>
      intro hp
      go_wp2
      go_step3
      rename_i K hK
      exact hK _ _ (hp (2 * k) _ _ (lex_Scan.J0_mk k [] 0 0 rfl H' (Kd.R_nil _ _ _ _ _) bel))
    case p0 =>
      clear H' HB
      rintro g a w1 ⟨k, l, i, v, u2, u3, u4, u7, u8, u9, u10, u11, u12, u13, u14, u15, u16, u17, u18, u19, u20, u21, u22, u23, u24, u25, u26, u27, u28, u29, u30, u31, u32, u33, u34, u35, u36, u37, u38, u39, u40, u41, u42, u43, u44, u45, u46, u47, u48, u49, u50, u51, u52, u53, u54, u55, u56, u57, u58, u59, u60, u61, u62, u63, u64, u65, rfl, rfl, HA, HO, HB⟩
      cases k with
      | zero => exact absurd HA.out (by simp [lex_Scan.l0])
      | succ k =>
        have H := HA.out
        clear HA
        rw [lex_Scan.l0] at H
        by_cases e : i = s.size
        · subst e
          rw [if_pos rfl] at H
          by_cases hl : l.length < 100000
          · rw [if_pos hl] at H
            have LM := Aside0.mk hl
            clear hl
            simp only [Option.some.injEq, Prod.mk.injEq] at H
            obtain ⟨rfl, rfl, rfl⟩ := H
            go_wp2_with (((with_reducible refine gate_builtin (b := .append) (xs := #[.tmp 18, .tmp 21]) rfl ?_); at_builtin; refine Kd.R_append k28 (w0 := w) w.heap.size rfl (.tmp 18) (.tmp 21) 22 28 (.agg #[(.int .i64 0), (.int .i64 0), (.string ⟨#[]⟩), (.int .i64 0)]) 40 rfl Tryz.underlying22 info28 rfl (by decide) (by omega) v l (⟨1, 0, (⟨#[]⟩ : ByteArray), (s.size : Int)⟩ : S28) [.int .i64 1, .int .i64 0, .string (⟨#[]⟩ : ByteArray), .int .i64 (s.size : Int)] (fun _ => True) (fun _ => False) rfl rfl ?aP (fun _ hk => hk.elim) ?aF ?aO ?aB ?aS ?aL ?_; (case aP => exact k28_mkM _ _ _ (⟨1, 0, (⟨#[]⟩ : ByteArray), (s.size : Int)⟩ : S28)); (case aB => exact bel); (case aF => exact (fun _ _ => trivial)); (case aO => exact (by (with_reducible repeat (first | apply Kd.R_alloc | apply Kd.R_drewN | apply Kd.R_drew)); exact HO.out)); (case aS => exact (below_size bel)); (case aL => have := LM.out; omega); intro v9 w9 ho hb hg hat; replace HB := Aside0.mk hb; replace HO := Aside0.mk (ho); clear ho hb hg hat))
            simp only [Exit.jumps]
            go_ret3
            exact ⟨_, rfl, by (with_reducible repeat (first | apply Kd.R_alloc | apply Kd.R_drewN | apply Kd.R_drew)); exact HO.out, bel⟩
          · rw [if_neg hl] at H; cases H
        · rw [if_neg e] at H
          by_cases hi : ¬ i < s.size
          · rw [if_neg hi] at H; cases H
          have hi := Decidable.of_not_not hi
          rw [if_pos hi] at H
          have e0 : ((i : Int) == (s.size : Int)) = false := beq_eq_false_iff_ne.mpr (by omega)
          have e1 : (i == s.size) = false := beq_eq_false_iff_ne.mpr e
          have hx : ∀ h : i < s.size, ((s[i]'h).toNat : Int) = bt s i := fun h => bt_at s i h
          have hi0 : ((i : Int) < (s.size : Int)) = True := eq_true (by omega)
          have hi1 : ((i : Int) ≤ (s.size : Int)) = True := eq_true (by omega)
          have hi2 : (i ≤ s.size) = True := eq_true (by omega)
          have HI := Aside0.mk hi
          replace hi := eq_true hi
          clear e
          have HSZ := HS.out
          have hi3 : (i : Int) ≤ 1000 := by have := HI.out; omega
          clear HSZ
          obtain ⟨c, A, H⟩ := Option.bind_eq_some_iff.mp H
          replace A := Aside0.mk A
          by_cases c1 : c = 1
          · subst c1
            rw [if_pos rfl] at H
            replace H := Aside0.mk H
            go_wp2_with (((with_reducible refine gate_callee (f := 7) rfl ?_); refine gL (some 26) Tryz.func7 #[.int .u8 (bt s i)] ?_; (with_reducible refine (lex_classOf.calls k (bt s i) _ _ A.out).mono ?_); rintro e w' ⟨rfl, ⟨nd, rfl⟩⟩; refine ⟨_, rfl, ?_⟩))
            go_step3
            exact ⟨2 * k, by omega, lex_Scan.J0_mk k l (i + 1) _ (by omega) H (by (with_reducible repeat (first | apply Kd.R_alloc | apply Kd.R_drewN | apply Kd.R_drew)); exact HO.out) bel⟩
          · rw [if_neg c1] at H
            have c10 : (c == 1) = false := beq_eq_false_iff_ne.mpr c1
            clear c1
            by_cases hp : Lib.hasPrefix (s.extract i s.size).data.toList [45, 45] = true
            · rw [if_pos hp] at H
              replace H : Aside0 (lex_Scan.rem k s l i = some (r1, r2, r3)) := Aside0.mk H
              have P := Aside0.mk hp
              clear hp
              go_wp2_with (first | ((with_reducible refine gate_callee (f := 7) rfl ?_); refine gL (some 26) Tryz.func7 #[.int .u8 (bt s i)] ?_; (with_reducible refine (lex_classOf.calls k (bt s i) _ _ A.out).mono ?_); rintro e w' ⟨rfl, ⟨nd, rfl⟩⟩; refine ⟨_, rfl, ?_⟩) | (go_at_call 8; refine (strings_HasPrefix.calls _ _ true _ (by show some _ = some _; rw [← P.out])).mono ?_; rintro e w' ⟨rfl, ⟨nd, rfl⟩⟩))
              go_step3
              exact ⟨2 * k + 1, by omega, lex_Scan.J1_mk k l i _ rfl HI.out H (by (with_reducible repeat (first | apply Kd.R_alloc | apply Kd.R_drewN | apply Kd.R_drew)); exact HO.out) bel⟩
            · rw [if_neg hp] at H
              replace H : Aside0 (lex_Scan.lay k s l i = some (r1, r2, r3)) := Aside0.mk H
              have P := Aside0.mk (Bool.eq_false_iff.mpr hp)
              clear hp
              go_wp2_with (first | ((with_reducible refine gate_callee (f := 7) rfl ?_); refine gL (some 26) Tryz.func7 #[.int .u8 (bt s i)] ?_; (with_reducible refine (lex_classOf.calls k (bt s i) _ _ A.out).mono ?_); rintro e w' ⟨rfl, ⟨nd, rfl⟩⟩; refine ⟨_, rfl, ?_⟩) | (go_at_call 8; refine (strings_HasPrefix.calls _ _ false _ (by show some _ = some _; rw [← P.out])).mono ?_; rintro e w' ⟨rfl, ⟨nd, rfl⟩⟩))
              go_step3
              exact ⟨2 * k + 1, by omega, lex_Scan.J2_mk k l i _ rfl HI.out H (by (with_reducible repeat (first | apply Kd.R_alloc | apply Kd.R_drewN | apply Kd.R_drew)); exact HO.out) bel⟩
    case p1 =>
      clear H' HB
      rintro g a w1 ⟨k, l, i, v, u2, u3, u4, u7, u8, u9, u10, u11, u12, u13, u14, u15, u16, u17, u18, u19, u20, u21, u22, u23, u24, u25, u26, u27, u28, u29, u30, u31, u32, u33, u34, u35, u36, u37, u38, u39, u40, u41, u42, u43, u44, u45, u46, u47, u48, u49, u50, u51, u52, u53, u54, u55, u56, u57, u58, u59, u60, u61, u62, u63, u64, u65, rfl, rfl, hi, HA, HO, HB⟩
      have hi0 : ((i : Int) < (s.size : Int)) = True := eq_true (by omega)
      have hi1 : ((i : Int) ≤ (s.size : Int)) = True := eq_true (by omega)
      have hi2 : (i ≤ s.size) = True := eq_true (by omega)
      have hlt := indexByte_lt (s.extract i s.size).data.toList 10 (by
        intro h
        have := congrArg List.length h
        rw [Array.length_toList] at this
        have h2 : (s.extract i s.size).size = 0 := this
        rw [ByteArray.size_extract] at h2
        omega)
      have hge := Lib.indexByte_ge (s.extract i s.size).data.toList 10
      have hlen : (s.extract i s.size).data.toList.length = s.size - i := by rw [Array.length_toList]; show (s.extract i s.size).size = _; rw [ByteArray.size_extract]; omega
      rw [hlen] at hlt
      clear hlen
      have H := HA.out
      clear HA
      unfold lex_Scan.rem at H
      obtain ⟨n, hn⟩ : ∃ n, n = Lib.indexByte (s.extract i s.size).data.toList 10 := ⟨_, rfl⟩
      rw [← hn] at H hlt hge
      have HN := Aside0.mk hn
      clear hn
      have HSZ := HS.out
      by_cases n0 : n < 0
      · rw [if_pos n0] at H
        replace H := Aside0.mk H
        have n1 : decide (n < 0) = true := decide_eq_true n0
        clear n0 hlt hge HSZ
        go_wp2_with (go_at_call 9; refine (strings_IndexByte.calls _ _ n _ (by show some _ = some _; rw [HN.out]; rfl)).mono ?_; rintro e w' ⟨rfl, ⟨nd, rfl⟩⟩)
        go_step3
        exact ⟨2 * k, by omega, lex_Scan.J0_mk k l s.size _ rfl H (by (with_reducible repeat (first | apply Kd.R_alloc | apply Kd.R_drewN | apply Kd.R_drew)); exact HO.out) bel⟩
      · rw [if_neg n0] at H
        replace H := Aside0.mk H
        have n1 : decide (n < 0) = false := decide_eq_false n0
        have hb1 : 0 ≤ (i : Int) + n := by omega
        have hb2 : (i : Int) + n ≤ 1000 := by omega
        have NN := Aside0.mk (show (i : Int) + n = ((i + n.toNat : Nat) : Int) by omega)
        clear n0 hlt hge HSZ
        go_wp2_with (go_at_call 9; refine (strings_IndexByte.calls _ _ n _ (by show some _ = some _; rw [HN.out]; rfl)).mono ?_; rintro e w' ⟨rfl, ⟨nd, rfl⟩⟩)
        go_step3
        exact ⟨2 * k, by omega, lex_Scan.J0_mk k l (i + n.toNat) _ NN.out H (by (with_reducible repeat (first | apply Kd.R_alloc | apply Kd.R_drewN | apply Kd.R_drew)); exact HO.out) bel⟩
    case p2 =>
      clear H' HB
      rintro g a w1 ⟨k, l, i, v, u2, u3, u4, u7, u8, u9, u10, u11, u12, u13, u14, u15, u16, u17, u18, u19, u20, u21, u22, u23, u24, u25, u26, u27, u28, u29, u30, u31, u32, u33, u34, u35, u36, u37, u38, u39, u40, u41, u42, u43, u44, u45, u46, u47, u48, u49, u50, u51, u52, u53, u54, u55, u56, u57, u58, u59, u60, u61, u62, u63, u64, u65, rfl, rfl, hi, HA, HO, HB⟩
      have hi0 : ((i : Int) < (s.size : Int)) = True := eq_true (by omega)
      have hi1 : ((i : Int) ≤ (s.size : Int)) = True := eq_true (by omega)
      have hi2 : (i ≤ s.size) = True := eq_true (by omega)
      have HSZ := HS.out
      have hi3 : (i : Int) ≤ 1000 := by omega
      clear HSZ
      have H := HA.out
      clear HA
      unfold lex_Scan.lay at H
      obtain ⟨⟨t1, t2, t3, t4, t5, t6⟩, A, H⟩ := Option.bind_eq_some_iff.mp H
      replace A := Aside0.mk A
      replace H : (if t6 = 0 then (if l.length < 100000 ∧ 0 ≤ t5 ∧ t5 ≤ 1000 then lex_Scan.l0 k s (l ++ [⟨t1, t2, t3, (i : Int)⟩]) (i + t5.toNat) else none) else some ([], (i : Int), t6)) = some (r1, r2, r3) := H
      by_cases e6 : t6 = 0
      · rw [if_pos e6] at H
        have e60 : (t6 != 0) = false := bne_eq_false_iff_eq.mpr e6
        clear e6
        by_cases hb : l.length < 100000 ∧ 0 ≤ t5 ∧ t5 ≤ 1000
        · rw [if_pos hb] at H
          replace H := Aside0.mk H
          have LM := Aside0.mk hb.1
          have hb1 : 0 ≤ (i : Int) + t5 := by omega
          have hb2 : (i : Int) + t5 ≤ 2000 := by omega
          have NN := Aside0.mk (show (i : Int) + t5 = ((i + t5.toNat : Nat) : Int) by omega)
          clear hb
          go_wp2_with (first | ((with_reducible refine gate_callee (f := 10) rfl ?_); refine gL (some 49) Tryz.func10 #[.string (s.extract i s.size)] ?_; (with_reducible refine (lex_token.calls k (s.extract i s.size) t1 t2 t3 t4 t5 t6 _ A.out (gk HG)).mono ?_); rintro e w2 ⟨rfl, hb⟩; refine ⟨_, rfl, ?_⟩; replace HO := Aside0.mk (Kd.R_below (by (with_reducible repeat (first | apply Kd.R_alloc | apply Kd.R_drewN | apply Kd.R_drew)); exact HO.out) hb); replace HB := bs hb; clear hb) | ((with_reducible refine gate_dst (N := 8) rfl ?_); refine box_event ?hg (N := 8) ?hd (cs := #[.int .i64 0, .int .i64 0, .string (⟨#[]⟩ : ByteArray), .int .i64 0]) (t := 28) ?hr ?_; (case hd => rfl); (case hg => rfl); (case hr => first | (go_simp; done) | (go_simp; rfl)); intro gb hg w3 hbox hb; have BK := Aside0.mk hbox; have GW := bz hg; have GE := bz hg; replace HO := Aside0.mk (Kd.R_below (Kd.R_elderB (by (with_reducible repeat (first | apply Kd.R_alloc | apply Kd.R_drewN | apply Kd.R_drew)); exact HO.out) gb (Nat.le_of_eq hg.symm)) hb); replace HB := bs hb; clear hb hbox hg; have hcw3_0 : w3.cell? ⟨gb, 0, none⟩ = some (.int .i64 0) := (blk_cell BK.out 0).trans rfl; have hfw3_0 := blk_frozen BK.out 0; have hcw3_1 : w3.cell? ⟨gb, 1, none⟩ = some (.int .i64 0) := (blk_cell BK.out 1).trans rfl; have hfw3_1 := blk_frozen BK.out 1; have hcw3_2 : w3.cell? ⟨gb, 2, none⟩ = some (.string (⟨#[]⟩ : ByteArray)) := (blk_cell BK.out 2).trans rfl; have hfw3_2 := blk_frozen BK.out 2; have hcw3_3 : w3.cell? ⟨gb, 3, none⟩ = some (.int .i64 0) := (blk_cell BK.out 3).trans rfl; have hfw3_3 := blk_frozen BK.out 3) | ((with_reducible refine gate_store (t := 28) (p := 8) rfl ?_); refine store_event (t := 28) (p := 8) (v := ?vo_w4) (w1 := ((((w3.setCell ⟨gb, 0, none⟩ (.int .i64 t1)).setCell ⟨gb, 1, none⟩ (.int .i64 t2)).setCell ⟨gb, 2, none⟩ (.string t3)).setCell ⟨gb, 3, none⟩ (.int .i64 t4))) ?hg ?ho ?hn ?hr ?_; (case ho => rfl); (case hg => rfl); (case hn => rfl); (case hr => first | (go_simp; done) | (go_simp; rfl)); intro w4 hw; replace HO : Aside0 (Kd.R k28 28 w4 w.heap.size (fun k_ => k_ ≠ gb) v l) := ⟨(by rw [hw]; exact (by (with_reducible repeat (first | apply Kd.R_alloc | apply Kd.R_drewN | apply Kd.R_drew)); exact Kd.R_mono (Kd.R_far (p := ⟨gb, 3, none⟩) (Kd.R_far (p := ⟨gb, 2, none⟩) (Kd.R_far (p := ⟨gb, 1, none⟩) (Kd.R_far (p := ⟨gb, 0, none⟩) (Kd.R_mono HO.out (fun k_ hk => (⟨hk, hk.2⟩ : _ ∧ k_ ≠ gb))) (fun _ hk => hk.2) (.int .i64 t1)) (fun _ hk => hk.2) (.int .i64 t2)) (fun _ hk => hk.2) (.string t3)) (fun _ hk => hk.2) (.int .i64 t4)) (fun _ hk => hk.1.2)))⟩; replace BK : Aside0 (w4.heap[gb]? = some (.cells #[.int .i64 t1, .int .i64 t2, .string t3, .int .i64 t4] 28 (0, 0))) := bp BK hw; replace HB := bv hw; clear hw; have hcw4_0 : w4.cell? ⟨gb, 0, none⟩ = some (.int .i64 t1) := (blk_cell BK.out 0).trans rfl; have hfw4_0 := blk_frozen BK.out 0; have hcw4_1 : w4.cell? ⟨gb, 1, none⟩ = some (.int .i64 t2) := (blk_cell BK.out 1).trans rfl; have hfw4_1 := blk_frozen BK.out 1; have hcw4_2 : w4.cell? ⟨gb, 2, none⟩ = some (.string t3) := (blk_cell BK.out 2).trans rfl; have hfw4_2 := blk_frozen BK.out 2; have hcw4_3 : w4.cell? ⟨gb, 3, none⟩ = some (.int .i64 t4) := (blk_cell BK.out 3).trans rfl; have hfw4_3 := blk_frozen BK.out 3) | ((with_reducible refine gate_store (t := 3) (p := 58) rfl ?_); refine store_event (t := 3) (p := 58) (v := ?vo_w5) (w1 := (w4.setCell ⟨gb, 3, none⟩ (.int .i64 (i : Int)))) ?hg ?ho ?hn ?hr ?_; (case ho => rfl); (case hg => rfl); (case hn => rfl); (case hr => first | (go_simp; done) | (go_simp; rfl)); intro w5 hw; replace HO : Aside0 (Kd.R k28 28 w5 w.heap.size (fun k_ => k_ ≠ gb) v l) := ⟨(by rw [hw]; exact (by (with_reducible repeat (first | apply Kd.R_alloc | apply Kd.R_drewN | apply Kd.R_drew)); exact Kd.R_mono (Kd.R_far (p := ⟨gb, 3, none⟩) (Kd.R_mono HO.out (fun k_ hk => (⟨hk, hk⟩ : _ ∧ k_ ≠ gb))) (fun _ hk => hk.2) (.int .i64 (i : Int))) (fun _ hk => hk.1)))⟩; replace BK : Aside0 (w5.heap[gb]? = some (.cells #[.int .i64 t1, .int .i64 t2, .string t3, .int .i64 (i : Int)] 28 (0, 0))) := bp BK hw; replace HB := bv hw; clear hw; have hcw5_0 : w5.cell? ⟨gb, 0, none⟩ = some (.int .i64 t1) := (blk_cell BK.out 0).trans rfl; have hfw5_0 := blk_frozen BK.out 0; have hcw5_1 : w5.cell? ⟨gb, 1, none⟩ = some (.int .i64 t2) := (blk_cell BK.out 1).trans rfl; have hfw5_1 := blk_frozen BK.out 1; have hcw5_2 : w5.cell? ⟨gb, 2, none⟩ = some (.string t3) := (blk_cell BK.out 2).trans rfl; have hfw5_2 := blk_frozen BK.out 2; have hcw5_3 : w5.cell? ⟨gb, 3, none⟩ = some (.int .i64 (i : Int)) := (blk_cell BK.out 3).trans rfl; have hfw5_3 := blk_frozen BK.out 3) | ((with_reducible refine gate_builtin (b := .append) (xs := #[.tmp 59, .tmp 61]) rfl ?_); at_builtin; refine Kd.R_append k28 (w0 := w) w.heap.size rfl (.tmp 59) (.tmp 61) 22 28 (.agg #[(.int .i64 0), (.int .i64 0), (.string ⟨#[]⟩), (.int .i64 0)]) 40 rfl Tryz.underlying22 info28 rfl (by decide) (by omega) v l (⟨t1, t2, t3, (i : Int)⟩ : S28) [.int .i64 t1, .int .i64 t2, .string t3, .int .i64 (i : Int)] (fun k_ => k_ ≠ gb) (fun _ => False) rfl rfl ?aP (fun _ hk => hk.elim) ?aF ?aO ?aB ?aS ?aL ?_; (case aP => exact k28_mkM _ _ _ (⟨t1, t2, t3, (i : Int)⟩ : S28)); (case aB => exact bel); (case aF => exact (fun k_ hk => Kd.freshB (g := gb) (o := .cells #[.int .i64 t1, .int .i64 t2, .string t3, .int .i64 (i : Int)] 28 (0, 0)) (by (with_reducible repeat (first | refine blk_drewN ?_ _ | refine blk_drew ?_ | refine blk_alloc ?_ _)); exact BK.out) k_ hk)); (case aO => exact (by (with_reducible repeat (first | apply Kd.R_alloc | apply Kd.R_drewN | apply Kd.R_drew)); exact HO.out)); (case aS => exact (below_size bel)); (case aL => have := LM.out; omega); intro v9 w9 ho hb hg hat; replace HB := Aside0.mk hb; replace HO := Aside0.mk (show Kd.R k28 28 w9 w.heap.size (fun _ => True) v9 _ from Kd.R_mono ho (fun _ _ => trivial)); clear ho hb hg hat))
          go_step3
          exact ⟨2 * k, by omega, lex_Scan.J0_mk k _ (i + t5.toNat) _ NN.out H (by (with_reducible repeat (first | apply Kd.R_alloc | apply Kd.R_drewN | apply Kd.R_drew)); exact HO.out) bel⟩
        · rw [if_neg hb] at H; cases H
      · rw [if_neg e6] at H
        have e60 : (t6 != 0) = true := bne_iff_ne.mpr e6
        clear e6
        simp only [Option.some.injEq, Prod.mk.injEq] at H
        obtain ⟨rfl, rfl, rfl⟩ := H
        go_wp2_with (first | ((with_reducible refine gate_callee (f := 10) rfl ?_); refine gL (some 49) Tryz.func10 #[.string (s.extract i s.size)] ?_; (with_reducible refine (lex_token.calls k (s.extract i s.size) t1 t2 t3 t4 t5 t6 _ A.out (gk HG)).mono ?_); rintro e w2 ⟨rfl, hb⟩; refine ⟨_, rfl, ?_⟩; replace HO := Aside0.mk (Kd.R_below (by (with_reducible repeat (first | apply Kd.R_alloc | apply Kd.R_drewN | apply Kd.R_drew)); exact HO.out) hb); replace HB := bs hb; clear hb) | ((with_reducible refine gate_dst (N := 8) rfl ?_); refine box_event ?hg (N := 8) ?hd (cs := #[.int .i64 0, .int .i64 0, .string (⟨#[]⟩ : ByteArray), .int .i64 0]) (t := 28) ?hr ?_; (case hd => rfl); (case hg => rfl); (case hr => first | (go_simp; done) | (go_simp; rfl)); intro gb hg w3 hbox hb; have BK := Aside0.mk hbox; have GW := bz hg; have GE := bz hg; replace HO := Aside0.mk (Kd.R_below (Kd.R_elderB (by (with_reducible repeat (first | apply Kd.R_alloc | apply Kd.R_drewN | apply Kd.R_drew)); exact HO.out) gb (Nat.le_of_eq hg.symm)) hb); replace HB := bs hb; clear hb hbox hg; have hcw3_0 : w3.cell? ⟨gb, 0, none⟩ = some (.int .i64 0) := (blk_cell BK.out 0).trans rfl; have hfw3_0 := blk_frozen BK.out 0; have hcw3_1 : w3.cell? ⟨gb, 1, none⟩ = some (.int .i64 0) := (blk_cell BK.out 1).trans rfl; have hfw3_1 := blk_frozen BK.out 1; have hcw3_2 : w3.cell? ⟨gb, 2, none⟩ = some (.string (⟨#[]⟩ : ByteArray)) := (blk_cell BK.out 2).trans rfl; have hfw3_2 := blk_frozen BK.out 2; have hcw3_3 : w3.cell? ⟨gb, 3, none⟩ = some (.int .i64 0) := (blk_cell BK.out 3).trans rfl; have hfw3_3 := blk_frozen BK.out 3) | ((with_reducible refine gate_store (t := 28) (p := 8) rfl ?_); refine store_event (t := 28) (p := 8) (v := ?vo_w4) (w1 := ((((w3.setCell ⟨gb, 0, none⟩ (.int .i64 t1)).setCell ⟨gb, 1, none⟩ (.int .i64 t2)).setCell ⟨gb, 2, none⟩ (.string t3)).setCell ⟨gb, 3, none⟩ (.int .i64 t4))) ?hg ?ho ?hn ?hr ?_; (case ho => rfl); (case hg => rfl); (case hn => rfl); (case hr => first | (go_simp; done) | (go_simp; rfl)); intro w4 hw; replace HO : Aside0 (Kd.R k28 28 w4 w.heap.size (fun k_ => k_ ≠ gb) v l) := ⟨(by rw [hw]; exact (by (with_reducible repeat (first | apply Kd.R_alloc | apply Kd.R_drewN | apply Kd.R_drew)); exact Kd.R_mono (Kd.R_far (p := ⟨gb, 3, none⟩) (Kd.R_far (p := ⟨gb, 2, none⟩) (Kd.R_far (p := ⟨gb, 1, none⟩) (Kd.R_far (p := ⟨gb, 0, none⟩) (Kd.R_mono HO.out (fun k_ hk => (⟨hk, hk.2⟩ : _ ∧ k_ ≠ gb))) (fun _ hk => hk.2) (.int .i64 t1)) (fun _ hk => hk.2) (.int .i64 t2)) (fun _ hk => hk.2) (.string t3)) (fun _ hk => hk.2) (.int .i64 t4)) (fun _ hk => hk.1.2)))⟩; replace BK : Aside0 (w4.heap[gb]? = some (.cells #[.int .i64 t1, .int .i64 t2, .string t3, .int .i64 t4] 28 (0, 0))) := bp BK hw; replace HB := bv hw; clear hw; have hcw4_0 : w4.cell? ⟨gb, 0, none⟩ = some (.int .i64 t1) := (blk_cell BK.out 0).trans rfl; have hfw4_0 := blk_frozen BK.out 0; have hcw4_1 : w4.cell? ⟨gb, 1, none⟩ = some (.int .i64 t2) := (blk_cell BK.out 1).trans rfl; have hfw4_1 := blk_frozen BK.out 1; have hcw4_2 : w4.cell? ⟨gb, 2, none⟩ = some (.string t3) := (blk_cell BK.out 2).trans rfl; have hfw4_2 := blk_frozen BK.out 2; have hcw4_3 : w4.cell? ⟨gb, 3, none⟩ = some (.int .i64 t4) := (blk_cell BK.out 3).trans rfl; have hfw4_3 := blk_frozen BK.out 3))
        simp only [Exit.jumps]
        go_ret3
        exact ⟨_, rfl, Kd.R_nil _ _ _ _ _, bel⟩
  · rw [if_neg hs] at h
    have c2b0 : decide (1000 < (s.size : Int)) = true := decide_eq_true (by omega)
    have c2b1 : decide (1000 < s.size) = true := decide_eq_true (by omega)
    clear hs
    have h := Option.some.inj h
    simp only [Prod.mk.injEq] at h
    obtain ⟨rfl, rfl, rfl⟩ := h
    go_enter Tryz.func4, Tryz.ntmps4
    go_wp2
    go_step3
    go_wp2
    rw [Exit.noGoto_ret]
    go_ret3
    exact ⟨_, rfl, Kd.R_nil _ _ _ _ _, bel⟩
end Go.Proofs.YtllehkjebikgpaaGreatDoor.PA
