/- plays, of the law; no conditions beyond those in each theorem's head. -/
import Derived.Test.YtakhnkkcllfbjaaDoorS1
import Derived.Test.YtakhnkkcllfbjaaDoorG6
namespace Go.Proofs.YtakhnkkcllfbjaaDoorX
open Go.RowKit Go.Proofs.YtakhnkkcllfbjaaDoorW.PrintWords Go.Proofs.YtakhnkkcllfbjaaDoorW.PrintLast Go.Proofs.YtakhnkkcllfbjaaDoorW.PrintMore
open Go.Proofs.YtakhnkkcllfbjaaDoor.PA (S37 k37 z37 S51 k37_open k37_openM k37_mk k37_mkM)
set_option linter.unusedVariables false
set_option linter.unusedSimpArgs false
theorem box_cells6 {w1 : World} {gb : Nat} {x0 : Int} {x1 x2 x3 : ByteArray} {x4 : Int} {v : Value} (h : w1.heap[gb]? = some (.cells #[.int .i64 x0, .string x1, .string x2, .string x3, .int .i64 x4, v] 51 (0, 0))) :
    w1.cell? ⟨gb, 0, none⟩ = some (.int .i64 x0) ∧ w1.cell? ⟨gb, 1, none⟩ = some (.string x1) ∧ w1.cell? ⟨gb, 2, none⟩ = some (.string x2) ∧ w1.cell? ⟨gb, 3, none⟩ = some (.string x3) ∧ w1.cell? ⟨gb, 4, none⟩ = some (.int .i64 x4) ∧ w1.cell? ⟨gb, 5, none⟩ = some v :=
  ⟨(blk_cell h 0).trans rfl, (blk_cell h 1).trans rfl, (blk_cell h 2).trans rfl, (blk_cell h 3).trans rfl, (blk_cell h 4).trans rfl, (blk_cell h 5).trans rfl⟩
set_option maxRecDepth 100000 in
set_option maxHeartbeats 8000000 in
theorem plays_calls {w0 w : World} {a r : Nat} {S : List Nat} {v : Value} {D : AD} (h : Both w0.heap.size w0 w a S r v D D) (x : S51) (A5 : Option Addr) (c5 : Nat) (hc5 : x.f5.length ≤ c5) (hC : (Kd.int .i64).C w0 A5 x.f5.length x.f5)
    (hs1 : x.f1.size ≤ maxLen) (hs2 : x.f2.size ≤ maxLen) (h4 : x.f4 ≤ 9223372036854775807) (h5 : x.f5.length ≤ 2147483647) :
    Calls Tryd.prog 25 #[.pointer (some ⟨a, 0, none⟩), .pointer (some ⟨r, 0, none⟩), .agg #[.int .i64 x.f0, .string x.f1, .string x.f2, .string x.f3, .int .i64 x.f4, .slice A5 x.f5.length c5]] w fun e w' => e = .returned (.bool true) ∧ ∃ S' v', Both w0.heap.size w0 w' a S' r v' (D.plays x) (D.plays x) := by
  obtain ⟨x0, x1, x2, x3, x4, x5⟩ := x
  have hu := Tryd.underlying51
  have H := Aside0.mk h
  have OK := Aside0.mk h.p.ok
  have HC := Aside0.mk hC
  have HC5 := Aside0.mk hc5
  have HS1 := Aside0.mk hs1
  have HS2 := Aside0.mk hs2
  have H4 := Aside0.mk h4
  have H5 := Aside0.mk h5
  clear h hC hc5 hs1 hs2 h4 h5
  show Calls Tryd.prog 25 _ w fun e w' => e = .returned (.bool true) ∧ ∃ S' v', Both w0.heap.size w0 w' a S' r v' (D.plays ⟨x0, x1, x2, x3, x4, x5⟩) (D.plays ⟨x0, x1, x2, x3, x4, x5⟩)
  obtain ⟨E, hE⟩ : ∃ E, D.plays ⟨x0, x1, x2, x3, x4, x5⟩ = E := ⟨_, rfl⟩
  rw [hE]
  unfold AD.plays at hE
  simp only at hE
  simp only at HC HC5 HS1 HS2 H4 H5
  go_enter Tryd.func25, Tryd.ntmps25
  go_upto_region 3 with (((with_reducible refine gate_dst (N := 5) rfl ?_); refine box_event ?hg (N := 5) ?hd (cs := #[.int .i64 x0, .string x1, .string x2, .string x3, .int .i64 x4, .slice A5 x5.length c5]) (t := 51) ?hr ?_; (case hd => rfl); (case hg => rfl); (case hr => first | (go_simp; done) | (go_simp; rfl)); intro gb hg w1 hbox hb; have HG := Aside0.mk hg; have HB := Aside0.mk hbox; have M1 := Aside0.mk (H.out.on hb); have BW1 := Aside0.mk hb; clear hb hbox hg))
  obtain ⟨q0, q1, q2, q3, q4, q5⟩ := box_cells6 HB.out
  have GS : Aside0 (gb ∉ S) := ⟨fun h9 => by have := H.out.p.lt gb h9; have := HG.out; omega⟩
  by_cases c1 : x0 = 1
  · subst c1
    obtain ⟨Q, hQ⟩ : ∃ Q, D.append x1.data.toList x3 = Q := ⟨_, rfl⟩
    have cP := M_append2 M1.out.p x1 x3 HS1.out
    have cQ : Aside0 (∀ w2, RefAt w2 r v D → Calls Tryd.prog 37 #[.pointer (some ⟨r, 0, none⟩), .string x1, .string x3] w2 fun e w' => e = .returned (.int .i64 (D.append x1.data.toList x3).2) ∧ RDid w2 w' r v (D.append x1.data.toList x3).1) := ⟨fun w2 h1 => by
      have h9 := rappend_calls h1 OK.out x1.data.toList HS1.out x3
      try rw [toA] at h9
      try rw [toA] at h9
      exact h9⟩
    rw [if_pos rfl, hQ] at hE
    rw [hQ] at cP cQ
    have HE := Aside0.mk hE
    have e9 : (Q.2 == Q.2) = true := by simp
    clear hE hQ
    go_wp2_with (first
      | (go_at_call 10; refine cP.mono ?_; rintro e w2 ⟨rfl, hd⟩; obtain ⟨S2, hB2, hF2, hS2⟩ := M1.out.prog hd; have M2 := Aside0.mk hB2; obtain ⟨p0, p1, p2, p3, p4, p5⟩ := box_cells6 (hF2.blk HB.out GS.out); clear hd hB2 hF2 hS2 cP)
      | (go_at_call 37; refine (cQ.out _ M2.out.q.1).mono ?_; rintro e w3 ⟨rfl, hd⟩; obtain ⟨v3, hB3, -⟩ := M2.out.ref hd; have M3 := Aside0.mk hB3; clear hd hB3 cQ))
    go_ret
    refine ⟨rfl, S2, v3, ?_⟩
    rw [← HE.out]
    exact M3.out
  · rw [if_neg c1] at hE
    have e1 : (x0 == 1) = false := by rw [beq_eq_false_iff_ne]; exact c1
    clear c1
    by_cases c2 : x0 = 2
    · subst c2
      obtain ⟨Q, hQ⟩ : ∃ Q, D.sync x1.data.toList = Q := ⟨_, rfl⟩
      have cP := M_sync2 M1.out.p x1 HS1.out
      have cQ : Aside0 (∀ w2, RefAt w2 r v D → Calls Tryd.prog 38 #[.pointer (some ⟨r, 0, none⟩), .string x1] w2 fun e w' => e = .returned (.int .i64 (D.sync x1.data.toList).2) ∧ RDid w2 w' r v (D.sync x1.data.toList).1) := ⟨fun w2 h1 => by
        have h9 := rsync_calls h1 OK.out x1.data.toList HS1.out
        try rw [toA] at h9
        try rw [toA] at h9
        exact h9⟩
      rw [if_pos rfl, hQ] at hE
      rw [hQ] at cP cQ
      have HE := Aside0.mk hE
      have e9 : (Q.2 == Q.2) = true := by simp
      clear hE hQ
      go_wp2_with (first
        | (go_at_call 11; refine cP.mono ?_; rintro e w2 ⟨rfl, hd⟩; obtain ⟨S2, hB2, hF2, hS2⟩ := M1.out.prog hd; have M2 := Aside0.mk hB2; obtain ⟨p0, p1, p2, p3, p4, p5⟩ := box_cells6 (hF2.blk HB.out GS.out); clear hd hB2 hF2 hS2 cP)
        | (go_at_call 38; refine (cQ.out _ M2.out.q.1).mono ?_; rintro e w3 ⟨rfl, hd⟩; obtain ⟨v3, hB3, -⟩ := M2.out.ref hd; have M3 := Aside0.mk hB3; clear hd hB3 cQ))
      go_ret
      refine ⟨rfl, S2, v3, ?_⟩
      rw [← HE.out]
      exact M3.out
    · rw [if_neg c2] at hE
      have e2 : (x0 == 2) = false := by rw [beq_eq_false_iff_ne]; exact c2
      clear c2
      by_cases c3 : x0 = 3
      · subst c3
        obtain ⟨Q, hQ⟩ : ∃ Q, D.rename x1.data.toList x2.data.toList = Q := ⟨_, rfl⟩
        have cP := M_rename2 M1.out.p x1 x2 HS1.out HS2.out
        have cQ : Aside0 (∀ w2, RefAt w2 r v D → Calls Tryd.prog 39 #[.pointer (some ⟨r, 0, none⟩), .string x1, .string x2] w2 fun e w' => e = .returned (.int .i64 (D.rename x1.data.toList x2.data.toList).2) ∧ RDid w2 w' r v (D.rename x1.data.toList x2.data.toList).1) := ⟨fun w2 h1 => by
          have h9 := rrename_calls h1 OK.out x1.data.toList x2.data.toList HS1.out HS2.out
          try rw [toA] at h9
          try rw [toA] at h9
          exact h9⟩
        rw [if_pos rfl, hQ] at hE
        rw [hQ] at cP cQ
        have HE := Aside0.mk hE
        have e9 : (Q.2 == Q.2) = true := by simp
        clear hE hQ
        go_wp2_with (first
          | (go_at_call 16; refine cP.mono ?_; rintro e w2 ⟨rfl, hd⟩; obtain ⟨S2, hB2, hF2, hS2⟩ := M1.out.prog hd; have M2 := Aside0.mk hB2; obtain ⟨p0, p1, p2, p3, p4, p5⟩ := box_cells6 (hF2.blk HB.out GS.out); clear hd hB2 hF2 hS2 cP)
          | (go_at_call 39; refine (cQ.out _ M2.out.q.1).mono ?_; rintro e w3 ⟨rfl, hd⟩; obtain ⟨v3, hB3, -⟩ := M2.out.ref hd; have M3 := Aside0.mk hB3; clear hd hB3 cQ))
        go_ret
        refine ⟨rfl, S2, v3, ?_⟩
        rw [← HE.out]
        exact M3.out
      · rw [if_neg c3] at hE
        have e3 : (x0 == 3) = false := by rw [beq_eq_false_iff_ne]; exact c3
        clear c3
        by_cases c4 : x0 = 4
        · subst c4
          obtain ⟨Q, hQ⟩ : ∃ Q, D.remove x1.data.toList = Q := ⟨_, rfl⟩
          have cP := M_remove2 M1.out.p x1 HS1.out
          have cQ : Aside0 (∀ w2, RefAt w2 r v D → Calls Tryd.prog 40 #[.pointer (some ⟨r, 0, none⟩), .string x1] w2 fun e w' => e = .returned (.int .i64 (D.remove x1.data.toList).2) ∧ RDid w2 w' r v (D.remove x1.data.toList).1) := ⟨fun w2 h1 => by
            have h9 := rremove_calls h1 OK.out x1.data.toList HS1.out
            try rw [toA] at h9
            try rw [toA] at h9
            exact h9⟩
          rw [if_pos rfl, hQ] at hE
          rw [hQ] at cP cQ
          have HE := Aside0.mk hE
          have e9 : (Q.2 == Q.2) = true := by simp
          clear hE hQ
          go_wp2_with (first
            | (go_at_call 36; refine cP.mono ?_; rintro e w2 ⟨rfl, hd⟩; obtain ⟨S2, hB2, hF2, hS2⟩ := M1.out.prog hd; have M2 := Aside0.mk hB2; obtain ⟨p0, p1, p2, p3, p4, p5⟩ := box_cells6 (hF2.blk HB.out GS.out); clear hd hB2 hF2 hS2 cP)
            | (go_at_call 40; refine (cQ.out _ M2.out.q.1).mono ?_; rintro e w3 ⟨rfl, hd⟩; obtain ⟨v3, hB3, -⟩ := M2.out.ref hd; have M3 := Aside0.mk hB3; clear hd hB3 cQ))
          go_ret
          refine ⟨rfl, S2, v3, ?_⟩
          rw [← HE.out]
          exact M3.out
        · rw [if_neg c4] at hE
          have e4 : (x0 == 4) = false := by rw [beq_eq_false_iff_ne]; exact c4
          clear c4
          by_cases c5 : x0 = 5
          · subst c5
            rw [if_neg (by decide), if_neg (by decide)] at hE
            obtain ⟨Q, hQ⟩ : ∃ Q, D.read x1.data.toList = Q := ⟨_, rfl⟩
            have cP := M_read M1.out.p x1 HS1.out
            have cQ : Aside0 (∀ w2, RefAt w2 r v D → Calls Tryd.prog 41 #[.pointer (some ⟨r, 0, none⟩), .string x1] w2 fun e w' => e = .returned (.tuple #[.string (D.read x1.data.toList).1, .int .i64 (D.read x1.data.toList).2]) ∧ Below w2.heap.size w2 w') := ⟨fun w2 h1 => by
              have h9 := rread_calls h1 OK.out.rising x1.data.toList HS1.out
              rw [toA] at h9
              exact h9⟩
            rw [hQ] at cP cQ
            subst hE
            have e9 : (Q.2 == Q.2) = true := by simp
            have e11 : (Q.1.toList == Q.1.toList) = true := by simp
            clear hQ
            go_wp2_with (first
              | (go_at_call 14; refine cP.mono ?_; rintro e w2 ⟨rfl, hm, hb⟩; have M2 := Aside0.mk (M1.out.on hb); obtain ⟨p0, p1, p2, p3, p4, p5⟩ := box_cells6 (blk_below HB.out hb); clear hm hb cP)
              | (go_at_call 41; refine (cQ.out _ M2.out.q.1).mono ?_; rintro e w3 ⟨rfl, hb⟩; have M3 := Aside0.mk (M2.out.on hb); clear hb cQ))
            go_ret
            exact ⟨rfl, S, v, M3.out⟩
          · have e5 : (x0 == 5) = false := by rw [beq_eq_false_iff_ne]; exact c5
            clear c5
            by_cases c6 : x0 = 6
            · subst c6
              obtain ⟨Q, hQ⟩ : ∃ Q, D.arm x4 = Q := ⟨_, rfl⟩
              have cP := M_arm2 M1.out.p x4 H4.out
              have cQ : Aside0 (∀ w2, RefAt w2 r v D → Calls Tryd.prog 42 #[.pointer (some ⟨r, 0, none⟩), .int .i64 x4] w2 fun e w' => e = .returned (.int .i64 (D.arm x4).2) ∧ RDid w2 w' r v (D.arm x4).1) := ⟨fun w2 h1 => by
                have h9 := rarm_calls h1 x4
                try rw [toA] at h9
                try rw [toA] at h9
                exact h9⟩
              rw [if_pos rfl, hQ] at hE
              rw [hQ] at cP cQ
              have HE := Aside0.mk hE
              have e9 : (Q.2 == Q.2) = true := by simp
              clear hE hQ
              go_wp2_with (first
                | (go_at_call 15; refine cP.mono ?_; rintro e w2 ⟨rfl, hd⟩; obtain ⟨S2, hB2, hF2, hS2⟩ := M1.out.prog hd; have M2 := Aside0.mk hB2; obtain ⟨p0, p1, p2, p3, p4, p5⟩ := box_cells6 (hF2.blk HB.out GS.out); clear hd hB2 hF2 hS2 cP)
                | (go_at_call 42; refine (cQ.out _ M2.out.q.1).mono ?_; rintro e w3 ⟨rfl, hd⟩; obtain ⟨v3, hB3, -⟩ := M2.out.ref hd; have M3 := Aside0.mk hB3; clear hd hB3 cQ))
              go_ret
              refine ⟨rfl, S2, v3, ?_⟩
              rw [← HE.out]
              exact M3.out
            · rw [if_neg c6] at hE
              have e6 : (x0 == 6) = false := by rw [beq_eq_false_iff_ne]; exact c6
              clear c6
              by_cases c7 : x0 = 7
              · subst c7
                rw [if_pos rfl] at hE
                have HE := Aside0.mk hE
                clear hE
                have hI3 : (Tryd.prog.info? 3).map (fun i => (i.zero, i.size, i.bytes)) = some (some (.int .i64 0), 1, 8) := by kernel_rfl
                have e20 : IntKind.i64.wrap ((x5.length : Int) + 1) = (x5.length : Int) + 1 := by have := H5.out; rw [i64_w]; unfold wrap64; omega
                have e20' : (0 : Int) ≤ (x5.length : Int) + 1 := by omega
                have e21 : ((x5.length : Int) + 1).toNat * 8 ≤ 281474976710656 := by have := H5.out; omega
                have hZ : Aside0 (∀ W base, (Kd.int .i64).M W base (fun _ => True) (0 : Int) [.int .i64 0]) := ⟨fun _ _ => rfl⟩
                go_upto_region 25 with ((with_reducible refine gate_dst (N := 105) rfl ?_); refine Kd.R_make (Kd.int .i64) (w0 := w1) w1.heap.size 3 rfl (N := 105) rfl 39 (.tmp 104) (.tmp 104) rfl ((x5.length : Int) + 1) rfl rfl Tryd.underlying39 (.int .i64 0) 8 hI3 (by decide) (by decide) (by decide) (0 : Int) (ok := fun _ => True) (okp := fun _ => True) (hZ.out _ _) (fun _ _ => trivial) trivial e20' e21 (Below.refl _ _) (Nat.le_refl _) ?_; intro vk w2 hR hB hg hat; have RK := Aside0.mk hR; have BK := Aside0.mk hB; clear hR hB hg hat)
                obtain ⟨p0, p1, p2, p3, p4, p5⟩ := box_cells6 (blk_below HB.out BK.out)
                have hxn : ((x5.length : Int) + 1).toNat = x5.length + 1 := by omega
                rw [hxn] at RK
                have BW2 : Aside0 (Below w.heap.size w w2) := ⟨BW1.out.trans (BK.out.mono BW1.out.size)⟩
                have HC2 : Aside0 ((Kd.int .i64).C w2 A5 x5.length x5) := ⟨Kd.C_below HC.out (H.out.on BW2.out).below⟩
                have hKM : Aside0 (∀ (W : World) (ok' : Nat → Prop) (x : Int) (cs : List Value), (Kd.int .i64).K w2 x cs → (Kd.int .i64).M W w1.heap.size ok' x cs) := ⟨fun _ _ _ _ h => h⟩
                have hMM : Aside0 (∀ (W : World) (ok1 ok' : Nat → Prop) (x : Int) (cs : List Value), (Kd.int .i64).M w2 w1.heap.size ok1 x cs → (Kd.int .i64).M W w1.heap.size ok' x cs) := ⟨fun _ _ _ _ _ h => h⟩
                clear e20' e21 hxn hZ
                go_upto_region 26 with ((with_reducible refine gate_dst (N := 109) rfl ?_); refine R_copy (Kd.int .i64) (w0 := w1) w1.heap.size rfl (.tmp 106) (.tmp 108) 39 3 (.int .i64 0) 8 rfl Tryd.underlying39 hI3 (by decide) vk (List.replicate (x5.length + 1) 0) x5 A5 x5.length c5 (fun _ => True) rfl rfl RK.out HC2.out hKM.out hMM.out BK.out ?_; intro w3 hR hB hg; have RK3 := Aside0.mk hR; have BK3 := Aside0.mk hB; clear hR hB hg)
                have hcp : cpy (List.replicate (x5.length + 1) (0 : Int)) x5 = x5 ++ [0] := by
                  unfold cpy
                  rw [List.length_replicate, List.take_of_length_le (by omega), List.drop_replicate, show x5.length + 1 - x5.length = 1 by omega]
                  rfl
                rw [hcp] at RK3
                obtain ⟨gk, ck, hvk, hgk, -, -⟩ := Kd.R_form RK3.out (by simp)
                rw [List.length_append] at hvk
                subst hvk
                have BW3 : Aside0 (Below w.heap.size w w3) := ⟨BW1.out.trans (BK3.out.mono BW1.out.size)⟩
                have M3 := Aside0.mk (H.out.on BW3.out)
                have HB3 := Aside0.mk (blk_below HB.out BK3.out)
                obtain ⟨hn1, hnk, -⟩ := Kd.R_reads' RK3.out
                have RT := Aside0.mk (Kd.R_take (m := x5.length) RK3.out (by simp))
                have GK : Aside0 (w.heap.size ≤ gk) := ⟨Nat.le_trans BW1.out.size hgk⟩
                have KC : Aside0 (∀ W, W.heap[gk]? = w3.heap[gk]? → (Kd.int .i64).C W (some ⟨gk, 0, none⟩) x5.length x5) := ⟨fun W hW => by
                  have h9 := Kd.R_move (w1 := W) (Kd.R_tight rfl RT.out) (fun k hk => by
                    have h8 : k = gk := by simpa [Value.ownBlock] using hk
                    rw [h8]; exact hW)
                  rw [List.take_left] at h9
                  exact (Kd.R_reads' h9).2.2⟩
                have KS : Aside0 (Keeps S w3 (some ⟨gk, 0, none⟩) x5) := ⟨fun W hW => KC.out W (hW.block gk (Kd.R_lt RK3.out gk (by simp [Value.ownBlock])) (fun h9 => by have := H.out.p.lt gk h9; have := GK.out; omega))⟩
                have hck : x5.length ≤ ck := by simp at hnk; omega
                have e22 : x5.length ≤ x5.length + 1 := by omega
                have e23 : (x5.length : Int) ≤ (x5.length : Int) + 1 := by omega
                have e24 : (x5.length : Int) ≤ (ck : Int) := by omega
                have cP := M_crash2 M3.out.p (some ⟨gk, 0, none⟩) ck x5 KS.out hck (by have := H5.out; omega)
                obtain ⟨p0, p1, p2, p3, p4, p5⟩ := box_cells6 HB3.out
                clear hn1 hnk hgk hcp q0 q1 q2 q3 q4 q5
                go_upto_region 27 with (go_at_call 17; refine cP.mono ?_; rintro e w4 ⟨rfl, hd⟩; obtain ⟨S4, hB4, hF4, hS4⟩ := M3.out.prog hd; have M4 := Aside0.mk hB4; have F4 := Aside0.mk hF4; clear hd hB4 hF4 hS4 cP)
                have HB4 := Aside0.mk (F4.out.blk HB3.out GS.out)
                obtain ⟨p0, p1, p2, p3, p4, p5⟩ := box_cells6 HB4.out
                have KR : Aside0 (Keeps (r :: v.ownBlock.toList) w4 A5 x5) := ⟨fun W hW => Kd.C_below HC.out (M4.out.below.trans (hW.below_base M4.out.q.2.2.2 M4.out.size))⟩
                have cQ := rcrash_calls M4.out.q.1 OK.out A5 c5 x5 KR.out (by have := H5.out; omega)
                have GR : Aside0 (gb ∉ r :: v.ownBlock.toList ∧ gk ∉ r :: v.ownBlock.toList) := ⟨fun h9 => by have := H.out.q.1.lt gb h9; have := HG.out; omega, fun h9 => by have := H.out.q.1.lt gk h9; have := GK.out; omega⟩
                have G4 : Aside0 (w4.heap[gk]? = w3.heap[gk]? ∧ gk < w4.heap.size) := ⟨F4.out.block gk (Kd.R_lt RT.out gk (by simp [Value.ownBlock])) (fun h9 => by have := H.out.p.lt gk h9; have := GK.out; omega), Nat.lt_of_lt_of_le (Kd.R_lt RT.out gk (by simp [Value.ownBlock])) F4.out.size⟩
                go_upto_region 28 with (go_at_call 43; refine cQ.mono ?_; rintro e w5 ⟨rfl, hd⟩; obtain ⟨v5, hB5, hF5, -⟩ := M4.out.ref hd; have M5 := Aside0.mk hB5; have F5 := Aside0.mk hF5; clear hd hB5 hF5 cQ)
                have HB5 := Aside0.mk (F5.out.blk HB4.out GR.out.1)
                have KC5 := Aside0.mk (KC.out w5 ((F5.out.block gk G4.out.2 GR.out.2).trans G4.out.1))
                have HC5' : Aside0 ((Kd.int .i64).C w5 A5 x5.length x5) := ⟨Kd.C_below HC.out M5.out.below⟩
                clear p0 p1 p2 p3 p4 p5
                go_wp2
                go_loopg [14] x5.length (fun kq v14 wr => ∃ i : Nat, v14 = .int .i64 i ∧ Aside0 (i + kq = x5.length) ∧ Aside0 (Below w5.heap.size w5 wr))
                case atStart => exact ⟨0, rfl, ⟨by omega⟩, ⟨Below.refl _ _⟩⟩
                case round =>
                  obtain ⟨i, rfl, g1, g2⟩ := hrel
                  obtain ⟨p0, p1, p2, p3, p4, p5⟩ := box_cells6 (blk_below HB5.out g2.out)
                  by_cases hi : i < x5.length
                  · have e30 : decide ((i : Int) < (x5.length : Int)) = true := decide_eq_true (by omega)
                    have e30' : decide (i < x5.length) = true := decide_eq_true hi
                    have e31 : (i : Int) < (x5.length : Int) := by omega
                    have e32 : (i : Int) < (x5.length : Int) + 1 := by omega
                    have e33 : IntKind.i64.wrap ((i : Int) + 1) = ((i + 1 : Nat) : Int) := by have := H5.out; rw [i64_w]; unfold wrap64; omega
                    obtain ⟨kv, hkv⟩ : ∃ kv, x5[i]? = some kv := ⟨_, List.getElem?_eq_getElem hi⟩
                    obtain ⟨ad, rfl, hc1⟩ := C_int (Kd.C_below HC5'.out g2.out) hkv
                    obtain ⟨ad2, had2, hc2⟩ := C_int (Kd.C_below KC5.out g2.out) hkv
                    cases had2
                    rw [addr_plain, Nat.zero_add] at hc2
                    have e34 : (kv != kv) = false := by simp
                    have HI := Aside0.mk hi
                    clear hkv hi
                    go_upto_region 31 with fail
                    go_quiet (fail)
                    go_wp2
                    go_roundg (x5.length - (i + 1))
                    case measure => have := HI.out; have := g1.out; omega
                    case rel => exact ⟨i + 1, by simp, ⟨by have := HI.out; have := g1.out; omega⟩, ⟨pw_below_drewN g2.out _⟩⟩
                  · have e30 : decide ((i : Int) < (x5.length : Int)) = false := decide_eq_false (by omega)
                    have e30' : decide (i < x5.length) = false := decide_eq_false hi
                    clear hi
                    go_wp2
                    go_ret
                    refine ⟨rfl, S4, v5, ?_⟩
                    rw [← HE.out]
                    exact M5.out.on g2.out
              · rw [if_neg c7] at hE
                have e7 : (x0 == 7) = false := by rw [beq_eq_false_iff_ne]; exact c7
                clear c7
                by_cases c8 : x0 = 8
                · subst c8
                  subst hE
                  have cL := looks_calls M1.out
                  go_wp2_with (go_at_call 26; refine cL.mono ?_; rintro e w2 ⟨rfl, hb⟩; have M2 := Aside0.mk (M1.out.on hb); clear hb cL)
                  go_ret
                  exact ⟨rfl, S, v, M2.out⟩
                · have e8 : (x0 == 8) = false := by rw [beq_eq_false_iff_ne]; exact c8
                  subst hE
                  clear c8
                  go_wp2
                  go_ret
                  exact ⟨rfl, S, v, M1.out⟩
end Go.Proofs.YtakhnkkcllfbjaaDoorX
