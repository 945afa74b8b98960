/- PriorityHighest: one part of the proof that the law answers true for every input, and that its arguments read afterwards as before. No condition. -/
import Derived.Test.YtejidnmgjccidaaCHighest1
import Derived.Outline
import Derived.LoopTactic
section
namespace Go.Proofs.Ytejidnmgjccidaa.R
open Go.RowKit Go.Proofs.YtejidnmgjccidaaW.PrintWords Go.Proofs.YtejidnmgjccidaaW.PrintLast Go.Proofs.YtejidnmgjccidaaW.PrintMore
set_option linter.unusedVariables false
set_option linter.unusedSimpArgs false
theorem results_tct {P : Program} {fn : Func} {p u v : Tmp} {ty : TypeId} (h : fn.results = #[.tmp u, .cell p ty, .tmp v]) (tmps : Array Value) (w : World) (g : Nat) (t : TypeId) (cs : Array Value) (fr : Nat × Nat) (d : TypeDesc)
    (hp : tmps.getD p undef = .pointer (some ⟨g, 0, none⟩)) (hg : w.heap[g]? = some (.cells cs t fr))
    (hu : P.underlying ty = some d) (hd : (match d with | .struct _ | .array _ _ => true | _ => false) = true) (hi : (P.info? ty).map (·.size) = some cs.size) :
    (results fn tmps).run P w = .ok (.tuple #[tmps.getD u undef, .agg cs, tmps.getD v undef]) w := by
  have hp' : tmps[p]?.getD undef = .pointer (some ⟨g, 0, none⟩) := by simpa using hp
  simp [results, h, hp', asAddr, run_loadVar_row w g t ty cs fr d hg hu hd hi]
set_option maxHeartbeats 16000000 in
set_option maxRecDepth 100000 in
theorem priority_Under.calls (A0 : Option Addr) (c0 : Nat) (l0 : List (S25)) (a1 : Int) (a2_0 : Int) (a2_1 : Int) (r1 : Int) (r2 : Int) (r3 : Int) (r4 : Int) (w : World) (hr0 : Kd.C k25 w A0 l0.length l0) (hc0 : l0.length ≤ c0) (h : priority_Under.f l0 a1 a2_0 a2_1 = some (r1, r2, r3, r4)) :
    Calls Try.prog 25 #[.slice A0 l0.length c0, .int .i64 a1, .agg #[.int .i64 a2_0, .int .i64 a2_1]] w fun e w' => e = .returned (.tuple #[.int .i64 r1, .agg #[.int .i64 r2, .int .i64 r3], .int .i64 r4]) ∧ Below w.heap.size w w' := by
  unfold priority_Under.f at h
  by_cases hl : okLen l0
  · rw [if_pos hl] at h
    have hl' : l0.length ≤ 1000 := hl
    clear hl
    have HR0 := Aside0.mk hr0
    clear hr0
    have HB := Aside0.mk (Below.refl w.heap.size w)
    by_cases hc : a1 < 0 ∨ a1 > 16
    · rw [if_pos hc] at h
      simp only [Option.some.injEq, Prod.mk.injEq] at h
      obtain ⟨rfl, rfl, rfl, rfl⟩ := h
      have HL := Aside0.mk (level_1 a1 0 hc)
      clear hc
      go_enter Try.func25, Try.ntmps25
      go_wp2_with (first | ((with_reducible refine gate_dst (N := 5) rfl ?_); refine box_event ?hg (N := 5) ?hd (cs := #[.int .i64 a2_0, .int .i64 a2_1]) (t := 23) ?hr ?_; (case hd => rfl); (case hg => rfl); (case hr => first | (go_simp; done) | (go_simp; rfl)); intro g5 hg W5 hbox hb; have HRW := Aside0.mk (Kd.C_below HR0.out hb); have BK5 := Aside0.mk hbox; have n1 := Aside0.mk (below_step HB.out hb); clear HB; have HB := n1; clear n1; clear hb hbox hg) | ((with_reducible refine gate_dst (N := 7) rfl ?_); refine box_event ?hg (N := 7) ?hd (cs := #[.int .i64 0, .int .i64 0]) (t := 23) ?hr ?_; (case hd => rfl); (case hg => rfl); (case hr => first | (go_simp; done) | (go_simp; rfl)); intro g7 hg W7 hbox hb; have GE7 := Aside0.mk ((by rw [hg]; exact HB.out.size) : w.heap.size ≤ g7); have BK7 := Aside0.mk hbox; have n0 := Aside0.mk (Kd.C_below HRW.out hb); have n1 := Aside0.mk (below_step HB.out hb); have n2 := Aside0.mk (blk_below BK5.out hb); clear HB BK5 HRW; have HB := n1; have BK5 := n2; have HRW := n0; clear n0 n1 n2; have hz0 := (blk_cell BK7.out 0).trans rfl; have hz1 := (blk_cell BK7.out 1).trans rfl; have hf0 := blk_frozen BK7.out 0; have hf1 := blk_frozen BK7.out 1; clear hb hbox hg) | (go_at_call 30; (with_reducible refine (priority_level.calls a1 0 1 _ HL.out).mono ?_); rintro e W ⟨rfl, ⟨nd, rfl⟩⟩))
      refine bodyPost_ret (results_tct rfl _ _ g7 23 #[.int .i64 0, .int .i64 0] (0, 0) _ rfl (by (with_reducible repeat (first | refine blk_drewN ?_ _ | refine blk_drew ?_ | refine blk_alloc ?_ _)); refine blk_put (cs := #[.int .i64 0, .int .i64 0]) ?_ 1 _ rfl; (with_reducible repeat (first | refine blk_drewN ?_ _ | refine blk_drew ?_ | refine blk_alloc ?_ _)); refine blk_put (cs := #[.int .i64 0, .int .i64 0]) ?_ 0 _ rfl; (with_reducible repeat (first | refine blk_drewN ?_ _ | refine blk_drew ?_ | refine blk_alloc ?_ _)); exact BK7.out) Try.underlying23 rfl (by kernel_rfl)) rfl ?_
      exact ⟨rfl, by repeat (first | (with_reducible first | exact HB.out | apply below_alloc | apply pw_below_drewN | apply below_drew1 | refine below_set ?_ GE7.out) | exact HB.out)⟩
    · rw [if_neg hc] at h
      have HL := Aside0.mk (level_0 a1 0 hc)
      have hn : 0 ≤ a1 ∧ a1 ≤ 16 := by omega
      clear hc
      have HU : Aside0 (underOf (tabOf l0) a1 a2_0 a2_1 = (r1, r2, r3)) := by
        simp only [Option.some.injEq, Prod.mk.injEq] at h
        obtain ⟨rfl, rfl, rfl, rfl⟩ := h
        exact ⟨rfl⟩
      obtain rfl : 0 = r4 := by
        simp only [Option.some.injEq, Prod.mk.injEq] at h
        exact h.2.2.2
      clear h
      go_enter Try.func25, Try.ntmps25
      go_wp2_with (first | ((with_reducible refine gate_dst (N := 5) rfl ?_); refine box_event ?hg (N := 5) ?hd (cs := #[.int .i64 a2_0, .int .i64 a2_1]) (t := 23) ?hr ?_; (case hd => rfl); (case hg => rfl); (case hr => first | (go_simp; done) | (go_simp; rfl)); intro g5 hg W5 hbox hb; have HRW := Aside0.mk (Kd.C_below HR0.out hb); have BK5 := Aside0.mk hbox; have n1 := Aside0.mk (below_step HB.out hb); clear HB; have HB := n1; clear n1; clear hb hbox hg) | ((with_reducible refine gate_dst (N := 7) rfl ?_); refine box_event ?hg (N := 7) ?hd (cs := #[.int .i64 0, .int .i64 0]) (t := 23) ?hr ?_; (case hd => rfl); (case hg => rfl); (case hr => first | (go_simp; done) | (go_simp; rfl)); intro g7 hg W7 hbox hb; have GE7 := Aside0.mk ((by rw [hg]; exact HB.out.size) : w.heap.size ≤ g7); have BK7 := Aside0.mk hbox; have n0 := Aside0.mk (Kd.C_below HRW.out hb); have n1 := Aside0.mk (below_step HB.out hb); have n2 := Aside0.mk (blk_below BK5.out hb); clear HB BK5 HRW; have HB := n1; have BK5 := n2; have HRW := n0; clear n0 n1 n2; have hz0 := (blk_cell BK7.out 0).trans rfl; have hz1 := (blk_cell BK7.out 1).trans rfl; have hf0 := blk_frozen BK7.out 0; have hf1 := blk_frozen BK7.out 1; clear hb hbox hg) | (go_at_call 30; (with_reducible refine (priority_level.calls a1 0 0 _ HL.out).mono ?_); rintro e W ⟨rfl, ⟨nd, rfl⟩⟩))
      have y0 := (blk_cell BK5.out 0).trans rfl
      have y1 := (blk_cell BK5.out 1).trans rfl
      clear hz0 hz1 hf0 hf1
      have n0 := Aside0.mk (Kd.C_drew (Kd.C_drewN HRW.out nd))
      have n1 := Aside0.mk (below_drew1 (pw_below_drewN HB.out nd))
      have n2 := Aside0.mk (blk_drew (blk_drewN BK7.out nd))
      clear HB BK5 BK7 HRW
      have HRW := n0
      have HB := n1
      have BK7 := n2
      clear n0 n1 n2
      refine start_ (n := 11) (S := fun w' => w'.cell? ⟨g5, 0, none⟩ = some (.int .i64 a2_0) ∧ w'.cell? ⟨g5, 1, none⟩ = some (.int .i64 a2_1)) (ds := [10]) #[false, false, false, false, false, false, false, false, false, false, false] (by kernel_rfl) rfl rfl ⟨y0, y1⟩ (fun hHeld => ?_)
      refine pure_ (i := 0) (N := some 19) (v := ?_) (a' := ?_) #[true, false, false, false, false, false, false, false, false, false, false] rfl rfl (by kernel_rfl) (fun _ _ _ h => h) (Or.inl ⟨by rfl, ?_⟩) ?_ ?_
      rotate_left
      · intro w'
        go_simp
        with_reducible rfl
      rotate_left
      · simp only [Act.put, List.setIfInBounds_toArray, List.set_cons_zero, List.set_cons_succ, i64_w, i32_w]
        rfl
      refine pure_ (i := 2) (N := some 21) (v := ?_) (a' := ?_) #[true, false, true, false, false, false, false, false, false, false, false] rfl rfl (by kernel_rfl) (fun _ _ _ h => h) (Or.inl ⟨by rfl, ?_⟩) ?_ ?_
      rotate_left
      · intro w'
        go_simp
        with_reducible rfl
      rotate_left
      · simp only [Act.put, List.setIfInBounds_toArray, List.set_cons_zero, List.set_cons_succ, i64_w, i32_w]
        rfl
      refine take_ (i := 3) (N := some 22) (v := ?_) (a' := ?_) #[true, false, true, true, false, false, false, false, false, false, false] rfl rfl (by kernel_rfl) (fun _ _ _ h => h) (Or.inl ⟨by rfl, ?_⟩) hHeld ?_ ?_
      rotate_left
      · rintro w' ⟨s0, s1⟩
        go_simp
        with_reducible rfl
      rotate_left
      · simp only [Act.put, List.setIfInBounds_toArray, List.set_cons_zero, List.set_cons_succ, i64_w, i32_w]
        rfl
      refine join_ (σ := Array Value × Nat) 2 #[true, true, true, true, true, true, true, true, true, false, false] (fun s_ => [(20, .agg s_.1), (23, .tuple #[.int .i64 r1, .agg #[.int .i64 r2, .int .i64 r3]]), (11, .pointer (some ⟨s_.2, 0, none⟩)), (18, .tuple #[.int .i64 r1, .agg #[.int .i64 r2, .int .i64 r3]]), (24, .int .i64 r1), (25, .agg #[.int .i64 r2, .int .i64 r3])]) (fun s_ w' => (w'.cell? ⟨g5, 0, none⟩ = some (.int .i64 a2_0) ∧ w'.cell? ⟨g5, 1, none⟩ = some (.int .i64 a2_1)) ∧ Below w.heap.size w w' ∧ w'.heap[g7]? = some (.cells #[.int .i64 0, .int .i64 0] 23 (0, 0)) ∧ w'.heap[s_.2]? = some (.cells #[.int .i64 0, .int .i64 0] 23 (0, 0)) ∧ w.heap.size ≤ s_.2 ∧ g7 ≠ s_.2) ?_ ?_
      rotate_left
      · intro hCont
        refine two_ (i := 1) (j := 8) (Ni := some 20) (Nj := some 11) #[true, true, true, true, false, false, false, false, false, false, false] #[true, false, true, true, false, false, false, false, true, false, false] rfl rfl rfl rfl (by kernel_rfl) (by decide) (by decide) (fun K hK => ?_) (fun K hK => ?_)
        · skip
          refine goes_ Try.func33 (by kernel_rfl) rfl #[.slice A0 l0.length c0] (by rfl) rfl rfl (by simp only [List.map_toArray, List.map_cons, List.map_nil]; rfl) ?_
          with_reducible refine (of_calls A0 c0 l0 _ HRW.out hc0 hl').mono ?_
          rintro e w1 ⟨cs, rfl, ht, hb⟩
          refine ⟨_, rfl, ?_⟩
          have HT := Aside0.mk ht
          clear ht
          have n_HB := Aside0.mk (below_step HB.out hb)
          have n_BK7 := Aside0.mk (blk_below BK7.out hb)
          have hk := Aside0.mk hb
          clear hb HB BK7
          have HB := n_HB
          have BK7 := n_BK7
          clear n_HB n_BK7
          refine hK.out _ _ ⟨pw_cell_below hk.out hHeld.1, pw_cell_below hk.out hHeld.2⟩ (fun hHeld => ?_)
          clear hK K
          refine norm_ (a' := ?_) ?_ ?_
          rotate_left
          · show Act.put _ (some 20) _ = _
            simp only [Act.put, List.setIfInBounds_toArray, List.set_cons_zero, List.set_cons_succ, i64_w, i32_w]
            rfl
          refine two_ (i := 4) (j := 8) (Ni := some 23) (Nj := some 11) #[true, true, true, true, true, false, false, false, false, false, false] #[true, true, true, true, false, false, false, false, true, false, false] rfl rfl rfl rfl (by kernel_rfl) (by decide) (by decide) (fun K hK => ?_) (fun K hK => ?_)
          · skip
            refine goes_ Try.func38 (by kernel_rfl) rfl #[.agg cs, .int .i64 a1, .agg #[.int .i64 a2_0, .int .i64 a2_1]] (by rfl) rfl rfl (by simp only [List.map_toArray, List.map_cons, List.map_nil]; rfl) ?_
            with_reducible refine (under_calls cs (tabOf l0) _ a1 a2_0 a2_1 r1 r2 r3 _ HT.out hn HU.out).mono ?_
            rintro e w4 ⟨rfl, hb⟩
            refine ⟨_, rfl, ?_⟩
            have n_HB := Aside0.mk (below_step HB.out hb)
            have n_BK7 := Aside0.mk (blk_below BK7.out hb)
            have hk := Aside0.mk hb
            clear hb HB BK7
            have HB := n_HB
            have BK7 := n_BK7
            clear n_HB n_BK7
            refine hK.out _ _ ⟨pw_cell_below hk.out hHeld.1, pw_cell_below hk.out hHeld.2⟩ (fun hHeld => ?_)
            clear hK K
            refine norm_ (a' := ?_) ?_ ?_
            rotate_left
            · show Act.put _ (some 23) _ = _
              simp only [Act.put, List.setIfInBounds_toArray, List.set_cons_zero, List.set_cons_succ, i64_w, i32_w]
              rfl
            refine pure_ (i := 5) (N := some 18) (v := ?_) (a' := ?_) #[true, true, true, true, true, true, false, false, false, false, false] rfl rfl (by kernel_rfl) (fun _ _ _ h => h) (Or.inl ⟨by rfl, ?_⟩) ?_ ?_
            rotate_left
            · intro w'
              go_simp
              with_reducible rfl
            rotate_left
            · simp only [Act.put, List.setIfInBounds_toArray, List.set_cons_zero, List.set_cons_succ, i64_w, i32_w]
              rfl
            refine pure_ (i := 6) (N := some 24) (v := ?_) (a' := ?_) #[true, true, true, true, true, true, true, false, false, false, false] rfl rfl (by kernel_rfl) (fun _ _ _ h => h) (Or.inl ⟨by rfl, ?_⟩) ?_ ?_
            rotate_left
            · intro w'
              go_simp
              with_reducible rfl
            rotate_left
            · simp only [Act.put, List.setIfInBounds_toArray, List.set_cons_zero, List.set_cons_succ, i64_w, i32_w]
              rfl
            refine pure_ (i := 7) (N := some 25) (v := ?_) (a' := ?_) #[true, true, true, true, true, true, true, true, false, false, false] rfl rfl (by kernel_rfl) (fun _ _ _ h => h) (Or.inl ⟨by rfl, ?_⟩) ?_ ?_
            rotate_left
            · intro w'
              go_simp
              with_reducible rfl
            rotate_left
            · simp only [Act.put, List.setIfInBounds_toArray, List.set_cons_zero, List.set_cons_succ, i64_w, i32_w]
              rfl
            refine one_ (i := 8) (N := some 11) #[true, true, true, true, true, true, true, true, true, false, false] rfl rfl (by kernel_rfl) (by decide) (fun K hK => ?_)
            refine box_step (by rfl) (N := 11) rfl (cs := #[.int .i64 0, .int .i64 0]) (t := 23) ?hr ?_
            (case hr => first | (go_simp; done) | (go_simp; rfl))
            intro g11 hg w8 hbox hb
            have GE11 := Aside0.mk ((by rw [hg]; exact HB.out.size) : w.heap.size ≤ g11)
            have NE11 := Aside0.mk ((by rw [hg]; exact Nat.ne_of_lt (blk_lt BK7.out)) : g7 ≠ g11)
            have BK11 := Aside0.mk hbox
            clear hg hbox
            have n_HB := Aside0.mk (below_step HB.out hb)
            have n_BK7 := Aside0.mk (blk_below BK7.out hb)
            have hk := Aside0.mk hb
            clear hb HB BK7
            have HB := n_HB
            have BK7 := n_BK7
            clear n_HB n_BK7
            refine hK.out _ _ ⟨pw_cell_below hk.out hHeld.1, pw_cell_below hk.out hHeld.2⟩ (fun hHeld => ?_)
            clear hK K
            refine norm_ (a' := ?_) ?_ ?_
            rotate_left
            · show Act.put _ (some 11) _ = _
              simp only [Act.put, List.setIfInBounds_toArray, List.set_cons_zero, List.set_cons_succ, i64_w, i32_w]
              rfl
            exact norm_ (by simp only [putAll, Act.put, List.setIfInBounds_toArray, List.set_cons_zero, List.set_cons_succ]) (hCont (cs, g11) _ ⟨hHeld, HB.out, BK7.out, BK11.out, GE11.out, NE11.out⟩)
          · skip
            refine box_step (by rfl) (N := 11) rfl (cs := #[.int .i64 0, .int .i64 0]) (t := 23) ?hr ?_
            (case hr => first | (go_simp; done) | (go_simp; rfl))
            intro g11 hg w8 hbox hb
            have GE11 := Aside0.mk ((by rw [hg]; exact HB.out.size) : w.heap.size ≤ g11)
            have NE11 := Aside0.mk ((by rw [hg]; exact Nat.ne_of_lt (blk_lt BK7.out)) : g7 ≠ g11)
            have BK11 := Aside0.mk hbox
            clear hg hbox
            have n_HB := Aside0.mk (below_step HB.out hb)
            have n_BK7 := Aside0.mk (blk_below BK7.out hb)
            have n_HT := Aside0.mk (HT.out.below hb)
            have hk := Aside0.mk hb
            clear hb HB BK7 HT
            have HB := n_HB
            have BK7 := n_BK7
            have HT := n_HT
            clear n_HB n_BK7 n_HT
            refine hK.out _ _ ⟨pw_cell_below hk.out hHeld.1, pw_cell_below hk.out hHeld.2⟩ (fun hHeld => ?_)
            clear hK K
            refine norm_ (a' := ?_) ?_ ?_
            rotate_left
            · show Act.put _ (some 11) _ = _
              simp only [Act.put, List.setIfInBounds_toArray, List.set_cons_zero, List.set_cons_succ, i64_w, i32_w]
              rfl
            refine one_ (i := 4) (N := some 23) #[true, true, true, true, true, false, false, false, true, false, false] rfl rfl (by kernel_rfl) (by decide) (fun K hK => ?_)
            refine goes_ Try.func38 (by kernel_rfl) rfl #[.agg cs, .int .i64 a1, .agg #[.int .i64 a2_0, .int .i64 a2_1]] (by rfl) rfl rfl (by simp only [List.map_toArray, List.map_cons, List.map_nil]; rfl) ?_
            with_reducible refine (under_calls cs (tabOf l0) _ a1 a2_0 a2_1 r1 r2 r3 _ HT.out hn HU.out).mono ?_
            rintro e w4 ⟨rfl, hb⟩
            refine ⟨_, rfl, ?_⟩
            have n_HB := Aside0.mk (below_step HB.out hb)
            have n_BK7 := Aside0.mk (blk_below BK7.out hb)
            have n_BK11 := Aside0.mk (blk_below BK11.out hb)
            have hk := Aside0.mk hb
            clear hb HB BK7 BK11
            have HB := n_HB
            have BK7 := n_BK7
            have BK11 := n_BK11
            clear n_HB n_BK7 n_BK11
            refine hK.out _ _ ⟨pw_cell_below hk.out hHeld.1, pw_cell_below hk.out hHeld.2⟩ (fun hHeld => ?_)
            clear hK K
            refine norm_ (a' := ?_) ?_ ?_
            rotate_left
            · show Act.put _ (some 23) _ = _
              simp only [Act.put, List.setIfInBounds_toArray, List.set_cons_zero, List.set_cons_succ, i64_w, i32_w]
              rfl
            refine pure_ (i := 5) (N := some 18) (v := ?_) (a' := ?_) #[true, true, true, true, true, true, false, false, true, false, false] rfl rfl (by kernel_rfl) (fun _ _ _ h => h) (Or.inl ⟨by rfl, ?_⟩) ?_ ?_
            rotate_left
            · intro w'
              go_simp
              with_reducible rfl
            rotate_left
            · simp only [Act.put, List.setIfInBounds_toArray, List.set_cons_zero, List.set_cons_succ, i64_w, i32_w]
              rfl
            refine pure_ (i := 6) (N := some 24) (v := ?_) (a' := ?_) #[true, true, true, true, true, true, true, false, true, false, false] rfl rfl (by kernel_rfl) (fun _ _ _ h => h) (Or.inl ⟨by rfl, ?_⟩) ?_ ?_
            rotate_left
            · intro w'
              go_simp
              with_reducible rfl
            rotate_left
            · simp only [Act.put, List.setIfInBounds_toArray, List.set_cons_zero, List.set_cons_succ, i64_w, i32_w]
              rfl
            refine pure_ (i := 7) (N := some 25) (v := ?_) (a' := ?_) #[true, true, true, true, true, true, true, true, true, false, false] rfl rfl (by kernel_rfl) (fun _ _ _ h => h) (Or.inl ⟨by rfl, ?_⟩) ?_ ?_
            rotate_left
            · intro w'
              go_simp
              with_reducible rfl
            rotate_left
            · simp only [Act.put, List.setIfInBounds_toArray, List.set_cons_zero, List.set_cons_succ, i64_w, i32_w]
              rfl
            exact norm_ (by simp only [putAll, Act.put, List.setIfInBounds_toArray, List.set_cons_zero, List.set_cons_succ]) (hCont (cs, g11) _ ⟨hHeld, HB.out, BK7.out, BK11.out, GE11.out, NE11.out⟩)
        · skip
          refine box_step (by rfl) (N := 11) rfl (cs := #[.int .i64 0, .int .i64 0]) (t := 23) ?hr ?_
          (case hr => first | (go_simp; done) | (go_simp; rfl))
          intro g11 hg w8 hbox hb
          have GE11 := Aside0.mk ((by rw [hg]; exact HB.out.size) : w.heap.size ≤ g11)
          have NE11 := Aside0.mk ((by rw [hg]; exact Nat.ne_of_lt (blk_lt BK7.out)) : g7 ≠ g11)
          have BK11 := Aside0.mk hbox
          clear hg hbox
          have n_HB := Aside0.mk (below_step HB.out hb)
          have n_BK7 := Aside0.mk (blk_below BK7.out hb)
          have n_HRW := Aside0.mk (Kd.C_below HRW.out hb)
          have hk := Aside0.mk hb
          clear hb HB BK7 HRW
          have HB := n_HB
          have BK7 := n_BK7
          have HRW := n_HRW
          clear n_HB n_BK7 n_HRW
          refine hK.out _ _ ⟨pw_cell_below hk.out hHeld.1, pw_cell_below hk.out hHeld.2⟩ (fun hHeld => ?_)
          clear hK K
          refine norm_ (a' := ?_) ?_ ?_
          rotate_left
          · show Act.put _ (some 11) _ = _
            simp only [Act.put, List.setIfInBounds_toArray, List.set_cons_zero, List.set_cons_succ, i64_w, i32_w]
            rfl
          refine one_ (i := 1) (N := some 20) #[true, true, true, true, false, false, false, false, true, false, false] rfl rfl (by kernel_rfl) (by decide) (fun K hK => ?_)
          refine goes_ Try.func33 (by kernel_rfl) rfl #[.slice A0 l0.length c0] (by rfl) rfl rfl (by simp only [List.map_toArray, List.map_cons, List.map_nil]; rfl) ?_
          with_reducible refine (of_calls A0 c0 l0 _ HRW.out hc0 hl').mono ?_
          rintro e w1 ⟨cs, rfl, ht, hb⟩
          refine ⟨_, rfl, ?_⟩
          have HT := Aside0.mk ht
          clear ht
          have n_HB := Aside0.mk (below_step HB.out hb)
          have n_BK7 := Aside0.mk (blk_below BK7.out hb)
          have n_BK11 := Aside0.mk (blk_below BK11.out hb)
          have hk := Aside0.mk hb
          clear hb HB BK7 BK11
          have HB := n_HB
          have BK7 := n_BK7
          have BK11 := n_BK11
          clear n_HB n_BK7 n_BK11
          refine hK.out _ _ ⟨pw_cell_below hk.out hHeld.1, pw_cell_below hk.out hHeld.2⟩ (fun hHeld => ?_)
          clear hK K
          refine norm_ (a' := ?_) ?_ ?_
          rotate_left
          · show Act.put _ (some 20) _ = _
            simp only [Act.put, List.setIfInBounds_toArray, List.set_cons_zero, List.set_cons_succ, i64_w, i32_w]
            rfl
          refine one_ (i := 4) (N := some 23) #[true, true, true, true, true, false, false, false, true, false, false] rfl rfl (by kernel_rfl) (by decide) (fun K hK => ?_)
          refine goes_ Try.func38 (by kernel_rfl) rfl #[.agg cs, .int .i64 a1, .agg #[.int .i64 a2_0, .int .i64 a2_1]] (by rfl) rfl rfl (by simp only [List.map_toArray, List.map_cons, List.map_nil]; rfl) ?_
          with_reducible refine (under_calls cs (tabOf l0) _ a1 a2_0 a2_1 r1 r2 r3 _ HT.out hn HU.out).mono ?_
          rintro e w4 ⟨rfl, hb⟩
          refine ⟨_, rfl, ?_⟩
          have n_HB := Aside0.mk (below_step HB.out hb)
          have n_BK7 := Aside0.mk (blk_below BK7.out hb)
          have n_BK11 := Aside0.mk (blk_below BK11.out hb)
          have hk := Aside0.mk hb
          clear hb HB BK7 BK11
          have HB := n_HB
          have BK7 := n_BK7
          have BK11 := n_BK11
          clear n_HB n_BK7 n_BK11
          refine hK.out _ _ ⟨pw_cell_below hk.out hHeld.1, pw_cell_below hk.out hHeld.2⟩ (fun hHeld => ?_)
          clear hK K
          refine norm_ (a' := ?_) ?_ ?_
          rotate_left
          · show Act.put _ (some 23) _ = _
            simp only [Act.put, List.setIfInBounds_toArray, List.set_cons_zero, List.set_cons_succ, i64_w, i32_w]
            rfl
          refine pure_ (i := 5) (N := some 18) (v := ?_) (a' := ?_) #[true, true, true, true, true, true, false, false, true, false, false] rfl rfl (by kernel_rfl) (fun _ _ _ h => h) (Or.inl ⟨by rfl, ?_⟩) ?_ ?_
          rotate_left
          · intro w'
            go_simp
            with_reducible rfl
          rotate_left
          · simp only [Act.put, List.setIfInBounds_toArray, List.set_cons_zero, List.set_cons_succ, i64_w, i32_w]
            rfl
          refine pure_ (i := 6) (N := some 24) (v := ?_) (a' := ?_) #[true, true, true, true, true, true, true, false, true, false, false] rfl rfl (by kernel_rfl) (fun _ _ _ h => h) (Or.inl ⟨by rfl, ?_⟩) ?_ ?_
          rotate_left
          · intro w'
            go_simp
            with_reducible rfl
          rotate_left
          · simp only [Act.put, List.setIfInBounds_toArray, List.set_cons_zero, List.set_cons_succ, i64_w, i32_w]
            rfl
          refine pure_ (i := 7) (N := some 25) (v := ?_) (a' := ?_) #[true, true, true, true, true, true, true, true, true, false, false] rfl rfl (by kernel_rfl) (fun _ _ _ h => h) (Or.inl ⟨by rfl, ?_⟩) ?_ ?_
          rotate_left
          · intro w'
            go_simp
            with_reducible rfl
          rotate_left
          · simp only [Act.put, List.setIfInBounds_toArray, List.set_cons_zero, List.set_cons_succ, i64_w, i32_w]
            rfl
          exact norm_ (by simp only [putAll, Act.put, List.setIfInBounds_toArray, List.set_cons_zero, List.set_cons_succ]) (hCont (cs, g11) _ ⟨hHeld, HB.out, BK7.out, BK11.out, GE11.out, NE11.out⟩)
      rintro ⟨cs, g11⟩ wq ⟨hS_, hb, h7, h11, hge, hne⟩
      have hHeld := hS_
      clear HB BK7 HRW
      have HB := Aside0.mk hb
      have BK7 := Aside0.mk h7
      have BK11 := Aside0.mk h11
      have GE11 := Aside0.mk hge
      have NE11 := Aside0.mk hne
      clear hb h7 h11 hge hne
      refine norm_ (a' := ?_) ?_ ?_
      rotate_left
      · simp only [putAll, Act.put, List.setIfInBounds_toArray, List.set_cons_zero, List.set_cons_succ]
        rfl
      refine pure_ (i := 9) (N := some 10) (v := ?_) (a' := ?_) #[true, true, true, true, true, true, true, true, true, true, false] rfl rfl (by kernel_rfl) (fun _ _ _ h => h) (Or.inl ⟨by rfl, ?_⟩) ?_ ?_
      rotate_left
      · intro w'
        go_simp
        with_reducible rfl
      rotate_left
      · simp only [Act.put, List.setIfInBounds_toArray, List.set_cons_zero, List.set_cons_succ, i64_w, i32_w]
        rfl
      refine last_ (i := 10) (N := none) #[true, true, true, true, true, true, true, true, true, true, true] rfl rfl (by kernel_rfl) (by decide) (fun K hK => ?_)
      have hs0 : wq.cell? ⟨g11, 0, none⟩ = some (.int .i64 0) := (blk_cell BK11.out 0).trans rfl
      have hs1 : wq.cell? ⟨g11, 1, none⟩ = some (.int .i64 0) := (blk_cell BK11.out 1).trans rfl
      have hf0 := blk_frozen (BK11.out) 0
      have hf1 := blk_frozen (BK11.out) 1
      refine skip_ (w1 := ?_) (by rfl) rfl ?_ ?_
      rotate_left
      · go_simp
        rfl
      refine hK.out _ _ ?_
      clear hK K
      refine done_ (by kernel_rfl) ?_
      go_wp2
      have z0 := (show (((wq.setCell ⟨g11, 0, none⟩ (.int .i64 r2)).setCell ⟨g11, 1, none⟩ (.int .i64 r3)).heap[g11]? = some (.cells #[.int .i64 r2, .int .i64 r3] 23 (0, 0))) from blk_put (cs := #[.int .i64 r2, .int .i64 0]) (blk_put (cs := #[.int .i64 0, .int .i64 0]) BK11.out 0 _ rfl) 1 _ rfl)
      have z1 := (show (((wq.setCell ⟨g11, 0, none⟩ (.int .i64 r2)).setCell ⟨g11, 1, none⟩ (.int .i64 r3)).heap[g7]? = some (.cells #[.int .i64 0, .int .i64 0] 23 (0, 0))) from blk_far (blk_far BK7.out NE11.out _) NE11.out _)
      have Z0 := Aside0.mk z0
      have Z1 := Aside0.mk z1
      have HB2 := Aside0.mk (below_set (j := 1) (v := .int .i64 r3) (below_set (j := 0) (v := .int .i64 r2) HB.out GE11.out) GE11.out)
      clear z0 z1
      generalize ((wq.setCell ⟨g11, 0, none⟩ (.int .i64 r2)).setCell ⟨g11, 1, none⟩ (.int .i64 r3)) = wz at *
      have y0 := (blk_cell Z0.out 0).trans rfl
      have y1 := (blk_cell Z0.out 1).trans rfl
      go_outline
      refine start_ (n := 5) (S := fun w' => w'.cell? ⟨g11, 0, none⟩ = some (.int .i64 r2) ∧ w'.cell? ⟨g11, 1, none⟩ = some (.int .i64 r3)) (ds := [3]) #[false, false, false, false, false] (by kernel_rfl) rfl rfl ⟨y0, y1⟩ (fun hHeld => ?_)
      refine pure_ (i := 0) (N := some 26) (v := ?_) (a' := ?_) #[true, false, false, false, false] rfl rfl (by kernel_rfl) (fun _ _ _ h => h) (Or.inl ⟨by rfl, ?_⟩) ?_ ?_
      rotate_left
      · intro w'
        go_simp
        with_reducible rfl
      rotate_left
      · simp only [Act.put, List.setIfInBounds_toArray, List.set_cons_zero, List.set_cons_succ, i64_w, i32_w]
        rfl
      refine pure_ (i := 2) (N := some 6) (v := ?_) (a' := ?_) #[true, false, true, false, false] rfl rfl (by kernel_rfl) (fun _ _ _ h => h) (Or.inl ⟨by rfl, ?_⟩) ?_ ?_
      rotate_left
      · intro w'
        go_simp
        with_reducible rfl
      rotate_left
      · simp only [Act.put, List.setIfInBounds_toArray, List.set_cons_zero, List.set_cons_succ, i64_w, i32_w]
        rfl
      refine take_ (i := 1) (N := some 27) (v := ?_) (a' := ?_) #[true, true, true, false, false] rfl rfl (by kernel_rfl) (fun _ _ _ h => h) (Or.inl ⟨by rfl, ?_⟩) hHeld ?_ ?_
      rotate_left
      · rintro w' ⟨s0, s1⟩
        go_simp
        with_reducible rfl
      rotate_left
      · simp only [Act.put, List.setIfInBounds_toArray, List.set_cons_zero, List.set_cons_succ, i64_w, i32_w]
        rfl
      refine last_ (i := 3) (N := none) #[true, true, true, true, false] rfl rfl (by kernel_rfl) (by decide) (fun K hK => ?_)
      have hs0 : wz.cell? ⟨g7, 0, none⟩ = some (.int .i64 0) := (blk_cell Z1.out 0).trans rfl
      have hs1 : wz.cell? ⟨g7, 1, none⟩ = some (.int .i64 0) := (blk_cell Z1.out 1).trans rfl
      have hf0 := blk_frozen (Z1.out) 0
      have hf1 := blk_frozen (Z1.out) 1
      refine skip_ (w1 := ?_) (by rfl) rfl ?_ ?_
      rotate_left
      · go_simp
        rfl
      refine hK.out _ _ ?_
      clear hK K
      refine pure_ (i := 4) (N := some 8) (v := ?_) (a' := ?_) #[true, true, true, true, true] rfl rfl (by kernel_rfl) (fun _ _ _ h => h) (Or.inl ⟨by rfl, ?_⟩) ?_ ?_
      rotate_left
      · intro w'
        go_simp
        with_reducible rfl
      rotate_left
      · simp only [Act.put, List.setIfInBounds_toArray, List.set_cons_zero, List.set_cons_succ, i64_w, i32_w]
        rfl
      refine done_ (by kernel_rfl) ?_
      go_wp2
      refine bodyPost_ret (results_tct rfl _ _ g7 23 #[.int .i64 r2, .int .i64 r3] (0, 0) _ rfl (by (with_reducible repeat (first | refine blk_drewN ?_ _ | refine blk_drew ?_ | refine blk_alloc ?_ _)); refine blk_put (cs := #[.int .i64 r2, .int .i64 0]) ?_ 1 _ rfl; (with_reducible repeat (first | refine blk_drewN ?_ _ | refine blk_drew ?_ | refine blk_alloc ?_ _)); refine blk_put (cs := #[.int .i64 0, .int .i64 0]) ?_ 0 _ rfl; (with_reducible repeat (first | refine blk_drewN ?_ _ | refine blk_drew ?_ | refine blk_alloc ?_ _)); exact Z1.out) Try.underlying23 rfl (by kernel_rfl)) rfl ?_
      exact ⟨rfl, by repeat (first | (with_reducible first | exact HB2.out | apply below_alloc | apply pw_below_drewN | apply below_drew1 | refine below_set ?_ GE7.out) | exact HB2.out)⟩
  · rw [if_neg hl] at h
    cases h
end Go.Proofs.Ytejidnmgjccidaa.R
end
section
namespace Go.Proofs.Ytejidnmgjccidaa.R
open Go.RowKit Go.Proofs.YtejidnmgjccidaaW.PrintWords Go.Proofs.YtejidnmgjccidaaW.PrintLast Go.Proofs.YtejidnmgjccidaaW.PrintMore
attribute [local go_sem] max2_int min2_int max_two min_two max_three min_three max_four min_four
set_option linter.unusedVariables false
set_option linter.unusedSimpArgs false
attribute [local go_sem high] eqA23
def plenumlaw13_awake.f (k : Nat)  : Option (Bool) := (plenumlaw13_analog.f 19000).bind fun bt123 => ((plenumlaw13_analog.f 21000).bind fun bt125 => ((some (([(⟨16, 1, (⟨bt123.1, bt123.2⟩ : S23)⟩ : S25), (⟨8, 1, (⟨bt125.1, bt125.2⟩ : S23)⟩ : S25)] : List (S25)) : List (S25))).bind fun y127 => ((plenumlaw13_analog.f 20000).bind fun bt130 => ((priority_Active.f y127 bt130.1 bt130.2).bind fun bt132 => ((plenumlaw13_analog.f 20000).bind fun bt136 => ((priority_Under.f y127 8 bt136.1 bt136.2).bind fun bt138 => ((priority_Put.f y127 8 0 0).bind fun bt143 => ((priority_Slot.f bt143.1 16).bind fun bt147 => ((priority_Join.f bt143.1 y127).bind fun t151 => ((plenumlaw13_analog.f 20000).bind fun bt154 => ((priority_Active.f t151 bt154.1 bt154.2).bind fun bt156 => (if bt132.1 = 8 then ((plenumlaw13_analog.f 21000).bind fun bt160 => (if (bt132.2.1 == bt160.1 && (bt132.2.2 == bt160.2)) = true then (if bt138.2.2.2 = 0 then (if bt138.1 = 16 then ((plenumlaw13_analog.f 19000).bind fun bt162 => (if (bt138.2.1 == bt162.1 && (bt138.2.2.1 == bt162.2)) = true then (if bt143.2 = 0 then (if (bt143.1.length : Int) = 2 then (if 0 < (bt143.1.length : Int) then (if ((rd_T25 bt143.1 0).f1) = 2 then (if bt147.2.2 = 0 then ((plenumlaw13_analog.f 19000).bind fun bt165 => (if (bt147.1 == bt165.1 && (bt147.2.1 == bt165.2)) = true then (if bt156.1 = 16 then ((plenumlaw13_analog.f 19000).bind fun bt167 => (if (bt156.2.1 == bt167.1 && (bt156.2.2 == bt167.2)) = true then (if 0 < (y127.length : Int) then ((priority_Check.f k ((rd_T25 y127 0).f0) ((rd_T25 y127 0).f1) ((rd_T25 y127 0).f2.f0) ((rd_T25 y127 0).f2.f1)).bind fun t170 => (if t170 = 0 then ((priority_Check.f k 0 0 0 0).bind fun t171 => (if t171 = 1 then ((priority_Of.f y127).bind fun t172 => (if (t172.length : Int) = 2 then ((priority_Keep.f y127 (([16] : List Int))).bind fun t178 => (some ((t178.length : Int) == 1))) else (none))) else (none))) else (none))) else (none)) else (none))) else (none)) else (none))) else (none)) else (none)) else (none)) else (none)) else (none)) else (none))) else (none)) else (none)) else (none))) else (none)))))))))))))
theorem plenumlaw13_awake.mono : ∀ k, LeO (plenumlaw13_awake.f k ) (plenumlaw13_awake.f (k + 1) ) := by
  intro  k
  unfold plenumlaw13_awake.f
  repeat' first
      | (with_reducible exact priority_Check.mono _ _ _ _ _)
      | (with_reducible exact LeO.refl _)
      | (with_reducible exact LeO.none _)
      | (with_reducible refine LeO.ite ?_ ?_)
      | (with_reducible refine LeO.bind ?_ (fun _ => ?_))
      | exact priority_Check.mono _ _ _ _ _
      | exact LeO.none _
      | refine LeO.ite ?_ ?_
      | refine LeO.bind ?_ (fun _ => ?_)
def plenumlaw13_awake.T7 : Bool × List (List Nat × List Nat) := (true, [([], []), ([0], [0]), ([1], [1]), ([2], [2]), ([2, 2], [2]), ([3, 4, 2], [2, 3, 4]), ([2, 5], [2, 5]), ([6, 4], [6]), ([7], [7]), ([8, 7], [7, 8]), ([7, 9], [7, 9]), ([10, 7], [10]), ([11], [11]), ([12, 11], [11, 12]), ([11, 13], [11, 13]), ([14, 11], [14]), ([15], [15]), ([15, 15], [15]), ([16, 17, 15], [15, 16, 17]), ([15, 18], [15, 18]), ([19, 17], [19]), ([20], [20]), ([21, 20], [20, 21]), ([20, 22], [20, 22]), ([23, 20], [23]), ([24], [24]), ([25, 24], [24, 25]), ([26, 24], [24, 26]), ([24, 27], [24, 27]), ([28, 24], [28]), ([29], [29]), ([30, 29], [29, 30]), ([31, 29], [29, 31]), ([32, 29], [29, 32]), ([33, 29], [29, 33]), ([29, 34], [29, 34]), ([35, 29], [35]), ([36], [36]), ([37, 36], [36, 37]), ([36, 38], [36, 38]), ([39, 36], [39]), ([40], [40]), ([40, 40], [40]), ([41, 42, 40], [40, 41, 42]), ([40, 43], [40, 43]), ([44, 42], [44]), ([45], [45]), ([46, 45], [45, 46]), ([45, 47], [45, 47]), ([48, 45], [48]), ([49], [49]), ([49, 49], [49]), ([50, 51, 49], [49, 50, 51]), ([49, 52], [49, 52]), ([53, 51], [53]), ([54], [54]), ([55, 54], [54, 55]), ([56, 54], [54, 56]), ([57, 54, 54], [54, 57]), ([58, 54], [54, 58]), ([54, 59], [54, 59]), ([60, 58], [60]), ([61], [61]), ([62, 61, 61], [61, 62]), ([63, 61], [61, 63]), ([61, 64], [61, 64]), ([65, 63], [65]), ([66], [66]), ([67, 66, 66], [66, 67]), ([68, 66], [66, 68]), ([69, 66], [66, 69]), ([66, 70], [66, 70]), ([71, 68], [71]), ([72], [72]), ([72], [72]), ([73, 74, 72, 72], [72, 73, 74]), ([75, 72], [72, 75]), ([76, 72], [72, 76]), ([72, 77], [72, 77]), ([78, 75, 0, 1, 2, 3, 4, 5, 6, 7, 8, 9, 10, 11, 12, 13, 14, 15, 16, 17, 18, 19, 20, 21, 22, 23, 24, 25, 26, 27, 28, 29, 30, 31, 32, 33, 34, 35, 36, 37, 38, 39, 40, 41, 42, 43, 44, 45, 46, 47, 48, 49, 50, 51, 52, 53, 54, 55, 56, 57, 58, 59, 60, 61, 62, 63, 64, 65, 66, 67, 68, 69, 70, 71, 72, 73, 74, 75, 76, 77, 78], [78])])
def plenumlaw13_awake.B7 : List Nat := [0, 1, 3, 7, 7, 31, 63, 127, 255, 511, 1023, 2047, 4095, 8191, 16383, 32767, 65535, 65535, 262143, 524287, 1048575, 2097151, 4194303, 8388607, 16777215, 33554431, 67108863, 134217727, 268435455, 536870911, 1073741823, 2147483647, 4294967295, 8589934591, 17179869183, 34359738367, 68719476735, 137438953471, 274877906943, 549755813887, 1099511627775, 2199023255551, 2199023255551, 8796093022207, 17592186044415, 35184372088831, 70368744177663, 140737488355327, 281474976710655, 562949953421311, 1125899906842623, 1125899906842623, 4503599627370495, 9007199254740991, 18014398509481983, 36028797018963967, 72057594037927935, 144115188075855871, 288230376151711743, 576460752303423487, 1152921504606846975, 2305843009213693951, 4611686018427387903, 9223372036854775807, 18446744073709551615, 36893488147419103231, 73786976294838206463, 147573952589676412927, 295147905179352825855, 590295810358705651711, 1180591620717411303423, 2361183241434822606847, 4722366482869645213695, 9444732965739290427391, 9444732965739290427391, 37778931862957161709567, 75557863725914323419135, 151115727451828646838271, 302231454903657293676543, 604462909807314587353087]
theorem plenumlaw13_awake.tab7 : rtab .any (opsOf Try.f10 7) = plenumlaw13_awake.T7 := by kernel_rfl
theorem plenumlaw13_awake.bits7 : waitsOk plenumlaw13_awake.T7.2 plenumlaw13_awake.B7 = true := by kernel_rfl
set_option maxHeartbeats 8000000 in
set_option maxRecDepth 100000 in
theorem plenumlaw13_awake.calls (k : Nat)  (r : Bool) (w : World) (h : plenumlaw13_awake.f k  = some r) :
    Calls Try.prog 10 #[] w fun e w' => e = .returned (.bool r) ∧ Below w.heap.size w w' := by
  have hu25 := Try.underlying25
  have hu23 := Try.underlying23
  have HB := Aside0.mk (Below.refl w.heap.size w)
  have H : ((plenumlaw13_analog.f 19000).bind fun bt123 => ((plenumlaw13_analog.f 21000).bind fun bt125 => ((some (([(⟨16, 1, (⟨bt123.1, bt123.2⟩ : S23)⟩ : S25), (⟨8, 1, (⟨bt125.1, bt125.2⟩ : S23)⟩ : S25)] : List (S25)) : List (S25))).bind fun y127 => ((plenumlaw13_analog.f 20000).bind fun bt130 => ((priority_Active.f y127 bt130.1 bt130.2).bind fun bt132 => ((plenumlaw13_analog.f 20000).bind fun bt136 => ((priority_Under.f y127 8 bt136.1 bt136.2).bind fun bt138 => ((priority_Put.f y127 8 0 0).bind fun bt143 => ((priority_Slot.f bt143.1 16).bind fun bt147 => ((priority_Join.f bt143.1 y127).bind fun t151 => ((plenumlaw13_analog.f 20000).bind fun bt154 => ((priority_Active.f t151 bt154.1 bt154.2).bind fun bt156 => (if bt132.1 = 8 then ((plenumlaw13_analog.f 21000).bind fun bt160 => (if (bt132.2.1 == bt160.1 && (bt132.2.2 == bt160.2)) = true then (if bt138.2.2.2 = 0 then (if bt138.1 = 16 then ((plenumlaw13_analog.f 19000).bind fun bt162 => (if (bt138.2.1 == bt162.1 && (bt138.2.2.1 == bt162.2)) = true then (if bt143.2 = 0 then (if (bt143.1.length : Int) = 2 then (if 0 < (bt143.1.length : Int) then (if ((rd_T25 bt143.1 0).f1) = 2 then (if bt147.2.2 = 0 then ((plenumlaw13_analog.f 19000).bind fun bt165 => (if (bt147.1 == bt165.1 && (bt147.2.1 == bt165.2)) = true then (if bt156.1 = 16 then ((plenumlaw13_analog.f 19000).bind fun bt167 => (if (bt156.2.1 == bt167.1 && (bt156.2.2 == bt167.2)) = true then (if 0 < (y127.length : Int) then ((priority_Check.f k ((rd_T25 y127 0).f0) ((rd_T25 y127 0).f1) ((rd_T25 y127 0).f2.f0) ((rd_T25 y127 0).f2.f1)).bind fun t170 => (if t170 = 0 then ((priority_Check.f k 0 0 0 0).bind fun t171 => (if t171 = 1 then ((priority_Of.f y127).bind fun t172 => (if (t172.length : Int) = 2 then ((priority_Keep.f y127 (([16] : List Int))).bind fun t178 => (some ((t178.length : Int) == 1))) else (none))) else (none))) else (none))) else (none)) else (none))) else (none)) else (none))) else (none)) else (none)) else (none)) else (none)) else (none)) else (none))) else (none)) else (none)) else (none))) else (none)))))))))))))) = some r := h
  clear h
  replace H := Option.bind_eq_some_iff.mp H
  obtain ⟨⟨t123, t124⟩, A10, H⟩ := H
  replace H : ((plenumlaw13_analog.f 21000).bind fun bt125 => ((some (([(⟨16, 1, (⟨t123, t124⟩ : S23)⟩ : S25), (⟨8, 1, (⟨bt125.1, bt125.2⟩ : S23)⟩ : S25)] : List (S25)) : List (S25))).bind fun y127 => ((plenumlaw13_analog.f 20000).bind fun bt130 => ((priority_Active.f y127 bt130.1 bt130.2).bind fun bt132 => ((plenumlaw13_analog.f 20000).bind fun bt136 => ((priority_Under.f y127 8 bt136.1 bt136.2).bind fun bt138 => ((priority_Put.f y127 8 0 0).bind fun bt143 => ((priority_Slot.f bt143.1 16).bind fun bt147 => ((priority_Join.f bt143.1 y127).bind fun t151 => ((plenumlaw13_analog.f 20000).bind fun bt154 => ((priority_Active.f t151 bt154.1 bt154.2).bind fun bt156 => (if bt132.1 = 8 then ((plenumlaw13_analog.f 21000).bind fun bt160 => (if (bt132.2.1 == bt160.1 && (bt132.2.2 == bt160.2)) = true then (if bt138.2.2.2 = 0 then (if bt138.1 = 16 then ((plenumlaw13_analog.f 19000).bind fun bt162 => (if (bt138.2.1 == bt162.1 && (bt138.2.2.1 == bt162.2)) = true then (if bt143.2 = 0 then (if (bt143.1.length : Int) = 2 then (if 0 < (bt143.1.length : Int) then (if ((rd_T25 bt143.1 0).f1) = 2 then (if bt147.2.2 = 0 then ((plenumlaw13_analog.f 19000).bind fun bt165 => (if (bt147.1 == bt165.1 && (bt147.2.1 == bt165.2)) = true then (if bt156.1 = 16 then ((plenumlaw13_analog.f 19000).bind fun bt167 => (if (bt156.2.1 == bt167.1 && (bt156.2.2 == bt167.2)) = true then (if 0 < (y127.length : Int) then ((priority_Check.f k ((rd_T25 y127 0).f0) ((rd_T25 y127 0).f1) ((rd_T25 y127 0).f2.f0) ((rd_T25 y127 0).f2.f1)).bind fun t170 => (if t170 = 0 then ((priority_Check.f k 0 0 0 0).bind fun t171 => (if t171 = 1 then ((priority_Of.f y127).bind fun t172 => (if (t172.length : Int) = 2 then ((priority_Keep.f y127 (([16] : List Int))).bind fun t178 => (some ((t178.length : Int) == 1))) else (none))) else (none))) else (none))) else (none)) else (none))) else (none)) else (none))) else (none)) else (none)) else (none)) else (none)) else (none)) else (none))) else (none)) else (none)) else (none))) else (none))))))))))))) = some r := H
  have A1 := Aside0.mk A10
  clear A10
  replace H := Option.bind_eq_some_iff.mp H
  obtain ⟨⟨t125, t126⟩, A20, H⟩ := H
  replace H : ((some (([(⟨16, 1, (⟨t123, t124⟩ : S23)⟩ : S25), (⟨8, 1, (⟨t125, t126⟩ : S23)⟩ : S25)] : List (S25)) : List (S25))).bind fun y127 => ((plenumlaw13_analog.f 20000).bind fun bt130 => ((priority_Active.f y127 bt130.1 bt130.2).bind fun bt132 => ((plenumlaw13_analog.f 20000).bind fun bt136 => ((priority_Under.f y127 8 bt136.1 bt136.2).bind fun bt138 => ((priority_Put.f y127 8 0 0).bind fun bt143 => ((priority_Slot.f bt143.1 16).bind fun bt147 => ((priority_Join.f bt143.1 y127).bind fun t151 => ((plenumlaw13_analog.f 20000).bind fun bt154 => ((priority_Active.f t151 bt154.1 bt154.2).bind fun bt156 => (if bt132.1 = 8 then ((plenumlaw13_analog.f 21000).bind fun bt160 => (if (bt132.2.1 == bt160.1 && (bt132.2.2 == bt160.2)) = true then (if bt138.2.2.2 = 0 then (if bt138.1 = 16 then ((plenumlaw13_analog.f 19000).bind fun bt162 => (if (bt138.2.1 == bt162.1 && (bt138.2.2.1 == bt162.2)) = true then (if bt143.2 = 0 then (if (bt143.1.length : Int) = 2 then (if 0 < (bt143.1.length : Int) then (if ((rd_T25 bt143.1 0).f1) = 2 then (if bt147.2.2 = 0 then ((plenumlaw13_analog.f 19000).bind fun bt165 => (if (bt147.1 == bt165.1 && (bt147.2.1 == bt165.2)) = true then (if bt156.1 = 16 then ((plenumlaw13_analog.f 19000).bind fun bt167 => (if (bt156.2.1 == bt167.1 && (bt156.2.2 == bt167.2)) = true then (if 0 < (y127.length : Int) then ((priority_Check.f k ((rd_T25 y127 0).f0) ((rd_T25 y127 0).f1) ((rd_T25 y127 0).f2.f0) ((rd_T25 y127 0).f2.f1)).bind fun t170 => (if t170 = 0 then ((priority_Check.f k 0 0 0 0).bind fun t171 => (if t171 = 1 then ((priority_Of.f y127).bind fun t172 => (if (t172.length : Int) = 2 then ((priority_Keep.f y127 (([16] : List Int))).bind fun t178 => (some ((t178.length : Int) == 1))) else (none))) else (none))) else (none))) else (none)) else (none))) else (none)) else (none))) else (none)) else (none)) else (none)) else (none)) else (none)) else (none))) else (none)) else (none)) else (none))) else (none)))))))))))) = some r := H
  have A2 := Aside0.mk A20
  clear A20
  obtain ⟨y127, hy127⟩ : ∃ y_ : List (S25), y_ = (([(⟨16, 1, (⟨t123, t124⟩ : S23)⟩ : S25), (⟨8, 1, (⟨t125, t126⟩ : S23)⟩ : S25)] : List (S25))) := ⟨_, rfl⟩
  replace H : ((plenumlaw13_analog.f 20000).bind fun bt130 => ((priority_Active.f y127 bt130.1 bt130.2).bind fun bt132 => ((plenumlaw13_analog.f 20000).bind fun bt136 => ((priority_Under.f y127 8 bt136.1 bt136.2).bind fun bt138 => ((priority_Put.f y127 8 0 0).bind fun bt143 => ((priority_Slot.f bt143.1 16).bind fun bt147 => ((priority_Join.f bt143.1 y127).bind fun t151 => ((plenumlaw13_analog.f 20000).bind fun bt154 => ((priority_Active.f t151 bt154.1 bt154.2).bind fun bt156 => (if bt132.1 = 8 then ((plenumlaw13_analog.f 21000).bind fun bt160 => (if (bt132.2.1 == bt160.1 && (bt132.2.2 == bt160.2)) = true then (if bt138.2.2.2 = 0 then (if bt138.1 = 16 then ((plenumlaw13_analog.f 19000).bind fun bt162 => (if (bt138.2.1 == bt162.1 && (bt138.2.2.1 == bt162.2)) = true then (if bt143.2 = 0 then (if (bt143.1.length : Int) = 2 then (if 0 < (bt143.1.length : Int) then (if ((rd_T25 bt143.1 0).f1) = 2 then (if bt147.2.2 = 0 then ((plenumlaw13_analog.f 19000).bind fun bt165 => (if (bt147.1 == bt165.1 && (bt147.2.1 == bt165.2)) = true then (if bt156.1 = 16 then ((plenumlaw13_analog.f 19000).bind fun bt167 => (if (bt156.2.1 == bt167.1 && (bt156.2.2 == bt167.2)) = true then (if 0 < (y127.length : Int) then ((priority_Check.f k ((rd_T25 y127 0).f0) ((rd_T25 y127 0).f1) ((rd_T25 y127 0).f2.f0) ((rd_T25 y127 0).f2.f1)).bind fun t170 => (if t170 = 0 then ((priority_Check.f k 0 0 0 0).bind fun t171 => (if t171 = 1 then ((priority_Of.f y127).bind fun t172 => (if (t172.length : Int) = 2 then ((priority_Keep.f y127 (([16] : List Int))).bind fun t178 => (some ((t178.length : Int) == 1))) else (none))) else (none))) else (none))) else (none)) else (none))) else (none)) else (none))) else (none)) else (none)) else (none)) else (none)) else (none)) else (none))) else (none)) else (none)) else (none))) else (none))))))))))) = some r := by first | (rw [hy127]; with_reducible exact H) | (have H2_ := (Option.bind_some _ _).symm.trans H; rw [hy127]; with_reducible exact H2_) | (have H2_ := (Option.bind_some _ _).symm.trans H; with_reducible exact H2_) | with_reducible exact H | (rw [hy127]; exact H) | exact H
  have Ny127 := Aside0.mk hy127
  clear hy127
  replace H := Option.bind_eq_some_iff.mp H
  obtain ⟨⟨t130, t131⟩, A30, H⟩ := H
  replace H : ((priority_Active.f y127 t130 t131).bind fun bt132 => ((plenumlaw13_analog.f 20000).bind fun bt136 => ((priority_Under.f y127 8 bt136.1 bt136.2).bind fun bt138 => ((priority_Put.f y127 8 0 0).bind fun bt143 => ((priority_Slot.f bt143.1 16).bind fun bt147 => ((priority_Join.f bt143.1 y127).bind fun t151 => ((plenumlaw13_analog.f 20000).bind fun bt154 => ((priority_Active.f t151 bt154.1 bt154.2).bind fun bt156 => (if bt132.1 = 8 then ((plenumlaw13_analog.f 21000).bind fun bt160 => (if (bt132.2.1 == bt160.1 && (bt132.2.2 == bt160.2)) = true then (if bt138.2.2.2 = 0 then (if bt138.1 = 16 then ((plenumlaw13_analog.f 19000).bind fun bt162 => (if (bt138.2.1 == bt162.1 && (bt138.2.2.1 == bt162.2)) = true then (if bt143.2 = 0 then (if (bt143.1.length : Int) = 2 then (if 0 < (bt143.1.length : Int) then (if ((rd_T25 bt143.1 0).f1) = 2 then (if bt147.2.2 = 0 then ((plenumlaw13_analog.f 19000).bind fun bt165 => (if (bt147.1 == bt165.1 && (bt147.2.1 == bt165.2)) = true then (if bt156.1 = 16 then ((plenumlaw13_analog.f 19000).bind fun bt167 => (if (bt156.2.1 == bt167.1 && (bt156.2.2 == bt167.2)) = true then (if 0 < (y127.length : Int) then ((priority_Check.f k ((rd_T25 y127 0).f0) ((rd_T25 y127 0).f1) ((rd_T25 y127 0).f2.f0) ((rd_T25 y127 0).f2.f1)).bind fun t170 => (if t170 = 0 then ((priority_Check.f k 0 0 0 0).bind fun t171 => (if t171 = 1 then ((priority_Of.f y127).bind fun t172 => (if (t172.length : Int) = 2 then ((priority_Keep.f y127 (([16] : List Int))).bind fun t178 => (some ((t178.length : Int) == 1))) else (none))) else (none))) else (none))) else (none)) else (none))) else (none)) else (none))) else (none)) else (none)) else (none)) else (none)) else (none)) else (none))) else (none)) else (none)) else (none))) else (none)))))))))) = some r := H
  have A3 := Aside0.mk A30
  clear A30
  replace H := Option.bind_eq_some_iff.mp H
  obtain ⟨⟨t132, t133, t134⟩, A40, H⟩ := H
  replace H : ((plenumlaw13_analog.f 20000).bind fun bt136 => ((priority_Under.f y127 8 bt136.1 bt136.2).bind fun bt138 => ((priority_Put.f y127 8 0 0).bind fun bt143 => ((priority_Slot.f bt143.1 16).bind fun bt147 => ((priority_Join.f bt143.1 y127).bind fun t151 => ((plenumlaw13_analog.f 20000).bind fun bt154 => ((priority_Active.f t151 bt154.1 bt154.2).bind fun bt156 => (if t132 = 8 then ((plenumlaw13_analog.f 21000).bind fun bt160 => (if (t133 == bt160.1 && (t134 == bt160.2)) = true then (if bt138.2.2.2 = 0 then (if bt138.1 = 16 then ((plenumlaw13_analog.f 19000).bind fun bt162 => (if (bt138.2.1 == bt162.1 && (bt138.2.2.1 == bt162.2)) = true then (if bt143.2 = 0 then (if (bt143.1.length : Int) = 2 then (if 0 < (bt143.1.length : Int) then (if ((rd_T25 bt143.1 0).f1) = 2 then (if bt147.2.2 = 0 then ((plenumlaw13_analog.f 19000).bind fun bt165 => (if (bt147.1 == bt165.1 && (bt147.2.1 == bt165.2)) = true then (if bt156.1 = 16 then ((plenumlaw13_analog.f 19000).bind fun bt167 => (if (bt156.2.1 == bt167.1 && (bt156.2.2 == bt167.2)) = true then (if 0 < (y127.length : Int) then ((priority_Check.f k ((rd_T25 y127 0).f0) ((rd_T25 y127 0).f1) ((rd_T25 y127 0).f2.f0) ((rd_T25 y127 0).f2.f1)).bind fun t170 => (if t170 = 0 then ((priority_Check.f k 0 0 0 0).bind fun t171 => (if t171 = 1 then ((priority_Of.f y127).bind fun t172 => (if (t172.length : Int) = 2 then ((priority_Keep.f y127 (([16] : List Int))).bind fun t178 => (some ((t178.length : Int) == 1))) else (none))) else (none))) else (none))) else (none)) else (none))) else (none)) else (none))) else (none)) else (none)) else (none)) else (none)) else (none)) else (none))) else (none)) else (none)) else (none))) else (none))))))))) = some r := H
  have A4 := Aside0.mk A40
  clear A40
  replace H := Option.bind_eq_some_iff.mp H
  obtain ⟨⟨t136, t137⟩, A50, H⟩ := H
  replace H : ((priority_Under.f y127 8 t136 t137).bind fun bt138 => ((priority_Put.f y127 8 0 0).bind fun bt143 => ((priority_Slot.f bt143.1 16).bind fun bt147 => ((priority_Join.f bt143.1 y127).bind fun t151 => ((plenumlaw13_analog.f 20000).bind fun bt154 => ((priority_Active.f t151 bt154.1 bt154.2).bind fun bt156 => (if t132 = 8 then ((plenumlaw13_analog.f 21000).bind fun bt160 => (if (t133 == bt160.1 && (t134 == bt160.2)) = true then (if bt138.2.2.2 = 0 then (if bt138.1 = 16 then ((plenumlaw13_analog.f 19000).bind fun bt162 => (if (bt138.2.1 == bt162.1 && (bt138.2.2.1 == bt162.2)) = true then (if bt143.2 = 0 then (if (bt143.1.length : Int) = 2 then (if 0 < (bt143.1.length : Int) then (if ((rd_T25 bt143.1 0).f1) = 2 then (if bt147.2.2 = 0 then ((plenumlaw13_analog.f 19000).bind fun bt165 => (if (bt147.1 == bt165.1 && (bt147.2.1 == bt165.2)) = true then (if bt156.1 = 16 then ((plenumlaw13_analog.f 19000).bind fun bt167 => (if (bt156.2.1 == bt167.1 && (bt156.2.2 == bt167.2)) = true then (if 0 < (y127.length : Int) then ((priority_Check.f k ((rd_T25 y127 0).f0) ((rd_T25 y127 0).f1) ((rd_T25 y127 0).f2.f0) ((rd_T25 y127 0).f2.f1)).bind fun t170 => (if t170 = 0 then ((priority_Check.f k 0 0 0 0).bind fun t171 => (if t171 = 1 then ((priority_Of.f y127).bind fun t172 => (if (t172.length : Int) = 2 then ((priority_Keep.f y127 (([16] : List Int))).bind fun t178 => (some ((t178.length : Int) == 1))) else (none))) else (none))) else (none))) else (none)) else (none))) else (none)) else (none))) else (none)) else (none)) else (none)) else (none)) else (none)) else (none))) else (none)) else (none)) else (none))) else (none)))))))) = some r := H
  have A5 := Aside0.mk A50
  clear A50
  replace H := Option.bind_eq_some_iff.mp H
  obtain ⟨⟨t138, t139, t140, t141⟩, A60, H⟩ := H
  replace H : ((priority_Put.f y127 8 0 0).bind fun bt143 => ((priority_Slot.f bt143.1 16).bind fun bt147 => ((priority_Join.f bt143.1 y127).bind fun t151 => ((plenumlaw13_analog.f 20000).bind fun bt154 => ((priority_Active.f t151 bt154.1 bt154.2).bind fun bt156 => (if t132 = 8 then ((plenumlaw13_analog.f 21000).bind fun bt160 => (if (t133 == bt160.1 && (t134 == bt160.2)) = true then (if t141 = 0 then (if t138 = 16 then ((plenumlaw13_analog.f 19000).bind fun bt162 => (if (t139 == bt162.1 && (t140 == bt162.2)) = true then (if bt143.2 = 0 then (if (bt143.1.length : Int) = 2 then (if 0 < (bt143.1.length : Int) then (if ((rd_T25 bt143.1 0).f1) = 2 then (if bt147.2.2 = 0 then ((plenumlaw13_analog.f 19000).bind fun bt165 => (if (bt147.1 == bt165.1 && (bt147.2.1 == bt165.2)) = true then (if bt156.1 = 16 then ((plenumlaw13_analog.f 19000).bind fun bt167 => (if (bt156.2.1 == bt167.1 && (bt156.2.2 == bt167.2)) = true then (if 0 < (y127.length : Int) then ((priority_Check.f k ((rd_T25 y127 0).f0) ((rd_T25 y127 0).f1) ((rd_T25 y127 0).f2.f0) ((rd_T25 y127 0).f2.f1)).bind fun t170 => (if t170 = 0 then ((priority_Check.f k 0 0 0 0).bind fun t171 => (if t171 = 1 then ((priority_Of.f y127).bind fun t172 => (if (t172.length : Int) = 2 then ((priority_Keep.f y127 (([16] : List Int))).bind fun t178 => (some ((t178.length : Int) == 1))) else (none))) else (none))) else (none))) else (none)) else (none))) else (none)) else (none))) else (none)) else (none)) else (none)) else (none)) else (none)) else (none))) else (none)) else (none)) else (none))) else (none))))))) = some r := H
  have A6 := Aside0.mk A60
  clear A60
  replace H := Option.bind_eq_some_iff.mp H
  obtain ⟨⟨t143, t146⟩, A70, H⟩ := H
  replace H : ((priority_Slot.f t143 16).bind fun bt147 => ((priority_Join.f t143 y127).bind fun t151 => ((plenumlaw13_analog.f 20000).bind fun bt154 => ((priority_Active.f t151 bt154.1 bt154.2).bind fun bt156 => (if t132 = 8 then ((plenumlaw13_analog.f 21000).bind fun bt160 => (if (t133 == bt160.1 && (t134 == bt160.2)) = true then (if t141 = 0 then (if t138 = 16 then ((plenumlaw13_analog.f 19000).bind fun bt162 => (if (t139 == bt162.1 && (t140 == bt162.2)) = true then (if t146 = 0 then (if (t143.length : Int) = 2 then (if 0 < (t143.length : Int) then (if ((rd_T25 t143 0).f1) = 2 then (if bt147.2.2 = 0 then ((plenumlaw13_analog.f 19000).bind fun bt165 => (if (bt147.1 == bt165.1 && (bt147.2.1 == bt165.2)) = true then (if bt156.1 = 16 then ((plenumlaw13_analog.f 19000).bind fun bt167 => (if (bt156.2.1 == bt167.1 && (bt156.2.2 == bt167.2)) = true then (if 0 < (y127.length : Int) then ((priority_Check.f k ((rd_T25 y127 0).f0) ((rd_T25 y127 0).f1) ((rd_T25 y127 0).f2.f0) ((rd_T25 y127 0).f2.f1)).bind fun t170 => (if t170 = 0 then ((priority_Check.f k 0 0 0 0).bind fun t171 => (if t171 = 1 then ((priority_Of.f y127).bind fun t172 => (if (t172.length : Int) = 2 then ((priority_Keep.f y127 (([16] : List Int))).bind fun t178 => (some ((t178.length : Int) == 1))) else (none))) else (none))) else (none))) else (none)) else (none))) else (none)) else (none))) else (none)) else (none)) else (none)) else (none)) else (none)) else (none))) else (none)) else (none)) else (none))) else (none)))))) = some r := H
  have A7 := Aside0.mk A70
  clear A70
  replace H := Option.bind_eq_some_iff.mp H
  obtain ⟨⟨t147, t148, t149⟩, A80, H⟩ := H
  replace H : ((priority_Join.f t143 y127).bind fun t151 => ((plenumlaw13_analog.f 20000).bind fun bt154 => ((priority_Active.f t151 bt154.1 bt154.2).bind fun bt156 => (if t132 = 8 then ((plenumlaw13_analog.f 21000).bind fun bt160 => (if (t133 == bt160.1 && (t134 == bt160.2)) = true then (if t141 = 0 then (if t138 = 16 then ((plenumlaw13_analog.f 19000).bind fun bt162 => (if (t139 == bt162.1 && (t140 == bt162.2)) = true then (if t146 = 0 then (if (t143.length : Int) = 2 then (if 0 < (t143.length : Int) then (if ((rd_T25 t143 0).f1) = 2 then (if t149 = 0 then ((plenumlaw13_analog.f 19000).bind fun bt165 => (if (t147 == bt165.1 && (t148 == bt165.2)) = true then (if bt156.1 = 16 then ((plenumlaw13_analog.f 19000).bind fun bt167 => (if (bt156.2.1 == bt167.1 && (bt156.2.2 == bt167.2)) = true then (if 0 < (y127.length : Int) then ((priority_Check.f k ((rd_T25 y127 0).f0) ((rd_T25 y127 0).f1) ((rd_T25 y127 0).f2.f0) ((rd_T25 y127 0).f2.f1)).bind fun t170 => (if t170 = 0 then ((priority_Check.f k 0 0 0 0).bind fun t171 => (if t171 = 1 then ((priority_Of.f y127).bind fun t172 => (if (t172.length : Int) = 2 then ((priority_Keep.f y127 (([16] : List Int))).bind fun t178 => (some ((t178.length : Int) == 1))) else (none))) else (none))) else (none))) else (none)) else (none))) else (none)) else (none))) else (none)) else (none)) else (none)) else (none)) else (none)) else (none))) else (none)) else (none)) else (none))) else (none))))) = some r := H
  have A8 := Aside0.mk A80
  clear A80
  replace H := Option.bind_eq_some_iff.mp H
  obtain ⟨t151, A90, H⟩ := H
  replace H : ((plenumlaw13_analog.f 20000).bind fun bt154 => ((priority_Active.f t151 bt154.1 bt154.2).bind fun bt156 => (if t132 = 8 then ((plenumlaw13_analog.f 21000).bind fun bt160 => (if (t133 == bt160.1 && (t134 == bt160.2)) = true then (if t141 = 0 then (if t138 = 16 then ((plenumlaw13_analog.f 19000).bind fun bt162 => (if (t139 == bt162.1 && (t140 == bt162.2)) = true then (if t146 = 0 then (if (t143.length : Int) = 2 then (if 0 < (t143.length : Int) then (if ((rd_T25 t143 0).f1) = 2 then (if t149 = 0 then ((plenumlaw13_analog.f 19000).bind fun bt165 => (if (t147 == bt165.1 && (t148 == bt165.2)) = true then (if bt156.1 = 16 then ((plenumlaw13_analog.f 19000).bind fun bt167 => (if (bt156.2.1 == bt167.1 && (bt156.2.2 == bt167.2)) = true then (if 0 < (y127.length : Int) then ((priority_Check.f k ((rd_T25 y127 0).f0) ((rd_T25 y127 0).f1) ((rd_T25 y127 0).f2.f0) ((rd_T25 y127 0).f2.f1)).bind fun t170 => (if t170 = 0 then ((priority_Check.f k 0 0 0 0).bind fun t171 => (if t171 = 1 then ((priority_Of.f y127).bind fun t172 => (if (t172.length : Int) = 2 then ((priority_Keep.f y127 (([16] : List Int))).bind fun t178 => (some ((t178.length : Int) == 1))) else (none))) else (none))) else (none))) else (none)) else (none))) else (none)) else (none))) else (none)) else (none)) else (none)) else (none)) else (none)) else (none))) else (none)) else (none)) else (none))) else (none)))) = some r := H
  have A9 := Aside0.mk A90
  clear A90
  replace H := Option.bind_eq_some_iff.mp H
  obtain ⟨⟨t154, t155⟩, A100, H⟩ := H
  replace H : ((priority_Active.f t151 t154 t155).bind fun bt156 => (if t132 = 8 then ((plenumlaw13_analog.f 21000).bind fun bt160 => (if (t133 == bt160.1 && (t134 == bt160.2)) = true then (if t141 = 0 then (if t138 = 16 then ((plenumlaw13_analog.f 19000).bind fun bt162 => (if (t139 == bt162.1 && (t140 == bt162.2)) = true then (if t146 = 0 then (if (t143.length : Int) = 2 then (if 0 < (t143.length : Int) then (if ((rd_T25 t143 0).f1) = 2 then (if t149 = 0 then ((plenumlaw13_analog.f 19000).bind fun bt165 => (if (t147 == bt165.1 && (t148 == bt165.2)) = true then (if bt156.1 = 16 then ((plenumlaw13_analog.f 19000).bind fun bt167 => (if (bt156.2.1 == bt167.1 && (bt156.2.2 == bt167.2)) = true then (if 0 < (y127.length : Int) then ((priority_Check.f k ((rd_T25 y127 0).f0) ((rd_T25 y127 0).f1) ((rd_T25 y127 0).f2.f0) ((rd_T25 y127 0).f2.f1)).bind fun t170 => (if t170 = 0 then ((priority_Check.f k 0 0 0 0).bind fun t171 => (if t171 = 1 then ((priority_Of.f y127).bind fun t172 => (if (t172.length : Int) = 2 then ((priority_Keep.f y127 (([16] : List Int))).bind fun t178 => (some ((t178.length : Int) == 1))) else (none))) else (none))) else (none))) else (none)) else (none))) else (none)) else (none))) else (none)) else (none)) else (none)) else (none)) else (none)) else (none))) else (none)) else (none)) else (none))) else (none))) = some r := H
  have A10 := Aside0.mk A100
  clear A100
  replace H := Option.bind_eq_some_iff.mp H
  obtain ⟨⟨t156, t157, t158⟩, A110, H⟩ := H
  replace H : (if t132 = 8 then ((plenumlaw13_analog.f 21000).bind fun bt160 => (if (t133 == bt160.1 && (t134 == bt160.2)) = true then (if t141 = 0 then (if t138 = 16 then ((plenumlaw13_analog.f 19000).bind fun bt162 => (if (t139 == bt162.1 && (t140 == bt162.2)) = true then (if t146 = 0 then (if (t143.length : Int) = 2 then (if 0 < (t143.length : Int) then (if ((rd_T25 t143 0).f1) = 2 then (if t149 = 0 then ((plenumlaw13_analog.f 19000).bind fun bt165 => (if (t147 == bt165.1 && (t148 == bt165.2)) = true then (if t156 = 16 then ((plenumlaw13_analog.f 19000).bind fun bt167 => (if (t157 == bt167.1 && (t158 == bt167.2)) = true then (if 0 < (y127.length : Int) then ((priority_Check.f k ((rd_T25 y127 0).f0) ((rd_T25 y127 0).f1) ((rd_T25 y127 0).f2.f0) ((rd_T25 y127 0).f2.f1)).bind fun t170 => (if t170 = 0 then ((priority_Check.f k 0 0 0 0).bind fun t171 => (if t171 = 1 then ((priority_Of.f y127).bind fun t172 => (if (t172.length : Int) = 2 then ((priority_Keep.f y127 (([16] : List Int))).bind fun t178 => (some ((t178.length : Int) == 1))) else (none))) else (none))) else (none))) else (none)) else (none))) else (none)) else (none))) else (none)) else (none)) else (none)) else (none)) else (none)) else (none))) else (none)) else (none)) else (none))) else (none)) = some r := H
  have A11 := Aside0.mk A110
  clear A110
  by_cases c12 : t132 = 8
  · rw [if_pos c12] at H
    have c12b0 : (t132 == 8) = true := beq_iff_eq.mpr c12
    have c12b1 : (t132 != 8) = false := bne_eq_false_iff_eq.mpr c12
    clear c12
    replace H := Option.bind_eq_some_iff.mp H
    obtain ⟨⟨t160, t161⟩, A130, H⟩ := H
    replace H : (if (t133 == t160 && (t134 == t161)) = true then (if t141 = 0 then (if t138 = 16 then ((plenumlaw13_analog.f 19000).bind fun bt162 => (if (t139 == bt162.1 && (t140 == bt162.2)) = true then (if t146 = 0 then (if (t143.length : Int) = 2 then (if 0 < (t143.length : Int) then (if ((rd_T25 t143 0).f1) = 2 then (if t149 = 0 then ((plenumlaw13_analog.f 19000).bind fun bt165 => (if (t147 == bt165.1 && (t148 == bt165.2)) = true then (if t156 = 16 then ((plenumlaw13_analog.f 19000).bind fun bt167 => (if (t157 == bt167.1 && (t158 == bt167.2)) = true then (if 0 < (y127.length : Int) then ((priority_Check.f k ((rd_T25 y127 0).f0) ((rd_T25 y127 0).f1) ((rd_T25 y127 0).f2.f0) ((rd_T25 y127 0).f2.f1)).bind fun t170 => (if t170 = 0 then ((priority_Check.f k 0 0 0 0).bind fun t171 => (if t171 = 1 then ((priority_Of.f y127).bind fun t172 => (if (t172.length : Int) = 2 then ((priority_Keep.f y127 (([16] : List Int))).bind fun t178 => (some ((t178.length : Int) == 1))) else (none))) else (none))) else (none))) else (none)) else (none))) else (none)) else (none))) else (none)) else (none)) else (none)) else (none)) else (none)) else (none))) else (none)) else (none)) else (none)) = some r := H
    have A13 := Aside0.mk A130
    clear A130
    by_cases c14 : (t133 == t160 && (t134 == t161)) = true
    · rw [if_pos c14] at H
      have c14b0 : (t133 == t160 && (t134 == t161)) = true := c14
      (try (have c14b1 : decide (t133 = t160 && (t134 == t161)) = true := by simpa using c14))
      (try (have c14b2 : (t133 == t160 && (t134 == t161)) = true := by simpa using c14))
      clear c14
      by_cases c15 : t141 = 0
      · rw [if_pos c15] at H
        have c15b0 : (t141 == 0) = true := beq_iff_eq.mpr c15
        have c15b1 : (t141 != 0) = false := bne_eq_false_iff_eq.mpr c15
        clear c15
        by_cases c16 : t138 = 16
        · rw [if_pos c16] at H
          have c16b0 : (t138 == 16) = true := beq_iff_eq.mpr c16
          have c16b1 : (t138 != 16) = false := bne_eq_false_iff_eq.mpr c16
          clear c16
          replace H := Option.bind_eq_some_iff.mp H
          obtain ⟨⟨t162, t163⟩, A170, H⟩ := H
          replace H : (if (t139 == t162 && (t140 == t163)) = true then (if t146 = 0 then (if (t143.length : Int) = 2 then (if 0 < (t143.length : Int) then (if ((rd_T25 t143 0).f1) = 2 then (if t149 = 0 then ((plenumlaw13_analog.f 19000).bind fun bt165 => (if (t147 == bt165.1 && (t148 == bt165.2)) = true then (if t156 = 16 then ((plenumlaw13_analog.f 19000).bind fun bt167 => (if (t157 == bt167.1 && (t158 == bt167.2)) = true then (if 0 < (y127.length : Int) then ((priority_Check.f k ((rd_T25 y127 0).f0) ((rd_T25 y127 0).f1) ((rd_T25 y127 0).f2.f0) ((rd_T25 y127 0).f2.f1)).bind fun t170 => (if t170 = 0 then ((priority_Check.f k 0 0 0 0).bind fun t171 => (if t171 = 1 then ((priority_Of.f y127).bind fun t172 => (if (t172.length : Int) = 2 then ((priority_Keep.f y127 (([16] : List Int))).bind fun t178 => (some ((t178.length : Int) == 1))) else (none))) else (none))) else (none))) else (none)) else (none))) else (none)) else (none))) else (none)) else (none)) else (none)) else (none)) else (none)) else (none)) = some r := H
          have A17 := Aside0.mk A170
          clear A170
          by_cases c18 : (t139 == t162 && (t140 == t163)) = true
          · rw [if_pos c18] at H
            have c18b0 : (t139 == t162 && (t140 == t163)) = true := c18
            (try (have c18b1 : decide (t139 = t162 && (t140 == t163)) = true := by simpa using c18))
            (try (have c18b2 : (t139 == t162 && (t140 == t163)) = true := by simpa using c18))
            clear c18
            by_cases c19 : t146 = 0
            · rw [if_pos c19] at H
              have c19b0 : (t146 == 0) = true := beq_iff_eq.mpr c19
              have c19b1 : (t146 != 0) = false := bne_eq_false_iff_eq.mpr c19
              clear c19
              by_cases c20 : (t143.length : Int) = 2
              · rw [if_pos c20] at H
                have c20b0 : ((t143.length : Int) == 2) = true := beq_iff_eq.mpr c20
                have c20b1 : ((t143.length : Int) != 2) = false := bne_eq_false_iff_eq.mpr c20
                clear c20
                by_cases c21 : 0 < (t143.length : Int)
                · rw [if_pos c21] at H
                  have c21b0 : decide (0 < (t143.length : Int)) = true := decide_eq_true c21
                  have c21b1 : decide (0 < t143.length) = true := decide_eq_true (by omega)
                  clear c21
                  by_cases c22 : ((rd_T25 t143 0).f1) = 2
                  · rw [if_pos c22] at H
                    have c22b0 : (((rd_T25 t143 0).f1) == 2) = true := beq_iff_eq.mpr c22
                    have c22b1 : (((rd_T25 t143 0).f1) != 2) = false := bne_eq_false_iff_eq.mpr c22
                    clear c22
                    by_cases c23 : t149 = 0
                    · rw [if_pos c23] at H
                      have c23b0 : (t149 == 0) = true := beq_iff_eq.mpr c23
                      have c23b1 : (t149 != 0) = false := bne_eq_false_iff_eq.mpr c23
                      clear c23
                      replace H := Option.bind_eq_some_iff.mp H
                      obtain ⟨⟨t165, t166⟩, A240, H⟩ := H
                      replace H : (if (t147 == t165 && (t148 == t166)) = true then (if t156 = 16 then ((plenumlaw13_analog.f 19000).bind fun bt167 => (if (t157 == bt167.1 && (t158 == bt167.2)) = true then (if 0 < (y127.length : Int) then ((priority_Check.f k ((rd_T25 y127 0).f0) ((rd_T25 y127 0).f1) ((rd_T25 y127 0).f2.f0) ((rd_T25 y127 0).f2.f1)).bind fun t170 => (if t170 = 0 then ((priority_Check.f k 0 0 0 0).bind fun t171 => (if t171 = 1 then ((priority_Of.f y127).bind fun t172 => (if (t172.length : Int) = 2 then ((priority_Keep.f y127 (([16] : List Int))).bind fun t178 => (some ((t178.length : Int) == 1))) else (none))) else (none))) else (none))) else (none)) else (none))) else (none)) else (none)) = some r := H
                      have A24 := Aside0.mk A240
                      clear A240
                      by_cases c25 : (t147 == t165 && (t148 == t166)) = true
                      · rw [if_pos c25] at H
                        have c25b0 : (t147 == t165 && (t148 == t166)) = true := c25
                        (try (have c25b1 : decide (t147 = t165 && (t148 == t166)) = true := by simpa using c25))
                        (try (have c25b2 : (t147 == t165 && (t148 == t166)) = true := by simpa using c25))
                        clear c25
                        by_cases c26 : t156 = 16
                        · rw [if_pos c26] at H
                          have c26b0 : (t156 == 16) = true := beq_iff_eq.mpr c26
                          have c26b1 : (t156 != 16) = false := bne_eq_false_iff_eq.mpr c26
                          clear c26
                          replace H := Option.bind_eq_some_iff.mp H
                          obtain ⟨⟨t167, t168⟩, A270, H⟩ := H
                          replace H : (if (t157 == t167 && (t158 == t168)) = true then (if 0 < (y127.length : Int) then ((priority_Check.f k ((rd_T25 y127 0).f0) ((rd_T25 y127 0).f1) ((rd_T25 y127 0).f2.f0) ((rd_T25 y127 0).f2.f1)).bind fun t170 => (if t170 = 0 then ((priority_Check.f k 0 0 0 0).bind fun t171 => (if t171 = 1 then ((priority_Of.f y127).bind fun t172 => (if (t172.length : Int) = 2 then ((priority_Keep.f y127 (([16] : List Int))).bind fun t178 => (some ((t178.length : Int) == 1))) else (none))) else (none))) else (none))) else (none)) else (none)) = some r := H
                          have A27 := Aside0.mk A270
                          clear A270
                          by_cases c28 : (t157 == t167 && (t158 == t168)) = true
                          · rw [if_pos c28] at H
                            have c28b0 : (t157 == t167 && (t158 == t168)) = true := c28
                            (try (have c28b1 : decide (t157 = t167 && (t158 == t168)) = true := by simpa using c28))
                            (try (have c28b2 : (t157 == t167 && (t158 == t168)) = true := by simpa using c28))
                            clear c28
                            by_cases c29 : 0 < (y127.length : Int)
                            · rw [if_pos c29] at H
                              have c29b0 : decide (0 < (y127.length : Int)) = true := decide_eq_true c29
                              have c29b1 : decide (0 < y127.length) = true := decide_eq_true (by omega)
                              clear c29
                              replace H := Option.bind_eq_some_iff.mp H
                              obtain ⟨t170, A300, H⟩ := H
                              replace H : (if t170 = 0 then ((priority_Check.f k 0 0 0 0).bind fun t171 => (if t171 = 1 then ((priority_Of.f y127).bind fun t172 => (if (t172.length : Int) = 2 then ((priority_Keep.f y127 (([16] : List Int))).bind fun t178 => (some ((t178.length : Int) == 1))) else (none))) else (none))) else (none)) = some r := H
                              have A30 := Aside0.mk A300
                              clear A300
                              by_cases c31 : t170 = 0
                              · rw [if_pos c31] at H
                                have c31b0 : (t170 == 0) = true := beq_iff_eq.mpr c31
                                have c31b1 : (t170 != 0) = false := bne_eq_false_iff_eq.mpr c31
                                clear c31
                                replace H := Option.bind_eq_some_iff.mp H
                                obtain ⟨t171, A320, H⟩ := H
                                replace H : (if t171 = 1 then ((priority_Of.f y127).bind fun t172 => (if (t172.length : Int) = 2 then ((priority_Keep.f y127 (([16] : List Int))).bind fun t178 => (some ((t178.length : Int) == 1))) else (none))) else (none)) = some r := H
                                have A32 := Aside0.mk A320
                                clear A320
                                by_cases c33 : t171 = 1
                                · rw [if_pos c33] at H
                                  have c33b0 : (t171 == 1) = true := beq_iff_eq.mpr c33
                                  have c33b1 : (t171 != 1) = false := bne_eq_false_iff_eq.mpr c33
                                  clear c33
                                  replace H := Option.bind_eq_some_iff.mp H
                                  obtain ⟨t172, A340, H⟩ := H
                                  replace H : (if (t172.length : Int) = 2 then ((priority_Keep.f y127 (([16] : List Int))).bind fun t178 => (some ((t178.length : Int) == 1))) else (none)) = some r := H
                                  have A34 := Aside0.mk A340
                                  clear A340
                                  by_cases c35 : (t172.length : Int) = 2
                                  · rw [if_pos c35] at H
                                    have c35b0 : ((t172.length : Int) == 2) = true := beq_iff_eq.mpr c35
                                    have c35b1 : ((t172.length : Int) != 2) = false := bne_eq_false_iff_eq.mpr c35
                                    clear c35
                                    obtain ⟨y175, hy175⟩ : ∃ y_ : List Int, y_ = (([16] : List Int)) := ⟨_, rfl⟩
                                    replace H : ((priority_Keep.f y127 y175).bind fun t178 => (some ((t178.length : Int) == 1))) = some r := by first | (rw [hy175]; with_reducible exact H) | (have H2_ := (Option.bind_some _ _).symm.trans H; rw [hy175]; with_reducible exact H2_) | (have H2_ := (Option.bind_some _ _).symm.trans H; with_reducible exact H2_) | with_reducible exact H | (rw [hy175]; exact H) | exact H
                                    have Ny175 := Aside0.mk hy175
                                    clear hy175
                                    replace H := Option.bind_eq_some_iff.mp H
                                    obtain ⟨t178, A360, H⟩ := H
                                    replace H : (some ((t178.length : Int) == 1)) = some r := H
                                    have A36 := Aside0.mk A360
                                    clear A360
                                    obtain rfl := Option.some.inj H
                                    go_enter Try.func10, Try.ntmps10
                                    try go_wp2_with (first | ((with_reducible refine gate_callee (f := 29) rfl ?_); refine goesL_ (some 13) rfl rfl Try.func29 (by kernel_rfl) rfl #[.int .i64 19000] rfl (by (try simp only [List.map_toArray, List.map_cons, List.map_nil]); first | done | rfl | (simp only [List.length_drop, List.length_take]; rfl)) ?_; (with_reducible refine (plenumlaw13_analog.calls 19000 t123 t124 _ A1.out).mono ?_); rintro e w37 ⟨rfl, hb⟩; refine ⟨_, rfl, ?_⟩; have n0_ := Aside0.mk (below_step (by repeat (first | (with_reducible first | exact HB.out | apply below_alloc | apply pw_below_drewN | apply below_drew1) | exact HB.out)) hb); clear HB; have HB := n0_; clear n0_; (try clear hb); (try clear hb2); (try clear hk); (try clear hi)) | ((with_reducible refine gate_callee (f := 29) rfl ?_); refine goesL_ (some 15) rfl rfl Try.func29 (by kernel_rfl) rfl #[.int .i64 21000] rfl (by (try simp only [List.map_toArray, List.map_cons, List.map_nil]); first | done | rfl | (simp only [List.length_drop, List.length_take]; rfl)) ?_; (with_reducible refine (plenumlaw13_analog.calls 21000 t125 t126 _ A2.out).mono ?_); rintro e w38 ⟨rfl, hb⟩; refine ⟨_, rfl, ?_⟩; have n0_ := Aside0.mk (below_step (by repeat (first | (with_reducible first | exact HB.out | apply below_alloc | apply pw_below_drewN | apply below_drew1) | exact HB.out)) hb); clear HB; have HB := n0_; clear n0_; (try clear hb); (try clear hb2); (try clear hk); (try clear hi)) | ((with_reducible refine gate_dst (N := 17) rfl ?_); (try (refine gate_guard (by rfl) ?_; dsimp only)); refine Kd.R_lit k25 _ 25 ?hg (N := 17) ?hd (xs := ([(⟨16, 1, (⟨t123, t124⟩ : S23)⟩ : S25), (⟨8, 1, (⟨t125, t126⟩ : S23)⟩ : S25)] : List (S25))) (inner := [.int .i64 16, .int .i64 1, .int .i64 t123, .int .i64 t124, .int .i64 8, .int .i64 1, .int .i64 t125, .int .i64 t126]) (ok := fun _ => True) (okp := fun _ => True) ?hr ?hp (fun _ hk => hk) trivial (Below.refl _ _) (Nat.le_refl _) (by simp) ?_; (case hd => rfl); (case hg => rfl); (case hr => first | (go_simp; done) | (go_simp; rfl)); (case hp => exact (Reps.c4 (show Kd.M k25 _ _ _ (⟨16, 1, (⟨t123, t124⟩ : S23)⟩ : S25) [.int .i64 16, .int .i64 1, .int .i64 t123, .int .i64 t124] from (k25_mkM _ _ _ (⟨16, 1, (⟨t123, t124⟩ : S23)⟩ : S25) )) (Reps.c4 (show Kd.M k25 _ _ _ (⟨8, 1, (⟨t125, t126⟩ : S23)⟩ : S25) [.int .i64 8, .int .i64 1, .int .i64 t125, .int .i64 t126] from (k25_mkM _ _ _ (⟨8, 1, (⟨t125, t126⟩ : S23)⟩ : S25) )) (Reps.none _ _)))); intro v128 w39 ho40 hb hg_ hnew_; clear hg_ hnew_; (first | rw [← Ny127.out] at ho40 | (simp only [Int.reduceToNat] at ho40; rw [← Ny127.out] at ho40)); have n0_ := Aside0.mk (Kd.R_lower ho40 (below_size (by repeat (first | (with_reducible first | exact HB.out | apply below_alloc | apply pw_below_drewN | apply below_drew1) | exact HB.out)))); have n1_ := Aside0.mk (below_step (by repeat (first | (with_reducible first | exact HB.out | apply below_alloc | apply pw_below_drewN | apply below_drew1) | exact HB.out)) hb); clear HB; have HO129 := n0_; have HB := n1_; clear n0_ n1_; clear hb ho40) | ((with_reducible refine gate_callee (f := 29) rfl ?_); refine goesL_ (some 20) rfl rfl Try.func29 (by kernel_rfl) rfl #[.int .i64 20000] rfl (by (try simp only [List.map_toArray, List.map_cons, List.map_nil]); first | done | rfl | (simp only [List.length_drop, List.length_take]; rfl)) ?_; (with_reducible refine (plenumlaw13_analog.calls 20000 t130 t131 _ A3.out).mono ?_); rintro e w41 ⟨rfl, hb⟩; refine ⟨_, rfl, ?_⟩; have n0_ := Aside0.mk (Kd.R_below (by (with_reducible repeat (first | apply Kd.R_alloc | apply Kd.R_drewN | apply Kd.R_drew)); exact HO129.out) hb); have n1_ := Aside0.mk (below_step (by repeat (first | (with_reducible first | exact HB.out | apply below_alloc | apply pw_below_drewN | apply below_drew1) | exact HB.out)) hb); clear HO129; clear HB; have HO129 := n0_; have HB := n1_; clear n0_ n1_; (try clear hb); (try clear hb2); (try clear hk); (try clear hi); obtain ⟨Ao42, co42, eo42⟩ := Kd.R_slice HO129.out; subst eo42) | ((with_reducible refine gate_callee (f := 21) rfl ?_); refine goesL_ (some 21) rfl rfl Try.func21 (by kernel_rfl) rfl #[.slice Ao42 y127.length co42, .agg #[.int .i64 t130, .int .i64 t131]] rfl (by (try simp only [List.map_toArray, List.map_cons, List.map_nil]); first | done | rfl | (simp only [List.length_drop, List.length_take]; rfl)) ?_; (with_reducible refine (priority_Active.calls _ _ y127 t130 t131 t132 t133 t134 _ ?side1 ?side2 A4.out).mono ?_); (case side1 => repeat (first | exact (Kd.R_reads' HO129.out).2.2 | (with_reducible refine Kd.C_alloc ?_ _) | (with_reducible refine Kd.C_drewN ?_ _) | (with_reducible refine Kd.C_drew ?_))); (case side2 => exact (Kd.R_reads' HO129.out).2.1); rintro e w43 ⟨rfl, hb⟩; refine ⟨_, rfl, ?_⟩; have n0_ := Aside0.mk (Kd.R_below (by (with_reducible repeat (first | apply Kd.R_alloc | apply Kd.R_drewN | apply Kd.R_drew)); exact HO129.out) hb); have n1_ := Aside0.mk (below_step (by repeat (first | (with_reducible first | exact HB.out | apply below_alloc | apply pw_below_drewN | apply below_drew1) | exact HB.out)) hb); clear HO129; clear HB; have HO129 := n0_; have HB := n1_; clear n0_ n1_; (try clear hb); (try clear hb2); (try clear hk); (try clear hi)) | ((with_reducible refine gate_dst (N := 3) rfl ?_); (try (refine gate_guard (by rfl) ?_; dsimp only)); refine box_event ?hg (N := 3) ?hd (cs := #[.int .i64 0, .int .i64 0]) (t := 23) ?hr ?_; (case hd => rfl); (case hg => rfl); (case hr => first | (go_simp; done) | (go_simp; rfl)); intro gb135 hg w44 hbox hb; have n0_ := Aside0.mk (Kd.R_below (by (with_reducible repeat (first | apply Kd.R_alloc | apply Kd.R_drewN | apply Kd.R_drew)); exact HO129.out) hb); have n1_ := Aside0.mk (below_step (by repeat (first | (with_reducible first | exact HB.out | apply below_alloc | apply pw_below_drewN | apply below_drew1) | exact HB.out)) hb); have n2_ := Aside0.mk (hbox); have n3_ := Aside0.mk ((by rw [hg]; exact (below_size (by repeat (first | (with_reducible first | exact HB.out | apply below_alloc | apply pw_below_drewN | apply below_drew1) | exact HB.out))) : w.heap.size ≤ gb135)); have n4_ := Aside0.mk ((by rw [hg]; exact (below_size (by repeat (first | (with_reducible first | exact HB.out | apply below_alloc | apply pw_below_drewN | apply below_drew1) | exact HB.out))) : w.heap.size ≤ gb135)); clear HO129; clear HB; have HO129 := n0_; have HB := n1_; have BK135 := n2_; have GW135 := n3_; have GE135 := n4_; clear n0_ n1_ n2_ n3_ n4_; clear hb hbox hg; have hcz45_0 : w44.cell? ⟨gb135, 0, none⟩ = some (.int .i64 0) := (blk_cell BK135.out 0).trans rfl; have hcz45_1 : w44.cell? ⟨gb135, 1, none⟩ = some (.int .i64 0) := (blk_cell BK135.out 1).trans rfl; have hfz45_0 := blk_frozen BK135.out 0; have hfz45_1 := blk_frozen BK135.out 1) | ((with_reducible refine gate_callee (f := 29) rfl ?_); refine goesL_ (some 26) rfl rfl Try.func29 (by kernel_rfl) rfl #[.int .i64 20000] rfl (by (try simp only [List.map_toArray, List.map_cons, List.map_nil]); first | done | rfl | (simp only [List.length_drop, List.length_take]; rfl)) ?_; (with_reducible refine (plenumlaw13_analog.calls 20000 t136 t137 _ A5.out).mono ?_); rintro e w46 ⟨rfl, hb⟩; refine ⟨_, rfl, ?_⟩; have n0_ := Aside0.mk (Kd.R_below (by (with_reducible repeat (first | apply Kd.R_alloc | apply Kd.R_drewN | apply Kd.R_drew)); exact (Kd.R_mono (Kd.R_far (p := ⟨gb135, 1, none⟩) (Kd.R_far (p := ⟨gb135, 0, none⟩) (Kd.R_types HO129.out BK135.out (by decide)) (fun _ hk => hk.2) (.int .i64 t133)) (fun _ hk => hk.2) (.int .i64 t134)) (fun _ h_ => h_.1))) hb); have n1_ := Aside0.mk (blk_below (g := gb135) (o := .cells #[.int .i64 t133, .int .i64 t134] 23 (0, 0)) (by (with_reducible repeat (first | refine blk_drewN ?_ _ | refine blk_drew ?_ | refine blk_alloc ?_ _)); refine blk_put (cs := #[.int .i64 t133, .int .i64 0]) ?_ 1 _ rfl; (with_reducible repeat (first | refine blk_drewN ?_ _ | refine blk_drew ?_ | refine blk_alloc ?_ _)); refine blk_put (cs := #[.int .i64 0, .int .i64 0]) ?_ 0 _ rfl; (with_reducible repeat (first | refine blk_drewN ?_ _ | refine blk_drew ?_ | refine blk_alloc ?_ _)); exact BK135.out) hb); have n2_ := Aside0.mk (below_step (by repeat (first | (with_reducible first | exact HB.out | apply below_alloc | apply pw_below_drewN | apply below_drew1 | refine below_set ?_ GE135.out) | exact HB.out)) hb); clear HO129; clear BK135; clear HB; have HO129 := n0_; have BK135 := n1_; have HB := n2_; clear n0_ n1_ n2_; (try clear hb); (try clear hb2); (try clear hk); (try clear hi)) | ((with_reducible refine gate_callee (f := 25) rfl ?_); refine goesL_ (some 27) rfl rfl Try.func25 (by kernel_rfl) rfl #[.slice Ao42 y127.length co42, .int .i64 8, .agg #[.int .i64 t136, .int .i64 t137]] rfl (by (try simp only [List.map_toArray, List.map_cons, List.map_nil]); first | done | rfl | (simp only [List.length_drop, List.length_take]; rfl)) ?_; (with_reducible refine (priority_Under.calls _ _ y127 8 t136 t137 t138 t139 t140 t141 _ ?side1 ?side2 A6.out).mono ?_); (case side1 => repeat (first | exact (Kd.R_reads' HO129.out).2.2 | (with_reducible refine Kd.C_alloc ?_ _) | (with_reducible refine Kd.C_drewN ?_ _) | (with_reducible refine Kd.C_drew ?_))); (case side2 => exact (Kd.R_reads' HO129.out).2.1); rintro e w47 ⟨rfl, hb⟩; refine ⟨_, rfl, ?_⟩; have n0_ := Aside0.mk (Kd.R_below (by (with_reducible repeat (first | apply Kd.R_alloc | apply Kd.R_drewN | apply Kd.R_drew)); exact HO129.out) hb); have n1_ := Aside0.mk (blk_below (g := gb135) (o := .cells #[.int .i64 t133, .int .i64 t134] 23 (0, 0)) (by (with_reducible repeat (first | refine blk_drewN ?_ _ | refine blk_drew ?_ | refine blk_alloc ?_ _)); exact BK135.out) hb); have n2_ := Aside0.mk (below_step (by repeat (first | (with_reducible first | exact HB.out | apply below_alloc | apply pw_below_drewN | apply below_drew1 | refine below_set ?_ GE135.out) | exact HB.out)) hb); clear HO129; clear BK135; clear HB; have HO129 := n0_; have BK135 := n1_; have HB := n2_; clear n0_ n1_ n2_; (try clear hb); (try clear hb2); (try clear hk); (try clear hi)) | ((with_reducible refine gate_dst (N := 5) rfl ?_); (try (refine gate_guard (by rfl) ?_; dsimp only)); refine box_event ?hg (N := 5) ?hd (cs := #[.int .i64 0, .int .i64 0]) (t := 23) ?hr ?_; (case hd => rfl); (case hg => rfl); (case hr => first | (go_simp; done) | (go_simp; rfl)); intro gb142 hg w48 hbox hb; have n0_ := Aside0.mk (Kd.R_below (by (with_reducible repeat (first | apply Kd.R_alloc | apply Kd.R_drewN | apply Kd.R_drew)); exact HO129.out) hb); have n1_ := Aside0.mk (blk_below (g := gb135) (o := .cells #[.int .i64 t133, .int .i64 t134] 23 (0, 0)) (by (with_reducible repeat (first | refine blk_drewN ?_ _ | refine blk_drew ?_ | refine blk_alloc ?_ _)); exact BK135.out) hb); have n2_ := Aside0.mk (below_step (by repeat (first | (with_reducible first | exact HB.out | apply below_alloc | apply pw_below_drewN | apply below_drew1 | refine below_set ?_ GE135.out) | exact HB.out)) hb); have n3_ := Aside0.mk (hbox); have n4_ := Aside0.mk ((by rw [hg]; exact (below_size (by repeat (first | (with_reducible first | exact HB.out | apply below_alloc | apply pw_below_drewN | apply below_drew1 | refine below_set ?_ GE135.out) | exact HB.out))) : w.heap.size ≤ gb142)); have n5_ := Aside0.mk ((by rw [hg]; exact (below_size (by repeat (first | (with_reducible first | exact HB.out | apply below_alloc | apply pw_below_drewN | apply below_drew1 | refine below_set ?_ GE135.out) | exact HB.out))) : w.heap.size ≤ gb142)); have n6_ := Aside0.mk ((by rw [hg]; exact Nat.ne_of_lt (blk_lt (g := gb135) (o := .cells #[.int .i64 t133, .int .i64 t134] 23 (0, 0)) (by (with_reducible repeat (first | refine blk_drewN ?_ _ | refine blk_drew ?_ | refine blk_alloc ?_ _)); exact BK135.out)) : gb135 ≠ gb142)); have n7_ := Aside0.mk ((by rw [hg]; exact Nat.ne_of_gt (blk_lt (g := gb135) (o := .cells #[.int .i64 t133, .int .i64 t134] 23 (0, 0)) (by (with_reducible repeat (first | refine blk_drewN ?_ _ | refine blk_drew ?_ | refine blk_alloc ?_ _)); exact BK135.out)) : gb142 ≠ gb135)); clear HO129; clear BK135; clear HB; have HO129 := n0_; have BK135 := n1_; have HB := n2_; have BK142 := n3_; have GW142 := n4_; have GE142 := n5_; have NB135_142 := n6_; have NB142_135 := n7_; clear n0_ n1_ n2_ n3_ n4_ n5_ n6_ n7_; clear hb hbox hg; have hnb49 := NB142_135.out; have hnc49 := NB135_142.out; have hcz50_0 : w48.cell? ⟨gb142, 0, none⟩ = some (.int .i64 0) := (blk_cell BK142.out 0).trans rfl; have hcz50_1 : w48.cell? ⟨gb142, 1, none⟩ = some (.int .i64 0) := (blk_cell BK142.out 1).trans rfl; have hfz50_0 := blk_frozen BK142.out 0; have hfz50_1 := blk_frozen BK142.out 1) | ((with_reducible refine gate_callee (f := 27) rfl ?_); refine goesL_ (some 34) rfl rfl Try.func27 (by kernel_rfl) rfl #[.slice Ao42 y127.length co42, .int .i64 8, .agg #[.int .i64 0, .int .i64 0]] rfl (by (try simp only [List.map_toArray, List.map_cons, List.map_nil]); first | done | rfl | (simp only [List.length_drop, List.length_take]; rfl)) ?_; (with_reducible refine (priority_Put.calls _ _ y127 8 0 0 t143 t146 _ ?side1 ?side2 A7.out).mono ?_); (case side1 => refine (Kd.R_reads' (e := 25) (base := w.heap.size) (ok := fun k_ => True) (n := y127.length) (c := co42) ?_).2.2; exact (by (with_reducible repeat (first | apply Kd.R_alloc | apply Kd.R_drewN | apply Kd.R_drew)); exact (Kd.R_mono (Kd.R_far (p := ⟨gb142, 1, none⟩) (Kd.R_far (p := ⟨gb142, 0, none⟩) (Kd.R_types HO129.out BK142.out (by decide)) (fun _ hk => hk.2) (.int .i64 t139)) (fun _ hk => hk.2) (.int .i64 t140)) (fun _ h_ => h_.1)))); (case side2 => exact (Kd.R_reads' HO129.out).2.1); rintro e w51 ⟨v144, rfl, ho0, hb⟩; refine ⟨_, rfl, ?_⟩; have n0_ := Aside0.mk (Kd.R_elder' (by (with_reducible repeat (first | apply Kd.R_alloc | apply Kd.R_drewN | apply Kd.R_drew)); exact (Kd.R_mono (Kd.R_far (p := ⟨gb142, 1, none⟩) (Kd.R_far (p := ⟨gb142, 0, none⟩) (Kd.R_types HO129.out BK142.out (by decide)) (fun _ hk => hk.2) (.int .i64 t139)) (fun _ hk => hk.2) (.int .i64 t140)) (fun _ h_ => h_.1))) (Kd.R_base ho0) hb); have n1_ := Aside0.mk (Kd.R_lower (Kd.R_new' ho0 (Kd.R_lt (by (with_reducible repeat (first | apply Kd.R_alloc | apply Kd.R_drewN | apply Kd.R_drew)); exact (Kd.R_mono (Kd.R_far (p := ⟨gb142, 1, none⟩) (Kd.R_far (p := ⟨gb142, 0, none⟩) (Kd.R_types HO129.out BK142.out (by decide)) (fun _ hk => hk.2) (.int .i64 t139)) (fun _ hk => hk.2) (.int .i64 t140)) (fun _ h_ => h_.1))))) (below_size (by repeat (first | (with_reducible first | exact HB.out | apply below_alloc | apply pw_below_drewN | apply below_drew1 | refine below_set ?_ GE135.out | refine below_set ?_ GE142.out) | exact HB.out)))); have n2_ := Aside0.mk (blk_below (g := gb135) (o := .cells #[.int .i64 t133, .int .i64 t134] 23 (0, 0)) (by (with_reducible repeat (first | refine blk_drewN ?_ _ | refine blk_drew ?_ | refine blk_alloc ?_ _)); refine blk_far ?_ NB135_142.out _; (with_reducible repeat (first | refine blk_drewN ?_ _ | refine blk_drew ?_ | refine blk_alloc ?_ _)); refine blk_far ?_ NB135_142.out _; (with_reducible repeat (first | refine blk_drewN ?_ _ | refine blk_drew ?_ | refine blk_alloc ?_ _)); exact BK135.out) hb); have n3_ := Aside0.mk (blk_below (g := gb142) (o := .cells #[.int .i64 t139, .int .i64 t140] 23 (0, 0)) (by (with_reducible repeat (first | refine blk_drewN ?_ _ | refine blk_drew ?_ | refine blk_alloc ?_ _)); refine blk_put (cs := #[.int .i64 t139, .int .i64 0]) ?_ 1 _ rfl; (with_reducible repeat (first | refine blk_drewN ?_ _ | refine blk_drew ?_ | refine blk_alloc ?_ _)); refine blk_put (cs := #[.int .i64 0, .int .i64 0]) ?_ 0 _ rfl; (with_reducible repeat (first | refine blk_drewN ?_ _ | refine blk_drew ?_ | refine blk_alloc ?_ _)); exact BK142.out) hb); have n4_ := Aside0.mk (below_step (by repeat (first | (with_reducible first | exact HB.out | apply below_alloc | apply pw_below_drewN | apply below_drew1 | refine below_set ?_ GE135.out | refine below_set ?_ GE142.out) | exact HB.out)) hb); clear HO129; clear BK135; clear BK142; clear HB; have HO129 := n0_; have HO145 := n1_; have BK135 := n2_; have BK142 := n3_; have HB := n4_; clear n0_ n1_ n2_ n3_ n4_; (try clear hb); (try clear hb2); (try clear hk); (try clear hi); (try clear ho0); obtain ⟨Ao52, co52, eo52⟩ := Kd.R_slice HO145.out; subst eo52) | ((with_reducible refine gate_callee (f := 23) rfl ?_); refine goesL_ (some 39) rfl rfl Try.func23 (by kernel_rfl) rfl #[.slice Ao52 t143.length co52, .int .i64 16] rfl (by (try simp only [List.map_toArray, List.map_cons, List.map_nil]); first | done | rfl | (simp only [List.length_drop, List.length_take]; rfl)) ?_; (with_reducible refine (priority_Slot.calls _ _ t143 16 t147 t148 t149 _ ?side1 ?side2 A8.out).mono ?_); (case side1 => repeat (first | exact (Kd.R_reads' HO145.out).2.2 | (with_reducible refine Kd.C_alloc ?_ _) | (with_reducible refine Kd.C_drewN ?_ _) | (with_reducible refine Kd.C_drew ?_))); (case side2 => exact (Kd.R_reads' HO145.out).2.1); rintro e w53 ⟨rfl, hb⟩; refine ⟨_, rfl, ?_⟩; have n0_ := Aside0.mk (Kd.R_below (by (with_reducible repeat (first | apply Kd.R_alloc | apply Kd.R_drewN | apply Kd.R_drew)); exact HO129.out) hb); have n1_ := Aside0.mk (Kd.R_below (by (with_reducible repeat (first | apply Kd.R_alloc | apply Kd.R_drewN | apply Kd.R_drew)); exact HO145.out) hb); have n2_ := Aside0.mk (blk_below (g := gb135) (o := .cells #[.int .i64 t133, .int .i64 t134] 23 (0, 0)) (by (with_reducible repeat (first | refine blk_drewN ?_ _ | refine blk_drew ?_ | refine blk_alloc ?_ _)); exact BK135.out) hb); have n3_ := Aside0.mk (blk_below (g := gb142) (o := .cells #[.int .i64 t139, .int .i64 t140] 23 (0, 0)) (by (with_reducible repeat (first | refine blk_drewN ?_ _ | refine blk_drew ?_ | refine blk_alloc ?_ _)); exact BK142.out) hb); have n4_ := Aside0.mk (below_step (by repeat (first | (with_reducible first | exact HB.out | apply below_alloc | apply pw_below_drewN | apply below_drew1 | refine below_set ?_ GE135.out | refine below_set ?_ GE142.out) | exact HB.out)) hb); clear HO129; clear HO145; clear BK135; clear BK142; clear HB; have HO129 := n0_; have HO145 := n1_; have BK135 := n2_; have BK142 := n3_; have HB := n4_; clear n0_ n1_ n2_ n3_ n4_; (try clear hb); (try clear hb2); (try clear hk); (try clear hi)) | ((with_reducible refine gate_dst (N := 9) rfl ?_); (try (refine gate_guard (by rfl) ?_; dsimp only)); refine box_event ?hg (N := 9) ?hd (cs := #[.int .i64 0, .int .i64 0]) (t := 23) ?hr ?_; (case hd => rfl); (case hg => rfl); (case hr => first | (go_simp; done) | (go_simp; rfl)); intro gb150 hg w54 hbox hb; have n0_ := Aside0.mk (Kd.R_below (by (with_reducible repeat (first | apply Kd.R_alloc | apply Kd.R_drewN | apply Kd.R_drew)); exact HO129.out) hb); have n1_ := Aside0.mk (Kd.R_below (by (with_reducible repeat (first | apply Kd.R_alloc | apply Kd.R_drewN | apply Kd.R_drew)); exact HO145.out) hb); have n2_ := Aside0.mk (blk_below (g := gb135) (o := .cells #[.int .i64 t133, .int .i64 t134] 23 (0, 0)) (by (with_reducible repeat (first | refine blk_drewN ?_ _ | refine blk_drew ?_ | refine blk_alloc ?_ _)); exact BK135.out) hb); have n3_ := Aside0.mk (blk_below (g := gb142) (o := .cells #[.int .i64 t139, .int .i64 t140] 23 (0, 0)) (by (with_reducible repeat (first | refine blk_drewN ?_ _ | refine blk_drew ?_ | refine blk_alloc ?_ _)); exact BK142.out) hb); have n4_ := Aside0.mk (below_step (by repeat (first | (with_reducible first | exact HB.out | apply below_alloc | apply pw_below_drewN | apply below_drew1 | refine below_set ?_ GE135.out | refine below_set ?_ GE142.out) | exact HB.out)) hb); have n5_ := Aside0.mk (hbox); have n6_ := Aside0.mk ((by rw [hg]; exact (below_size (by repeat (first | (with_reducible first | exact HB.out | apply below_alloc | apply pw_below_drewN | apply below_drew1 | refine below_set ?_ GE135.out | refine below_set ?_ GE142.out) | exact HB.out))) : w.heap.size ≤ gb150)); have n7_ := Aside0.mk ((by rw [hg]; exact (below_size (by repeat (first | (with_reducible first | exact HB.out | apply below_alloc | apply pw_below_drewN | apply below_drew1 | refine below_set ?_ GE135.out | refine below_set ?_ GE142.out) | exact HB.out))) : w.heap.size ≤ gb150)); have n8_ := Aside0.mk ((by rw [hg]; exact Nat.ne_of_lt (blk_lt (g := gb135) (o := .cells #[.int .i64 t133, .int .i64 t134] 23 (0, 0)) (by (with_reducible repeat (first | refine blk_drewN ?_ _ | refine blk_drew ?_ | refine blk_alloc ?_ _)); exact BK135.out)) : gb135 ≠ gb150)); have n9_ := Aside0.mk ((by rw [hg]; exact Nat.ne_of_gt (blk_lt (g := gb135) (o := .cells #[.int .i64 t133, .int .i64 t134] 23 (0, 0)) (by (with_reducible repeat (first | refine blk_drewN ?_ _ | refine blk_drew ?_ | refine blk_alloc ?_ _)); exact BK135.out)) : gb150 ≠ gb135)); have n10_ := Aside0.mk ((by rw [hg]; exact Nat.ne_of_lt (blk_lt (g := gb142) (o := .cells #[.int .i64 t139, .int .i64 t140] 23 (0, 0)) (by (with_reducible repeat (first | refine blk_drewN ?_ _ | refine blk_drew ?_ | refine blk_alloc ?_ _)); exact BK142.out)) : gb142 ≠ gb150)); have n11_ := Aside0.mk ((by rw [hg]; exact Nat.ne_of_gt (blk_lt (g := gb142) (o := .cells #[.int .i64 t139, .int .i64 t140] 23 (0, 0)) (by (with_reducible repeat (first | refine blk_drewN ?_ _ | refine blk_drew ?_ | refine blk_alloc ?_ _)); exact BK142.out)) : gb150 ≠ gb142)); clear HO129; clear HO145; clear BK135; clear BK142; clear HB; have HO129 := n0_; have HO145 := n1_; have BK135 := n2_; have BK142 := n3_; have HB := n4_; have BK150 := n5_; have GW150 := n6_; have GE150 := n7_; have NB135_150 := n8_; have NB150_135 := n9_; have NB142_150 := n10_; have NB150_142 := n11_; clear n0_ n1_ n2_ n3_ n4_ n5_ n6_ n7_ n8_ n9_ n10_ n11_; clear hb hbox hg; have hnb55 := NB150_135.out; have hnc55 := NB135_150.out; have hnb56 := NB150_142.out; have hnc56 := NB142_150.out; have hcz57_0 : w54.cell? ⟨gb150, 0, none⟩ = some (.int .i64 0) := (blk_cell BK150.out 0).trans rfl; have hcz57_1 : w54.cell? ⟨gb150, 1, none⟩ = some (.int .i64 0) := (blk_cell BK150.out 1).trans rfl; have hfz57_0 := blk_frozen BK150.out 0; have hfz57_1 := blk_frozen BK150.out 1) | ((with_reducible refine gate_callee (f := 17) rfl ?_); refine goesL_ (some 45) rfl rfl Try.func17 (by kernel_rfl) rfl #[.slice Ao52 t143.length co52, .slice Ao42 y127.length co42] rfl (by (try simp only [List.map_toArray, List.map_cons, List.map_nil]); first | done | rfl | (simp only [List.length_drop, List.length_take]; rfl)) ?_; (with_reducible refine (priority_Join.calls _ _ t143 _ _ y127 t151 _ ?side1 ?side2 ?side3 ?side4 A9.out).mono ?_); (case side1 => refine (Kd.R_reads' (e := 25) (base := w.heap.size) (ok := fun k_ => (True ∧ some k_ ≠ (.slice Ao42 y127.length co42 : Value).ownBlock)) (n := t143.length) (c := co52) ?_).2.2; exact (by (with_reducible repeat (first | apply Kd.R_alloc | apply Kd.R_drewN | apply Kd.R_drew)); exact (Kd.R_mono (Kd.R_far (p := ⟨gb150, 1, none⟩) (Kd.R_far (p := ⟨gb150, 0, none⟩) (Kd.R_types HO145.out BK150.out (by decide)) (fun _ hk => hk.2) (.int .i64 t147)) (fun _ hk => hk.2) (.int .i64 t148)) (fun _ h_ => h_.1)))); (case side2 => exact (Kd.R_reads' HO145.out).2.1); (case side3 => refine (Kd.R_reads' (e := 25) (base := w.heap.size) (ok := fun k_ => (True ∧ some k_ ≠ (.slice Ao52 t143.length co52 : Value).ownBlock)) (n := y127.length) (c := co42) ?_).2.2; exact (by (with_reducible repeat (first | apply Kd.R_alloc | apply Kd.R_drewN | apply Kd.R_drew)); exact (Kd.R_mono (Kd.R_far (p := ⟨gb150, 1, none⟩) (Kd.R_far (p := ⟨gb150, 0, none⟩) (Kd.R_types HO129.out BK150.out (by decide)) (fun _ hk => hk.2) (.int .i64 t147)) (fun _ hk => hk.2) (.int .i64 t148)) (fun _ h_ => h_.1)))); (case side4 => exact (Kd.R_reads' HO129.out).2.1); rintro e w58 ⟨v152, rfl, ho0, hb⟩; refine ⟨_, rfl, ?_⟩; have n0_ := Aside0.mk (Kd.R_elder' (by (with_reducible repeat (first | apply Kd.R_alloc | apply Kd.R_drewN | apply Kd.R_drew)); exact (Kd.R_mono (Kd.R_far (p := ⟨gb150, 1, none⟩) (Kd.R_far (p := ⟨gb150, 0, none⟩) (Kd.R_types HO129.out BK150.out (by decide)) (fun _ hk => hk.2) (.int .i64 t147)) (fun _ hk => hk.2) (.int .i64 t148)) (fun _ h_ => h_.1))) (Kd.R_base ho0) hb); have n1_ := Aside0.mk (Kd.R_elder' (by (with_reducible repeat (first | apply Kd.R_alloc | apply Kd.R_drewN | apply Kd.R_drew)); exact (Kd.R_mono (Kd.R_far (p := ⟨gb150, 1, none⟩) (Kd.R_far (p := ⟨gb150, 0, none⟩) (Kd.R_types HO145.out BK150.out (by decide)) (fun _ hk => hk.2) (.int .i64 t147)) (fun _ hk => hk.2) (.int .i64 t148)) (fun _ h_ => h_.1))) (Kd.R_base ho0) hb); have n2_ := Aside0.mk (Kd.R_lower (Kd.R_new' (Kd.R_new' ho0 (Kd.R_lt (by (with_reducible repeat (first | apply Kd.R_alloc | apply Kd.R_drewN | apply Kd.R_drew)); exact (Kd.R_mono (Kd.R_far (p := ⟨gb150, 1, none⟩) (Kd.R_far (p := ⟨gb150, 0, none⟩) (Kd.R_types HO129.out BK150.out (by decide)) (fun _ hk => hk.2) (.int .i64 t147)) (fun _ hk => hk.2) (.int .i64 t148)) (fun _ h_ => h_.1))))) (Kd.R_lt (by (with_reducible repeat (first | apply Kd.R_alloc | apply Kd.R_drewN | apply Kd.R_drew)); exact (Kd.R_mono (Kd.R_far (p := ⟨gb150, 1, none⟩) (Kd.R_far (p := ⟨gb150, 0, none⟩) (Kd.R_types HO145.out BK150.out (by decide)) (fun _ hk => hk.2) (.int .i64 t147)) (fun _ hk => hk.2) (.int .i64 t148)) (fun _ h_ => h_.1))))) (below_size (by repeat (first | (with_reducible first | exact HB.out | apply below_alloc | apply pw_below_drewN | apply below_drew1 | refine below_set ?_ GE135.out | refine below_set ?_ GE142.out | refine below_set ?_ GE150.out) | exact HB.out)))); have n3_ := Aside0.mk (blk_below (g := gb135) (o := .cells #[.int .i64 t133, .int .i64 t134] 23 (0, 0)) (by (with_reducible repeat (first | refine blk_drewN ?_ _ | refine blk_drew ?_ | refine blk_alloc ?_ _)); refine blk_far ?_ NB135_150.out _; (with_reducible repeat (first | refine blk_drewN ?_ _ | refine blk_drew ?_ | refine blk_alloc ?_ _)); refine blk_far ?_ NB135_150.out _; (with_reducible repeat (first | refine blk_drewN ?_ _ | refine blk_drew ?_ | refine blk_alloc ?_ _)); exact BK135.out) hb); have n4_ := Aside0.mk (blk_below (g := gb142) (o := .cells #[.int .i64 t139, .int .i64 t140] 23 (0, 0)) (by (with_reducible repeat (first | refine blk_drewN ?_ _ | refine blk_drew ?_ | refine blk_alloc ?_ _)); refine blk_far ?_ NB142_150.out _; (with_reducible repeat (first | refine blk_drewN ?_ _ | refine blk_drew ?_ | refine blk_alloc ?_ _)); refine blk_far ?_ NB142_150.out _; (with_reducible repeat (first | refine blk_drewN ?_ _ | refine blk_drew ?_ | refine blk_alloc ?_ _)); exact BK142.out) hb); have n5_ := Aside0.mk (blk_below (g := gb150) (o := .cells #[.int .i64 t147, .int .i64 t148] 23 (0, 0)) (by (with_reducible repeat (first | refine blk_drewN ?_ _ | refine blk_drew ?_ | refine blk_alloc ?_ _)); refine blk_put (cs := #[.int .i64 t147, .int .i64 0]) ?_ 1 _ rfl; (with_reducible repeat (first | refine blk_drewN ?_ _ | refine blk_drew ?_ | refine blk_alloc ?_ _)); refine blk_put (cs := #[.int .i64 0, .int .i64 0]) ?_ 0 _ rfl; (with_reducible repeat (first | refine blk_drewN ?_ _ | refine blk_drew ?_ | refine blk_alloc ?_ _)); exact BK150.out) hb); have n6_ := Aside0.mk (below_step (by repeat (first | (with_reducible first | exact HB.out | apply below_alloc | apply pw_below_drewN | apply below_drew1 | refine below_set ?_ GE135.out | refine below_set ?_ GE142.out | refine below_set ?_ GE150.out) | exact HB.out)) hb); clear HO129; clear HO145; clear BK135; clear BK142; clear BK150; clear HB; have HO129 := n0_; have HO145 := n1_; have HO153 := n2_; have BK135 := n3_; have BK142 := n4_; have BK150 := n5_; have HB := n6_; clear n0_ n1_ n2_ n3_ n4_ n5_ n6_; (try clear hb); (try clear hb2); (try clear hk); (try clear hi); (try clear ho0)) | ((with_reducible refine gate_callee (f := 29) rfl ?_); refine goesL_ (some 46) rfl rfl Try.func29 (by kernel_rfl) rfl #[.int .i64 20000] rfl (by (try simp only [List.map_toArray, List.map_cons, List.map_nil]); first | done | rfl | (simp only [List.length_drop, List.length_take]; rfl)) ?_; (with_reducible refine (plenumlaw13_analog.calls 20000 t154 t155 _ A10.out).mono ?_); rintro e w59 ⟨rfl, hb⟩; refine ⟨_, rfl, ?_⟩; have n0_ := Aside0.mk (Kd.R_below (by (with_reducible repeat (first | apply Kd.R_alloc | apply Kd.R_drewN | apply Kd.R_drew)); exact HO129.out) hb); have n1_ := Aside0.mk (Kd.R_below (by (with_reducible repeat (first | apply Kd.R_alloc | apply Kd.R_drewN | apply Kd.R_drew)); exact HO145.out) hb); have n2_ := Aside0.mk (Kd.R_below (by (with_reducible repeat (first | apply Kd.R_alloc | apply Kd.R_drewN | apply Kd.R_drew)); exact HO153.out) hb); have n3_ := Aside0.mk (blk_below (g := gb135) (o := .cells #[.int .i64 t133, .int .i64 t134] 23 (0, 0)) (by (with_reducible repeat (first | refine blk_drewN ?_ _ | refine blk_drew ?_ | refine blk_alloc ?_ _)); exact BK135.out) hb); have n4_ := Aside0.mk (blk_below (g := gb142) (o := .cells #[.int .i64 t139, .int .i64 t140] 23 (0, 0)) (by (with_reducible repeat (first | refine blk_drewN ?_ _ | refine blk_drew ?_ | refine blk_alloc ?_ _)); exact BK142.out) hb); have n5_ := Aside0.mk (blk_below (g := gb150) (o := .cells #[.int .i64 t147, .int .i64 t148] 23 (0, 0)) (by (with_reducible repeat (first | refine blk_drewN ?_ _ | refine blk_drew ?_ | refine blk_alloc ?_ _)); exact BK150.out) hb); have n6_ := Aside0.mk (below_step (by repeat (first | (with_reducible first | exact HB.out | apply below_alloc | apply pw_below_drewN | apply below_drew1 | refine below_set ?_ GE135.out | refine below_set ?_ GE142.out | refine below_set ?_ GE150.out) | exact HB.out)) hb); clear HO129; clear HO145; clear HO153; clear BK135; clear BK142; clear BK150; clear HB; have HO129 := n0_; have HO145 := n1_; have HO153 := n2_; have BK135 := n3_; have BK142 := n4_; have BK150 := n5_; have HB := n6_; clear n0_ n1_ n2_ n3_ n4_ n5_ n6_; (try clear hb); (try clear hb2); (try clear hk); (try clear hi); obtain ⟨Ao60, co60, eo60⟩ := Kd.R_slice HO153.out; subst eo60) | ((with_reducible refine gate_callee (f := 21) rfl ?_); refine goesL_ (some 47) rfl rfl Try.func21 (by kernel_rfl) rfl #[.slice Ao60 t151.length co60, .agg #[.int .i64 t154, .int .i64 t155]] rfl (by (try simp only [List.map_toArray, List.map_cons, List.map_nil]); first | done | rfl | (simp only [List.length_drop, List.length_take]; rfl)) ?_; (with_reducible refine (priority_Active.calls _ _ t151 t154 t155 t156 t157 t158 _ ?side1 ?side2 A11.out).mono ?_); (case side1 => repeat (first | exact (Kd.R_reads' HO153.out).2.2 | (with_reducible refine Kd.C_alloc ?_ _) | (with_reducible refine Kd.C_drewN ?_ _) | (with_reducible refine Kd.C_drew ?_))); (case side2 => exact (Kd.R_reads' HO153.out).2.1); rintro e w61 ⟨rfl, hb⟩; refine ⟨_, rfl, ?_⟩; have n0_ := Aside0.mk (Kd.R_below (by (with_reducible repeat (first | apply Kd.R_alloc | apply Kd.R_drewN | apply Kd.R_drew)); exact HO129.out) hb); have n1_ := Aside0.mk (Kd.R_below (by (with_reducible repeat (first | apply Kd.R_alloc | apply Kd.R_drewN | apply Kd.R_drew)); exact HO145.out) hb); have n2_ := Aside0.mk (Kd.R_below (by (with_reducible repeat (first | apply Kd.R_alloc | apply Kd.R_drewN | apply Kd.R_drew)); exact HO153.out) hb); have n3_ := Aside0.mk (blk_below (g := gb135) (o := .cells #[.int .i64 t133, .int .i64 t134] 23 (0, 0)) (by (with_reducible repeat (first | refine blk_drewN ?_ _ | refine blk_drew ?_ | refine blk_alloc ?_ _)); exact BK135.out) hb); have n4_ := Aside0.mk (blk_below (g := gb142) (o := .cells #[.int .i64 t139, .int .i64 t140] 23 (0, 0)) (by (with_reducible repeat (first | refine blk_drewN ?_ _ | refine blk_drew ?_ | refine blk_alloc ?_ _)); exact BK142.out) hb); have n5_ := Aside0.mk (blk_below (g := gb150) (o := .cells #[.int .i64 t147, .int .i64 t148] 23 (0, 0)) (by (with_reducible repeat (first | refine blk_drewN ?_ _ | refine blk_drew ?_ | refine blk_alloc ?_ _)); exact BK150.out) hb); have n6_ := Aside0.mk (below_step (by repeat (first | (with_reducible first | exact HB.out | apply below_alloc | apply pw_below_drewN | apply below_drew1 | refine below_set ?_ GE135.out | refine below_set ?_ GE142.out | refine below_set ?_ GE150.out) | exact HB.out)) hb); clear HO129; clear HO145; clear HO153; clear BK135; clear BK142; clear BK150; clear HB; have HO129 := n0_; have HO145 := n1_; have HO153 := n2_; have BK135 := n3_; have BK142 := n4_; have BK150 := n5_; have HB := n6_; clear n0_ n1_ n2_ n3_ n4_ n5_ n6_; (try clear hb); (try clear hb2); (try clear hk); (try clear hi)) | ((with_reducible refine gate_dst (N := 12) rfl ?_); (try (refine gate_guard (by rfl) ?_; dsimp only)); refine box_event ?hg (N := 12) ?hd (cs := #[.int .i64 0, .int .i64 0]) (t := 23) ?hr ?_; (case hd => rfl); (case hg => rfl); (case hr => first | (go_simp; done) | (go_simp; rfl)); intro gb159 hg w62 hbox hb; have n0_ := Aside0.mk (Kd.R_below (by (with_reducible repeat (first | apply Kd.R_alloc | apply Kd.R_drewN | apply Kd.R_drew)); exact HO129.out) hb); have n1_ := Aside0.mk (Kd.R_below (by (with_reducible repeat (first | apply Kd.R_alloc | apply Kd.R_drewN | apply Kd.R_drew)); exact HO145.out) hb); have n2_ := Aside0.mk (Kd.R_below (by (with_reducible repeat (first | apply Kd.R_alloc | apply Kd.R_drewN | apply Kd.R_drew)); exact HO153.out) hb); have n3_ := Aside0.mk (blk_below (g := gb135) (o := .cells #[.int .i64 t133, .int .i64 t134] 23 (0, 0)) (by (with_reducible repeat (first | refine blk_drewN ?_ _ | refine blk_drew ?_ | refine blk_alloc ?_ _)); exact BK135.out) hb); have n4_ := Aside0.mk (blk_below (g := gb142) (o := .cells #[.int .i64 t139, .int .i64 t140] 23 (0, 0)) (by (with_reducible repeat (first | refine blk_drewN ?_ _ | refine blk_drew ?_ | refine blk_alloc ?_ _)); exact BK142.out) hb); have n5_ := Aside0.mk (blk_below (g := gb150) (o := .cells #[.int .i64 t147, .int .i64 t148] 23 (0, 0)) (by (with_reducible repeat (first | refine blk_drewN ?_ _ | refine blk_drew ?_ | refine blk_alloc ?_ _)); exact BK150.out) hb); have n6_ := Aside0.mk (below_step (by repeat (first | (with_reducible first | exact HB.out | apply below_alloc | apply pw_below_drewN | apply below_drew1 | refine below_set ?_ GE135.out | refine below_set ?_ GE142.out | refine below_set ?_ GE150.out) | exact HB.out)) hb); have n7_ := Aside0.mk (hbox); have n8_ := Aside0.mk ((by rw [hg]; exact (below_size (by repeat (first | (with_reducible first | exact HB.out | apply below_alloc | apply pw_below_drewN | apply below_drew1 | refine below_set ?_ GE135.out | refine below_set ?_ GE142.out | refine below_set ?_ GE150.out) | exact HB.out))) : w.heap.size ≤ gb159)); have n9_ := Aside0.mk ((by rw [hg]; exact (below_size (by repeat (first | (with_reducible first | exact HB.out | apply below_alloc | apply pw_below_drewN | apply below_drew1 | refine below_set ?_ GE135.out | refine below_set ?_ GE142.out | refine below_set ?_ GE150.out) | exact HB.out))) : w.heap.size ≤ gb159)); have n10_ := Aside0.mk ((by rw [hg]; exact Nat.ne_of_lt (blk_lt (g := gb135) (o := .cells #[.int .i64 t133, .int .i64 t134] 23 (0, 0)) (by (with_reducible repeat (first | refine blk_drewN ?_ _ | refine blk_drew ?_ | refine blk_alloc ?_ _)); exact BK135.out)) : gb135 ≠ gb159)); have n11_ := Aside0.mk ((by rw [hg]; exact Nat.ne_of_gt (blk_lt (g := gb135) (o := .cells #[.int .i64 t133, .int .i64 t134] 23 (0, 0)) (by (with_reducible repeat (first | refine blk_drewN ?_ _ | refine blk_drew ?_ | refine blk_alloc ?_ _)); exact BK135.out)) : gb159 ≠ gb135)); have n12_ := Aside0.mk ((by rw [hg]; exact Nat.ne_of_lt (blk_lt (g := gb142) (o := .cells #[.int .i64 t139, .int .i64 t140] 23 (0, 0)) (by (with_reducible repeat (first | refine blk_drewN ?_ _ | refine blk_drew ?_ | refine blk_alloc ?_ _)); exact BK142.out)) : gb142 ≠ gb159)); have n13_ := Aside0.mk ((by rw [hg]; exact Nat.ne_of_gt (blk_lt (g := gb142) (o := .cells #[.int .i64 t139, .int .i64 t140] 23 (0, 0)) (by (with_reducible repeat (first | refine blk_drewN ?_ _ | refine blk_drew ?_ | refine blk_alloc ?_ _)); exact BK142.out)) : gb159 ≠ gb142)); have n14_ := Aside0.mk ((by rw [hg]; exact Nat.ne_of_lt (blk_lt (g := gb150) (o := .cells #[.int .i64 t147, .int .i64 t148] 23 (0, 0)) (by (with_reducible repeat (first | refine blk_drewN ?_ _ | refine blk_drew ?_ | refine blk_alloc ?_ _)); exact BK150.out)) : gb150 ≠ gb159)); have n15_ := Aside0.mk ((by rw [hg]; exact Nat.ne_of_gt (blk_lt (g := gb150) (o := .cells #[.int .i64 t147, .int .i64 t148] 23 (0, 0)) (by (with_reducible repeat (first | refine blk_drewN ?_ _ | refine blk_drew ?_ | refine blk_alloc ?_ _)); exact BK150.out)) : gb159 ≠ gb150)); clear HO129; clear HO145; clear HO153; clear BK135; clear BK142; clear BK150; clear HB; have HO129 := n0_; have HO145 := n1_; have HO153 := n2_; have BK135 := n3_; have BK142 := n4_; have BK150 := n5_; have HB := n6_; have BK159 := n7_; have GW159 := n8_; have GE159 := n9_; have NB135_159 := n10_; have NB159_135 := n11_; have NB142_159 := n12_; have NB159_142 := n13_; have NB150_159 := n14_; have NB159_150 := n15_; clear n0_ n1_ n2_ n3_ n4_ n5_ n6_ n7_ n8_ n9_ n10_ n11_ n12_ n13_ n14_ n15_; clear hb hbox hg; have hnb63 := NB159_135.out; have hnc63 := NB135_159.out; have hnb64 := NB159_142.out; have hnc64 := NB142_159.out; have hnb65 := NB159_150.out; have hnc65 := NB150_159.out; have hcz66_0 : w62.cell? ⟨gb159, 0, none⟩ = some (.int .i64 0) := (blk_cell BK159.out 0).trans rfl; have hcz66_1 : w62.cell? ⟨gb159, 1, none⟩ = some (.int .i64 0) := (blk_cell BK159.out 1).trans rfl; have hfz66_0 := blk_frozen BK159.out 0; have hfz66_1 := blk_frozen BK159.out 1))
                                    have n0_ : Aside0 (Kd.R k25 25 ((w62.setCell ⟨gb159, 0, none⟩ (.int .i64 t157)).setCell ⟨gb159, 1, none⟩ (.int .i64 t158)) w.heap.size (fun k_ => some k_ ≠ (.slice Ao52 t143.length co52 : Value).ownBlock ∧ some k_ ≠ (.slice Ao60 t151.length co60 : Value).ownBlock) (.slice Ao42 y127.length co42) y127) := ⟨by (with_reducible repeat (first | apply Kd.R_alloc | apply Kd.R_drewN | apply Kd.R_drew)); exact Kd.R_mono (Kd.R_far (p := ⟨gb159, 1, none⟩) (Kd.R_far (p := ⟨gb159, 0, none⟩) (Kd.R_types HO129.out BK159.out (by decide)) (fun _ hk => hk.2) (.int .i64 t157)) (fun _ hk => hk.2) (.int .i64 t158)) (fun _ hk => ⟨hk.1.1.2, hk.1.2⟩)⟩
                                    have n1_ : Aside0 (Kd.R k25 25 ((w62.setCell ⟨gb159, 0, none⟩ (.int .i64 t157)).setCell ⟨gb159, 1, none⟩ (.int .i64 t158)) w.heap.size (fun k_ => some k_ ≠ (.slice Ao42 y127.length co42 : Value).ownBlock ∧ some k_ ≠ (.slice Ao60 t151.length co60 : Value).ownBlock) (.slice Ao52 t143.length co52) t143) := ⟨by (with_reducible repeat (first | apply Kd.R_alloc | apply Kd.R_drewN | apply Kd.R_drew)); exact Kd.R_mono (Kd.R_far (p := ⟨gb159, 1, none⟩) (Kd.R_far (p := ⟨gb159, 0, none⟩) (Kd.R_types HO145.out BK159.out (by decide)) (fun _ hk => hk.2) (.int .i64 t157)) (fun _ hk => hk.2) (.int .i64 t158)) (fun _ hk => ⟨hk.1.1.2, hk.1.2⟩)⟩
                                    have n2_ : Aside0 (Kd.R k25 25 ((w62.setCell ⟨gb159, 0, none⟩ (.int .i64 t157)).setCell ⟨gb159, 1, none⟩ (.int .i64 t158)) w.heap.size (fun k_ => some k_ ≠ (.slice Ao42 y127.length co42 : Value).ownBlock ∧ some k_ ≠ (.slice Ao52 t143.length co52 : Value).ownBlock) (.slice Ao60 t151.length co60) t151) := ⟨by (with_reducible repeat (first | apply Kd.R_alloc | apply Kd.R_drewN | apply Kd.R_drew)); exact Kd.R_mono (Kd.R_far (p := ⟨gb159, 1, none⟩) (Kd.R_far (p := ⟨gb159, 0, none⟩) (Kd.R_types HO153.out BK159.out (by decide)) (fun _ hk => hk.2) (.int .i64 t157)) (fun _ hk => hk.2) (.int .i64 t158)) (fun _ hk => ⟨hk.1.1.2, hk.1.2⟩)⟩
                                    have n3_ : Aside0 (((w62.setCell ⟨gb159, 0, none⟩ (.int .i64 t157)).setCell ⟨gb159, 1, none⟩ (.int .i64 t158)).heap[gb135]? = some (.cells #[.int .i64 t133, .int .i64 t134] 23 (0, 0))) := ⟨by (with_reducible repeat (first | refine blk_drewN ?_ _ | refine blk_drew ?_ | refine blk_alloc ?_ _)); refine blk_far ?_ NB135_159.out _; (with_reducible repeat (first | refine blk_drewN ?_ _ | refine blk_drew ?_ | refine blk_alloc ?_ _)); refine blk_far ?_ NB135_159.out _; (with_reducible repeat (first | refine blk_drewN ?_ _ | refine blk_drew ?_ | refine blk_alloc ?_ _)); exact BK135.out⟩
                                    have n4_ : Aside0 (((w62.setCell ⟨gb159, 0, none⟩ (.int .i64 t157)).setCell ⟨gb159, 1, none⟩ (.int .i64 t158)).heap[gb142]? = some (.cells #[.int .i64 t139, .int .i64 t140] 23 (0, 0))) := ⟨by (with_reducible repeat (first | refine blk_drewN ?_ _ | refine blk_drew ?_ | refine blk_alloc ?_ _)); refine blk_far ?_ NB142_159.out _; (with_reducible repeat (first | refine blk_drewN ?_ _ | refine blk_drew ?_ | refine blk_alloc ?_ _)); refine blk_far ?_ NB142_159.out _; (with_reducible repeat (first | refine blk_drewN ?_ _ | refine blk_drew ?_ | refine blk_alloc ?_ _)); exact BK142.out⟩
                                    have n5_ : Aside0 (((w62.setCell ⟨gb159, 0, none⟩ (.int .i64 t157)).setCell ⟨gb159, 1, none⟩ (.int .i64 t158)).heap[gb150]? = some (.cells #[.int .i64 t147, .int .i64 t148] 23 (0, 0))) := ⟨by (with_reducible repeat (first | refine blk_drewN ?_ _ | refine blk_drew ?_ | refine blk_alloc ?_ _)); refine blk_far ?_ NB150_159.out _; (with_reducible repeat (first | refine blk_drewN ?_ _ | refine blk_drew ?_ | refine blk_alloc ?_ _)); refine blk_far ?_ NB150_159.out _; (with_reducible repeat (first | refine blk_drewN ?_ _ | refine blk_drew ?_ | refine blk_alloc ?_ _)); exact BK150.out⟩
                                    have n6_ : Aside0 (((w62.setCell ⟨gb159, 0, none⟩ (.int .i64 t157)).setCell ⟨gb159, 1, none⟩ (.int .i64 t158)).heap[gb159]? = some (.cells #[.int .i64 t157, .int .i64 t158] 23 (0, 0))) := ⟨by (with_reducible repeat (first | refine blk_drewN ?_ _ | refine blk_drew ?_ | refine blk_alloc ?_ _)); refine blk_put (cs := #[.int .i64 t157, .int .i64 0]) ?_ 1 _ rfl; (with_reducible repeat (first | refine blk_drewN ?_ _ | refine blk_drew ?_ | refine blk_alloc ?_ _)); refine blk_put (cs := #[.int .i64 0, .int .i64 0]) ?_ 0 _ rfl; (with_reducible repeat (first | refine blk_drewN ?_ _ | refine blk_drew ?_ | refine blk_alloc ?_ _)); exact BK159.out⟩
                                    have n7_ : Aside0 (Below w.heap.size w ((w62.setCell ⟨gb159, 0, none⟩ (.int .i64 t157)).setCell ⟨gb159, 1, none⟩ (.int .i64 t158))) := ⟨by repeat (first | (with_reducible first | exact HB.out | apply below_alloc | apply pw_below_drewN | apply below_drew1 | refine below_set ?_ GE135.out | refine below_set ?_ GE142.out | refine below_set ?_ GE150.out | refine below_set ?_ GE159.out) | exact HB.out)⟩
                                    (try clear HO129)
                                    (try clear HO145)
                                    (try clear HO153)
                                    (try clear BK135)
                                    (try clear BK142)
                                    (try clear BK150)
                                    (try clear BK159)
                                    (try clear HB)
                                    generalize ((w62.setCell ⟨gb159, 0, none⟩ (.int .i64 t157)).setCell ⟨gb159, 1, none⟩ (.int .i64 t158)) = w67 at n0_ n1_ n2_ n3_ n4_ n5_ n6_ n7_ ⊢
                                    have HO129 := n0_
                                    have HO145 := n1_
                                    have HO153 := n2_
                                    have BK135 := n3_
                                    have BK142 := n4_
                                    have BK150 := n5_
                                    have BK159 := n6_
                                    have HB := n7_
                                    clear n0_ n1_ n2_ n3_ n4_ n5_ n6_ n7_
                                    have n0_ := Aside0.mk (Kd.R_drew HO129.out)
                                    have n1_ := Aside0.mk (Kd.R_drew HO145.out)
                                    have n2_ := Aside0.mk (Kd.R_drew HO153.out)
                                    have n3_ := Aside0.mk (blk_drew BK135.out)
                                    have n4_ := Aside0.mk (blk_drew BK142.out)
                                    have n5_ := Aside0.mk (blk_drew BK150.out)
                                    have n6_ := Aside0.mk (blk_drew BK159.out)
                                    have n7_ := Aside0.mk (below_drew1 HB.out)
                                    clear HO129
                                    clear HO145
                                    clear HO153
                                    clear BK135
                                    clear BK142
                                    clear BK150
                                    clear BK159
                                    clear HB
                                    have HO129 := n0_
                                    have HO145 := n1_
                                    have HO153 := n2_
                                    have BK135 := n3_
                                    have BK142 := n4_
                                    have BK150 := n5_
                                    have BK159 := n6_
                                    have HB := n7_
                                    clear n0_ n1_ n2_ n3_ n4_ n5_ n6_ n7_
                                    have p164 : 0 ≤ (0 : Int) := (by omega)
                                    have q164 : 0 < (t143.length : Int) := of_decide_eq_true (by first | (with_reducible assumption) | assumption)
                                    obtain ⟨ad164, e164, hx164_0, hx164_1, hx164_2, hx164_3⟩ := at_T25 (Kd.R_reads' HO145.out).2.2 0 p164 q164
                                    cases e164
                                    have qi164 : (0 < t143.length) = True := eq_true (by omega)
                                    (try rw [show ((0 : Int)).toNat = 0 from rfl] at hx164_0)
                                    (try rw [show 0 * 4 = 0 from rfl] at hx164_0)
                                    (try rw [Addr.add_zero'] at hx164_0)
                                    (try rw [show ((0 : Int)).toNat = 0 from rfl] at hx164_1)
                                    (try rw [show 0 * 4 = 0 from rfl] at hx164_1)
                                    (try rw [Addr.add_zero'] at hx164_1)
                                    (try rw [show ((0 : Int)).toNat = 0 from rfl] at hx164_2)
                                    (try rw [show 0 * 4 = 0 from rfl] at hx164_2)
                                    (try rw [Addr.add_zero'] at hx164_2)
                                    (try rw [show ((0 : Int)).toNat = 0 from rfl] at hx164_3)
                                    (try rw [show 0 * 4 = 0 from rfl] at hx164_3)
                                    (try rw [Addr.add_zero'] at hx164_3)
                                    replace p164 := eq_true p164
                                    replace q164 := eq_true q164
                                    have p169 : 0 ≤ (0 : Int) := (by omega)
                                    have q169 : 0 < (y127.length : Int) := of_decide_eq_true (by first | (with_reducible assumption) | assumption)
                                    obtain ⟨ad169, e169, hx169_0, hx169_1, hx169_2, hx169_3⟩ := at_T25 (Kd.R_reads' HO129.out).2.2 0 p169 q169
                                    cases e169
                                    have qi169 : (0 < y127.length) = True := eq_true (by omega)
                                    (try rw [show ((0 : Int)).toNat = 0 from rfl] at hx169_0)
                                    (try rw [show 0 * 4 = 0 from rfl] at hx169_0)
                                    (try rw [Addr.add_zero'] at hx169_0)
                                    (try rw [show ((0 : Int)).toNat = 0 from rfl] at hx169_1)
                                    (try rw [show 0 * 4 = 0 from rfl] at hx169_1)
                                    (try rw [Addr.add_zero'] at hx169_1)
                                    (try rw [show ((0 : Int)).toNat = 0 from rfl] at hx169_2)
                                    (try rw [show 0 * 4 = 0 from rfl] at hx169_2)
                                    (try rw [Addr.add_zero'] at hx169_2)
                                    (try rw [show ((0 : Int)).toNat = 0 from rfl] at hx169_3)
                                    (try rw [show 0 * 4 = 0 from rfl] at hx169_3)
                                    (try rw [Addr.add_zero'] at hx169_3)
                                    replace p169 := eq_true p169
                                    replace q169 := eq_true q169
                                    refine start_ (n := 80) (S := fun w' => w'.cell? ⟨gb135, 0, none⟩ = some (.int .i64 t133) ∧ w'.cell? ⟨gb135, 1, none⟩ = some (.int .i64 t134) ∧ w'.cell? ⟨gb142, 0, none⟩ = some (.int .i64 t139) ∧ w'.cell? ⟨gb142, 1, none⟩ = some (.int .i64 t140) ∧ w'.cell? ⟨gb150, 0, none⟩ = some (.int .i64 t147) ∧ w'.cell? ⟨gb150, 1, none⟩ = some (.int .i64 t148) ∧ w'.cell? ⟨gb159, 0, none⟩ = some (.int .i64 t157) ∧ w'.cell? ⟨gb159, 1, none⟩ = some (.int .i64 t158) ∧ w'.cell? ad164 = some (.int .i64 ((rd_T25 t143 0).f0)) ∧ w'.cell? ⟨ad164.block, ad164.off + 1, none⟩ = some (.int .i64 ((rd_T25 t143 0).f1)) ∧ w'.cell? ⟨ad164.block, ad164.off + 2, none⟩ = some (.int .i64 ((rd_T25 t143 0).f2.f0)) ∧ w'.cell? ⟨ad164.block, ad164.off + 3, none⟩ = some (.int .i64 ((rd_T25 t143 0).f2.f1)) ∧ w'.cell? ad169 = some (.int .i64 ((rd_T25 y127 0).f0)) ∧ w'.cell? ⟨ad169.block, ad169.off + 1, none⟩ = some (.int .i64 ((rd_T25 y127 0).f1)) ∧ w'.cell? ⟨ad169.block, ad169.off + 2, none⟩ = some (.int .i64 ((rd_T25 y127 0).f2.f0)) ∧ w'.cell? ⟨ad169.block, ad169.off + 3, none⟩ = some (.int .i64 ((rd_T25 y127 0).f2.f1))) (ds := []) #[false, false, false, false, false, false, false, false, false, false, false, false, false, false, false, false, false, false, false, false, false, false, false, false, false, false, false, false, false, false, false, false, false, false, false, false, false, false, false, false, false, false, false, false, false, false, false, false, false, false, false, false, false, false, false, false, false, false, false, false, false, false, false, false, false, false, false, false, false, false, false, false, false, false, false, false, false, false, false, false] (by kernel_rfl) rfl rfl ⟨(blk_cell BK135.out 0).trans rfl, (blk_cell BK135.out 1).trans rfl, (blk_cell BK142.out 0).trans rfl, (blk_cell BK142.out 1).trans rfl, (blk_cell BK150.out 0).trans rfl, (blk_cell BK150.out 1).trans rfl, (blk_cell BK159.out 0).trans rfl, (blk_cell BK159.out 1).trans rfl, hx164_0, hx164_1, hx164_2, hx164_3, hx169_0, hx169_1, hx169_2, hx169_3⟩ (fun hHeld => ?_); refine with_tabW plenumlaw13_awake.tab7 plenumlaw13_awake.bits7 (fun HT_ HW_ => ?_)
                                    generalize w67.drew = w68 at HO129 HO145 HO153 BK135 BK142 BK150 BK159 HB hx164_0 hx164_1 hx164_2 hx164_3 hx169_0 hx169_1 hx169_2 hx169_3 hHeld ⊢
                                    refine pure_ (i := 0) (N := some 50) (v := ?_) (a' := ?_) #[true, false, false, false, false, false, false, false, false, false, false, false, false, false, false, false, false, false, false, false, false, false, false, false, false, false, false, false, false, false, false, false, false, false, false, false, false, false, false, false, false, false, false, false, false, false, false, false, false, false, false, false, false, false, false, false, false, false, false, false, false, false, false, false, false, false, false, false, false, false, false, false, false, false, false, false, false, false, false, false] rfl rfl (any_of HT_.out (by kernel_rfl)) (fun _ _ _ h => h) (Or.inl ⟨by rfl, ?_⟩) ?_ ?_
                                    rotate_left
                                    · intro w'
                                      go_simp
                                      with_reducible rfl
                                    rotate_left
                                    · simp only [Act.put, List.setIfInBounds_toArray, List.set_cons_zero, List.set_cons_succ, i64_w, i32_w]
                                      rfl
                                    refine pure_ (i := 1) (N := some 51) (v := ?_) (a' := ?_) #[true, true, false, false, false, false, false, false, false, false, false, false, false, false, false, false, false, false, false, false, false, false, false, false, false, false, false, false, false, false, false, false, false, false, false, false, false, false, false, false, false, false, false, false, false, false, false, false, false, false, false, false, false, false, false, false, false, false, false, false, false, false, false, false, false, false, false, false, false, false, false, false, false, false, false, false, false, false, false, false] rfl rfl (any_of HT_.out (by kernel_rfl)) (fun _ _ _ h => h) (Or.inl ⟨by rfl, ?_⟩) ?_ ?_
                                    rotate_left
                                    · intro w'
                                      go_simp
                                      with_reducible rfl
                                    rotate_left
                                    · simp only [Act.put, List.setIfInBounds_toArray, List.set_cons_zero, List.set_cons_succ, i64_w, i32_w]
                                      rfl
                                    refine pure_ (i := 2) (N := some 52) (v := ?_) (a' := ?_) #[true, true, true, false, false, false, false, false, false, false, false, false, false, false, false, false, false, false, false, false, false, false, false, false, false, false, false, false, false, false, false, false, false, false, false, false, false, false, false, false, false, false, false, false, false, false, false, false, false, false, false, false, false, false, false, false, false, false, false, false, false, false, false, false, false, false, false, false, false, false, false, false, false, false, false, false, false, false, false, false] rfl rfl (any_of HT_.out (by kernel_rfl)) (fun _ _ _ h => h) (Or.inl ⟨by rfl, ?_⟩) ?_ ?_
                                    rotate_left
                                    · intro w'
                                      go_simp
                                      with_reducible rfl
                                    rotate_left
                                    · simp only [Act.put, List.setIfInBounds_toArray, List.set_cons_zero, List.set_cons_succ, i64_w, i32_w]
                                      rfl
                                    refine take_ (i := 3) (N := some 53) (v := ?_) (a' := ?_) #[true, true, true, true, false, false, false, false, false, false, false, false, false, false, false, false, false, false, false, false, false, false, false, false, false, false, false, false, false, false, false, false, false, false, false, false, false, false, false, false, false, false, false, false, false, false, false, false, false, false, false, false, false, false, false, false, false, false, false, false, false, false, false, false, false, false, false, false, false, false, false, false, false, false, false, false, false, false, false, false] rfl rfl (take_ofW HT_.out HW_.out (by kernel_rfl)) (fun _ _ _ h => h) (Or.inl ⟨by rfl, ?_⟩) hHeld ?_ ?_
                                    rotate_left
                                    · rintro w' ⟨s0, s1, s2, s3, s4, s5, s6, s7, s8, s9, s10, s11, s12, s13, s14, s15⟩
                                      go_simp
                                      with_reducible rfl
                                    rotate_left
                                    · simp only [Act.put, List.setIfInBounds_toArray, List.set_cons_zero, List.set_cons_succ, i64_w, i32_w]
                                      rfl
                                    refine one_ (i := 4) (N := some 54) #[true, true, true, true, true, false, false, false, false, false, false, false, false, false, false, false, false, false, false, false, false, false, false, false, false, false, false, false, false, false, false, false, false, false, false, false, false, false, false, false, false, false, false, false, false, false, false, false, false, false, false, false, false, false, false, false, false, false, false, false, false, false, false, false, false, false, false, false, false, false, false, false, false, false, false, false, false, false, false, false] rfl rfl (one_of HT_.out (by kernel_rfl)) (by decide) (fun K hK => ?_)
                                    refine goes_ Try.func29 (by kernel_rfl) rfl #[.int .i64 21000] (by rfl) rfl rfl (by (try simp only [List.map_toArray, List.map_cons, List.map_nil]); first | done | rfl | (simp only [List.length_drop, List.length_take]; rfl)) ?_
                                    with_reducible refine (plenumlaw13_analog.calls 21000 t160 t161 _ A13.out).mono ?_
                                    rintro e w69 ⟨rfl, hb⟩
                                    have HS8_ := (hb.cell (World.block_lt_of_cell? _ _ (hHeld.2.2.2.2.2.2.2.2.1))).trans (hHeld.2.2.2.2.2.2.2.2.1)
                                    have HS9_ := (hb.cell (World.block_lt_of_cell? _ _ (hHeld.2.2.2.2.2.2.2.2.2.1))).trans (hHeld.2.2.2.2.2.2.2.2.2.1)
                                    have HS10_ := (hb.cell (World.block_lt_of_cell? _ _ (hHeld.2.2.2.2.2.2.2.2.2.2.1))).trans (hHeld.2.2.2.2.2.2.2.2.2.2.1)
                                    have HS11_ := (hb.cell (World.block_lt_of_cell? _ _ (hHeld.2.2.2.2.2.2.2.2.2.2.2.1))).trans (hHeld.2.2.2.2.2.2.2.2.2.2.2.1)
                                    have HS12_ := (hb.cell (World.block_lt_of_cell? _ _ (hHeld.2.2.2.2.2.2.2.2.2.2.2.2.1))).trans (hHeld.2.2.2.2.2.2.2.2.2.2.2.2.1)
                                    have HS13_ := (hb.cell (World.block_lt_of_cell? _ _ (hHeld.2.2.2.2.2.2.2.2.2.2.2.2.2.1))).trans (hHeld.2.2.2.2.2.2.2.2.2.2.2.2.2.1)
                                    have HS14_ := (hb.cell (World.block_lt_of_cell? _ _ (hHeld.2.2.2.2.2.2.2.2.2.2.2.2.2.2.1))).trans (hHeld.2.2.2.2.2.2.2.2.2.2.2.2.2.2.1)
                                    have HS15_ := (hb.cell (World.block_lt_of_cell? _ _ (hHeld.2.2.2.2.2.2.2.2.2.2.2.2.2.2.2))).trans (hHeld.2.2.2.2.2.2.2.2.2.2.2.2.2.2.2)
                                    refine ⟨_, rfl, ?_⟩
                                    have n0_ := Aside0.mk (Kd.R_below (by (with_reducible repeat (first | apply Kd.R_alloc | apply Kd.R_drewN | apply Kd.R_drew)); exact HO129.out) hb)
                                    have n1_ := Aside0.mk (Kd.R_below (by (with_reducible repeat (first | apply Kd.R_alloc | apply Kd.R_drewN | apply Kd.R_drew)); exact HO145.out) hb)
                                    have n2_ := Aside0.mk (Kd.R_below (by (with_reducible repeat (first | apply Kd.R_alloc | apply Kd.R_drewN | apply Kd.R_drew)); exact HO153.out) hb)
                                    have n3_ := Aside0.mk (blk_below (g := gb135) (o := .cells #[.int .i64 t133, .int .i64 t134] 23 (0, 0)) (by (with_reducible repeat (first | refine blk_drewN ?_ _ | refine blk_drew ?_ | refine blk_alloc ?_ _)); exact BK135.out) hb)
                                    have n4_ := Aside0.mk (blk_below (g := gb142) (o := .cells #[.int .i64 t139, .int .i64 t140] 23 (0, 0)) (by (with_reducible repeat (first | refine blk_drewN ?_ _ | refine blk_drew ?_ | refine blk_alloc ?_ _)); exact BK142.out) hb)
                                    have n5_ := Aside0.mk (blk_below (g := gb150) (o := .cells #[.int .i64 t147, .int .i64 t148] 23 (0, 0)) (by (with_reducible repeat (first | refine blk_drewN ?_ _ | refine blk_drew ?_ | refine blk_alloc ?_ _)); exact BK150.out) hb)
                                    have n6_ := Aside0.mk (blk_below (g := gb159) (o := .cells #[.int .i64 t157, .int .i64 t158] 23 (0, 0)) (by (with_reducible repeat (first | refine blk_drewN ?_ _ | refine blk_drew ?_ | refine blk_alloc ?_ _)); exact BK159.out) hb)
                                    have n7_ := Aside0.mk (below_step (by repeat (first | (with_reducible first | exact HB.out | apply below_alloc | apply pw_below_drewN | apply below_drew1 | refine below_set ?_ GE135.out | refine below_set ?_ GE142.out | refine below_set ?_ GE150.out | refine below_set ?_ GE159.out) | exact HB.out)) hb)
                                    clear HO129
                                    clear HO145
                                    clear HO153
                                    clear BK135
                                    clear BK142
                                    clear BK150
                                    clear BK159
                                    clear HB
                                    have HO129 := n0_
                                    have HO145 := n1_
                                    have HO153 := n2_
                                    have BK135 := n3_
                                    have BK142 := n4_
                                    have BK150 := n5_
                                    have BK159 := n6_
                                    have HB := n7_
                                    clear n0_ n1_ n2_ n3_ n4_ n5_ n6_ n7_
                                    (try clear hb)
                                    (try clear hb2)
                                    (try clear hk)
                                    (try clear hi)
                                    refine hK.out _ _ ⟨(blk_cell BK135.out 0).trans rfl, (blk_cell BK135.out 1).trans rfl, (blk_cell BK142.out 0).trans rfl, (blk_cell BK142.out 1).trans rfl, (blk_cell BK150.out 0).trans rfl, (blk_cell BK150.out 1).trans rfl, (blk_cell BK159.out 0).trans rfl, (blk_cell BK159.out 1).trans rfl, HS8_, HS9_, HS10_, HS11_, HS12_, HS13_, HS14_, HS15_⟩ (fun hHeld => ?_)
                                    clear hK K
                                    refine norm_ (a' := ?_) ?_ ?_
                                    rotate_left
                                    · show Act.put _ (some 54) _ = _
                                      simp only [Act.put, List.setIfInBounds_toArray, List.set_cons_zero, List.set_cons_succ, i64_w, i32_w]
                                      rfl
                                    refine pure_ (i := 5) (N := some 55) (v := ?_) (a' := ?_) #[true, true, true, true, true, true, false, false, false, false, false, false, false, false, false, false, false, false, false, false, false, false, false, false, false, false, false, false, false, false, false, false, false, false, false, false, false, false, false, false, false, false, false, false, false, false, false, false, false, false, false, false, false, false, false, false, false, false, false, false, false, false, false, false, false, false, false, false, false, false, false, false, false, false, false, false, false, false, false, false] rfl rfl (any_of HT_.out (by kernel_rfl)) (fun _ _ _ h => h) (Or.inl ⟨by rfl, ?_⟩) ?_ ?_
                                    rotate_left
                                    · intro w'
                                      go_simp
                                      with_reducible rfl
                                    rotate_left
                                    · simp only [Act.put, List.setIfInBounds_toArray, List.set_cons_zero, List.set_cons_succ, i64_w, i32_w]
                                      rfl
                                    refine pure_ (i := 6) (N := some 56) (v := ?_) (a' := ?_) #[true, true, true, true, true, true, true, false, false, false, false, false, false, false, false, false, false, false, false, false, false, false, false, false, false, false, false, false, false, false, false, false, false, false, false, false, false, false, false, false, false, false, false, false, false, false, false, false, false, false, false, false, false, false, false, false, false, false, false, false, false, false, false, false, false, false, false, false, false, false, false, false, false, false, false, false, false, false, false, false] rfl rfl (any_of HT_.out (by kernel_rfl)) (fun _ _ _ h => h) (Or.inl ⟨by rfl, ?_⟩) ?_ ?_
                                    rotate_left
                                    · intro w'
                                      go_simp
                                      with_reducible rfl
                                    rotate_left
                                    · simp only [Act.put, List.setIfInBounds_toArray, List.set_cons_zero, List.set_cons_succ, i64_w, i32_w]
                                      rfl
                                    refine pure_ (i := 7) (N := some 57) (v := ?_) (a' := ?_) #[true, true, true, true, true, true, true, true, false, false, false, false, false, false, false, false, false, false, false, false, false, false, false, false, false, false, false, false, false, false, false, false, false, false, false, false, false, false, false, false, false, false, false, false, false, false, false, false, false, false, false, false, false, false, false, false, false, false, false, false, false, false, false, false, false, false, false, false, false, false, false, false, false, false, false, false, false, false, false, false] rfl rfl (any_of HT_.out (by kernel_rfl)) (fun _ _ _ h => h) (Or.inl ⟨by rfl, ?_⟩) ?_ ?_
                                    rotate_left
                                    · intro w'
                                      go_simp
                                      with_reducible rfl
                                    rotate_left
                                    · simp only [Act.put, List.setIfInBounds_toArray, List.set_cons_zero, List.set_cons_succ, i64_w, i32_w]
                                      rfl
                                    refine pure_ (i := 8) (N := some 58) (v := ?_) (a' := ?_) #[true, true, true, true, true, true, true, true, true, false, false, false, false, false, false, false, false, false, false, false, false, false, false, false, false, false, false, false, false, false, false, false, false, false, false, false, false, false, false, false, false, false, false, false, false, false, false, false, false, false, false, false, false, false, false, false, false, false, false, false, false, false, false, false, false, false, false, false, false, false, false, false, false, false, false, false, false, false, false, false] rfl rfl (any_of HT_.out (by kernel_rfl)) (fun _ _ _ h => h) (Or.inl ⟨by rfl, ?_⟩) ?_ ?_
                                    rotate_left
                                    · intro w'
                                      go_simp
                                      with_reducible rfl
                                    rotate_left
                                    · simp only [Act.put, List.setIfInBounds_toArray, List.set_cons_zero, List.set_cons_succ, i64_w, i32_w]
                                      rfl
                                    refine pure_ (i := 9) (N := some 59) (v := ?_) (a' := ?_) #[true, true, true, true, true, true, true, true, true, true, false, false, false, false, false, false, false, false, false, false, false, false, false, false, false, false, false, false, false, false, false, false, false, false, false, false, false, false, false, false, false, false, false, false, false, false, false, false, false, false, false, false, false, false, false, false, false, false, false, false, false, false, false, false, false, false, false, false, false, false, false, false, false, false, false, false, false, false, false, false] rfl rfl (any_of HT_.out (by kernel_rfl)) (fun _ _ _ h => h) (Or.inl ⟨by rfl, ?_⟩) ?_ ?_
                                    rotate_left
                                    · intro w'
                                      go_simp
                                      with_reducible rfl
                                    rotate_left
                                    · simp only [Act.put, List.setIfInBounds_toArray, List.set_cons_zero, List.set_cons_succ, i64_w, i32_w]
                                      rfl
                                    refine pure_ (i := 10) (N := some 60) (v := ?_) (a' := ?_) #[true, true, true, true, true, true, true, true, true, true, true, false, false, false, false, false, false, false, false, false, false, false, false, false, false, false, false, false, false, false, false, false, false, false, false, false, false, false, false, false, false, false, false, false, false, false, false, false, false, false, false, false, false, false, false, false, false, false, false, false, false, false, false, false, false, false, false, false, false, false, false, false, false, false, false, false, false, false, false, false] rfl rfl (any_of HT_.out (by kernel_rfl)) (fun _ _ _ h => h) (Or.inl ⟨by rfl, ?_⟩) ?_ ?_
                                    rotate_left
                                    · intro w'
                                      go_simp
                                      with_reducible rfl
                                    rotate_left
                                    · simp only [Act.put, List.setIfInBounds_toArray, List.set_cons_zero, List.set_cons_succ, i64_w, i32_w]
                                      rfl
                                    refine pure_ (i := 11) (N := some 61) (v := ?_) (a' := ?_) #[true, true, true, true, true, true, true, true, true, true, true, true, false, false, false, false, false, false, false, false, false, false, false, false, false, false, false, false, false, false, false, false, false, false, false, false, false, false, false, false, false, false, false, false, false, false, false, false, false, false, false, false, false, false, false, false, false, false, false, false, false, false, false, false, false, false, false, false, false, false, false, false, false, false, false, false, false, false, false, false] rfl rfl (any_of HT_.out (by kernel_rfl)) (fun _ _ _ h => h) (Or.inl ⟨by rfl, ?_⟩) ?_ ?_
                                    rotate_left
                                    · intro w'
                                      go_simp
                                      with_reducible rfl
                                    rotate_left
                                    · simp only [Act.put, List.setIfInBounds_toArray, List.set_cons_zero, List.set_cons_succ, i64_w, i32_w]
                                      rfl
                                    refine pure_ (i := 12) (N := some 62) (v := ?_) (a' := ?_) #[true, true, true, true, true, true, true, true, true, true, true, true, true, false, false, false, false, false, false, false, false, false, false, false, false, false, false, false, false, false, false, false, false, false, false, false, false, false, false, false, false, false, false, false, false, false, false, false, false, false, false, false, false, false, false, false, false, false, false, false, false, false, false, false, false, false, false, false, false, false, false, false, false, false, false, false, false, false, false, false] rfl rfl (any_of HT_.out (by kernel_rfl)) (fun _ _ _ h => h) (Or.inl ⟨by rfl, ?_⟩) ?_ ?_
                                    rotate_left
                                    · intro w'
                                      go_simp
                                      with_reducible rfl
                                    rotate_left
                                    · simp only [Act.put, List.setIfInBounds_toArray, List.set_cons_zero, List.set_cons_succ, i64_w, i32_w]
                                      rfl
                                    refine pure_ (i := 13) (N := some 63) (v := ?_) (a' := ?_) #[true, true, true, true, true, true, true, true, true, true, true, true, true, true, false, false, false, false, false, false, false, false, false, false, false, false, false, false, false, false, false, false, false, false, false, false, false, false, false, false, false, false, false, false, false, false, false, false, false, false, false, false, false, false, false, false, false, false, false, false, false, false, false, false, false, false, false, false, false, false, false, false, false, false, false, false, false, false, false, false] rfl rfl (any_of HT_.out (by kernel_rfl)) (fun _ _ _ h => h) (Or.inl ⟨by rfl, ?_⟩) ?_ ?_
                                    rotate_left
                                    · intro w'
                                      go_simp
                                      with_reducible rfl
                                    rotate_left
                                    · simp only [Act.put, List.setIfInBounds_toArray, List.set_cons_zero, List.set_cons_succ, i64_w, i32_w]
                                      rfl
                                    refine pure_ (i := 14) (N := some 64) (v := ?_) (a' := ?_) #[true, true, true, true, true, true, true, true, true, true, true, true, true, true, true, false, false, false, false, false, false, false, false, false, false, false, false, false, false, false, false, false, false, false, false, false, false, false, false, false, false, false, false, false, false, false, false, false, false, false, false, false, false, false, false, false, false, false, false, false, false, false, false, false, false, false, false, false, false, false, false, false, false, false, false, false, false, false, false, false] rfl rfl (any_of HT_.out (by kernel_rfl)) (fun _ _ _ h => h) (Or.inl ⟨by rfl, ?_⟩) ?_ ?_
                                    rotate_left
                                    · intro w'
                                      go_simp
                                      with_reducible rfl
                                    rotate_left
                                    · simp only [Act.put, List.setIfInBounds_toArray, List.set_cons_zero, List.set_cons_succ, i64_w, i32_w]
                                      rfl
                                    refine pure_ (i := 15) (N := some 65) (v := ?_) (a' := ?_) #[true, true, true, true, true, true, true, true, true, true, true, true, true, true, true, true, false, false, false, false, false, false, false, false, false, false, false, false, false, false, false, false, false, false, false, false, false, false, false, false, false, false, false, false, false, false, false, false, false, false, false, false, false, false, false, false, false, false, false, false, false, false, false, false, false, false, false, false, false, false, false, false, false, false, false, false, false, false, false, false] rfl rfl (any_of HT_.out (by kernel_rfl)) (fun _ _ _ h => h) (Or.inl ⟨by rfl, ?_⟩) ?_ ?_
                                    rotate_left
                                    · intro w'
                                      go_simp
                                      with_reducible rfl
                                    rotate_left
                                    · simp only [Act.put, List.setIfInBounds_toArray, List.set_cons_zero, List.set_cons_succ, i64_w, i32_w]
                                      rfl
                                    refine take_ (i := 16) (N := some 66) (v := ?_) (a' := ?_) #[true, true, true, true, true, true, true, true, true, true, true, true, true, true, true, true, true, false, false, false, false, false, false, false, false, false, false, false, false, false, false, false, false, false, false, false, false, false, false, false, false, false, false, false, false, false, false, false, false, false, false, false, false, false, false, false, false, false, false, false, false, false, false, false, false, false, false, false, false, false, false, false, false, false, false, false, false, false, false, false] rfl rfl (take_ofW HT_.out HW_.out (by kernel_rfl)) (fun _ _ _ h => h) (Or.inl ⟨by rfl, ?_⟩) hHeld ?_ ?_
                                    rotate_left
                                    · rintro w' ⟨s0, s1, s2, s3, s4, s5, s6, s7, s8, s9, s10, s11, s12, s13, s14, s15⟩
                                      go_simp
                                      with_reducible rfl
                                    rotate_left
                                    · simp only [Act.put, List.setIfInBounds_toArray, List.set_cons_zero, List.set_cons_succ, i64_w, i32_w]
                                      rfl
                                    refine one_ (i := 17) (N := some 67) #[true, true, true, true, true, true, true, true, true, true, true, true, true, true, true, true, true, true, false, false, false, false, false, false, false, false, false, false, false, false, false, false, false, false, false, false, false, false, false, false, false, false, false, false, false, false, false, false, false, false, false, false, false, false, false, false, false, false, false, false, false, false, false, false, false, false, false, false, false, false, false, false, false, false, false, false, false, false, false, false] rfl rfl (one_of HT_.out (by kernel_rfl)) (by decide) (fun K hK => ?_)
                                    refine goes_ Try.func29 (by kernel_rfl) rfl #[.int .i64 19000] (by rfl) rfl rfl (by (try simp only [List.map_toArray, List.map_cons, List.map_nil]); first | done | rfl | (simp only [List.length_drop, List.length_take]; rfl)) ?_
                                    with_reducible refine (plenumlaw13_analog.calls 19000 t162 t163 _ A17.out).mono ?_
                                    rintro e w70 ⟨rfl, hb⟩
                                    have HS8_ := (hb.cell (World.block_lt_of_cell? _ _ (hHeld.2.2.2.2.2.2.2.2.1))).trans (hHeld.2.2.2.2.2.2.2.2.1)
                                    have HS9_ := (hb.cell (World.block_lt_of_cell? _ _ (hHeld.2.2.2.2.2.2.2.2.2.1))).trans (hHeld.2.2.2.2.2.2.2.2.2.1)
                                    have HS10_ := (hb.cell (World.block_lt_of_cell? _ _ (hHeld.2.2.2.2.2.2.2.2.2.2.1))).trans (hHeld.2.2.2.2.2.2.2.2.2.2.1)
                                    have HS11_ := (hb.cell (World.block_lt_of_cell? _ _ (hHeld.2.2.2.2.2.2.2.2.2.2.2.1))).trans (hHeld.2.2.2.2.2.2.2.2.2.2.2.1)
                                    have HS12_ := (hb.cell (World.block_lt_of_cell? _ _ (hHeld.2.2.2.2.2.2.2.2.2.2.2.2.1))).trans (hHeld.2.2.2.2.2.2.2.2.2.2.2.2.1)
                                    have HS13_ := (hb.cell (World.block_lt_of_cell? _ _ (hHeld.2.2.2.2.2.2.2.2.2.2.2.2.2.1))).trans (hHeld.2.2.2.2.2.2.2.2.2.2.2.2.2.1)
                                    have HS14_ := (hb.cell (World.block_lt_of_cell? _ _ (hHeld.2.2.2.2.2.2.2.2.2.2.2.2.2.2.1))).trans (hHeld.2.2.2.2.2.2.2.2.2.2.2.2.2.2.1)
                                    have HS15_ := (hb.cell (World.block_lt_of_cell? _ _ (hHeld.2.2.2.2.2.2.2.2.2.2.2.2.2.2.2))).trans (hHeld.2.2.2.2.2.2.2.2.2.2.2.2.2.2.2)
                                    refine ⟨_, rfl, ?_⟩
                                    have n0_ := Aside0.mk (Kd.R_below (by (with_reducible repeat (first | apply Kd.R_alloc | apply Kd.R_drewN | apply Kd.R_drew)); exact HO129.out) hb)
                                    have n1_ := Aside0.mk (Kd.R_below (by (with_reducible repeat (first | apply Kd.R_alloc | apply Kd.R_drewN | apply Kd.R_drew)); exact HO145.out) hb)
                                    have n2_ := Aside0.mk (Kd.R_below (by (with_reducible repeat (first | apply Kd.R_alloc | apply Kd.R_drewN | apply Kd.R_drew)); exact HO153.out) hb)
                                    have n3_ := Aside0.mk (blk_below (g := gb135) (o := .cells #[.int .i64 t133, .int .i64 t134] 23 (0, 0)) (by (with_reducible repeat (first | refine blk_drewN ?_ _ | refine blk_drew ?_ | refine blk_alloc ?_ _)); exact BK135.out) hb)
                                    have n4_ := Aside0.mk (blk_below (g := gb142) (o := .cells #[.int .i64 t139, .int .i64 t140] 23 (0, 0)) (by (with_reducible repeat (first | refine blk_drewN ?_ _ | refine blk_drew ?_ | refine blk_alloc ?_ _)); exact BK142.out) hb)
                                    have n5_ := Aside0.mk (blk_below (g := gb150) (o := .cells #[.int .i64 t147, .int .i64 t148] 23 (0, 0)) (by (with_reducible repeat (first | refine blk_drewN ?_ _ | refine blk_drew ?_ | refine blk_alloc ?_ _)); exact BK150.out) hb)
                                    have n6_ := Aside0.mk (blk_below (g := gb159) (o := .cells #[.int .i64 t157, .int .i64 t158] 23 (0, 0)) (by (with_reducible repeat (first | refine blk_drewN ?_ _ | refine blk_drew ?_ | refine blk_alloc ?_ _)); exact BK159.out) hb)
                                    have n7_ := Aside0.mk (below_step (by repeat (first | (with_reducible first | exact HB.out | apply below_alloc | apply pw_below_drewN | apply below_drew1 | refine below_set ?_ GE135.out | refine below_set ?_ GE142.out | refine below_set ?_ GE150.out | refine below_set ?_ GE159.out) | exact HB.out)) hb)
                                    clear HO129
                                    clear HO145
                                    clear HO153
                                    clear BK135
                                    clear BK142
                                    clear BK150
                                    clear BK159
                                    clear HB
                                    have HO129 := n0_
                                    have HO145 := n1_
                                    have HO153 := n2_
                                    have BK135 := n3_
                                    have BK142 := n4_
                                    have BK150 := n5_
                                    have BK159 := n6_
                                    have HB := n7_
                                    clear n0_ n1_ n2_ n3_ n4_ n5_ n6_ n7_
                                    (try clear hb)
                                    (try clear hb2)
                                    (try clear hk)
                                    (try clear hi)
                                    refine hK.out _ _ ⟨(blk_cell BK135.out 0).trans rfl, (blk_cell BK135.out 1).trans rfl, (blk_cell BK142.out 0).trans rfl, (blk_cell BK142.out 1).trans rfl, (blk_cell BK150.out 0).trans rfl, (blk_cell BK150.out 1).trans rfl, (blk_cell BK159.out 0).trans rfl, (blk_cell BK159.out 1).trans rfl, HS8_, HS9_, HS10_, HS11_, HS12_, HS13_, HS14_, HS15_⟩ (fun hHeld => ?_)
                                    clear hK K
                                    refine norm_ (a' := ?_) ?_ ?_
                                    rotate_left
                                    · show Act.put _ (some 67) _ = _
                                      simp only [Act.put, List.setIfInBounds_toArray, List.set_cons_zero, List.set_cons_succ, i64_w, i32_w]
                                      rfl
                                    refine pure_ (i := 18) (N := some 68) (v := ?_) (a' := ?_) #[true, true, true, true, true, true, true, true, true, true, true, true, true, true, true, true, true, true, true, false, false, false, false, false, false, false, false, false, false, false, false, false, false, false, false, false, false, false, false, false, false, false, false, false, false, false, false, false, false, false, false, false, false, false, false, false, false, false, false, false, false, false, false, false, false, false, false, false, false, false, false, false, false, false, false, false, false, false, false, false] rfl rfl (any_of HT_.out (by kernel_rfl)) (fun _ _ _ h => h) (Or.inl ⟨by rfl, ?_⟩) ?_ ?_
                                    rotate_left
                                    · intro w'
                                      go_simp
                                      with_reducible rfl
                                    rotate_left
                                    · simp only [Act.put, List.setIfInBounds_toArray, List.set_cons_zero, List.set_cons_succ, i64_w, i32_w]
                                      rfl
                                    refine pure_ (i := 19) (N := some 69) (v := ?_) (a' := ?_) #[true, true, true, true, true, true, true, true, true, true, true, true, true, true, true, true, true, true, true, true, false, false, false, false, false, false, false, false, false, false, false, false, false, false, false, false, false, false, false, false, false, false, false, false, false, false, false, false, false, false, false, false, false, false, false, false, false, false, false, false, false, false, false, false, false, false, false, false, false, false, false, false, false, false, false, false, false, false, false, false] rfl rfl (any_of HT_.out (by kernel_rfl)) (fun _ _ _ h => h) (Or.inl ⟨by rfl, ?_⟩) ?_ ?_
                                    rotate_left
                                    · intro w'
                                      go_simp
                                      with_reducible rfl
                                    rotate_left
                                    · simp only [Act.put, List.setIfInBounds_toArray, List.set_cons_zero, List.set_cons_succ, i64_w, i32_w]
                                      rfl
                                    refine pure_ (i := 20) (N := some 70) (v := ?_) (a' := ?_) #[true, true, true, true, true, true, true, true, true, true, true, true, true, true, true, true, true, true, true, true, true, false, false, false, false, false, false, false, false, false, false, false, false, false, false, false, false, false, false, false, false, false, false, false, false, false, false, false, false, false, false, false, false, false, false, false, false, false, false, false, false, false, false, false, false, false, false, false, false, false, false, false, false, false, false, false, false, false, false, false] rfl rfl (any_of HT_.out (by kernel_rfl)) (fun _ _ _ h => h) (Or.inl ⟨by rfl, ?_⟩) ?_ ?_
                                    rotate_left
                                    · intro w'
                                      go_simp
                                      with_reducible rfl
                                    rotate_left
                                    · simp only [Act.put, List.setIfInBounds_toArray, List.set_cons_zero, List.set_cons_succ, i64_w, i32_w]
                                      rfl
                                    refine pure_ (i := 21) (N := some 71) (v := ?_) (a' := ?_) #[true, true, true, true, true, true, true, true, true, true, true, true, true, true, true, true, true, true, true, true, true, true, false, false, false, false, false, false, false, false, false, false, false, false, false, false, false, false, false, false, false, false, false, false, false, false, false, false, false, false, false, false, false, false, false, false, false, false, false, false, false, false, false, false, false, false, false, false, false, false, false, false, false, false, false, false, false, false, false, false] rfl rfl (any_of HT_.out (by kernel_rfl)) (fun _ _ _ h => h) (Or.inl ⟨by rfl, ?_⟩) ?_ ?_
                                    rotate_left
                                    · intro w'
                                      go_simp
                                      with_reducible rfl
                                    rotate_left
                                    · simp only [Act.put, List.setIfInBounds_toArray, List.set_cons_zero, List.set_cons_succ, i64_w, i32_w]
                                      rfl
                                    refine pure_ (i := 22) (N := some 72) (v := ?_) (a' := ?_) #[true, true, true, true, true, true, true, true, true, true, true, true, true, true, true, true, true, true, true, true, true, true, true, false, false, false, false, false, false, false, false, false, false, false, false, false, false, false, false, false, false, false, false, false, false, false, false, false, false, false, false, false, false, false, false, false, false, false, false, false, false, false, false, false, false, false, false, false, false, false, false, false, false, false, false, false, false, false, false, false] rfl rfl (any_of HT_.out (by kernel_rfl)) (fun _ _ _ h => h) (Or.inl ⟨by rfl, ?_⟩) ?_ ?_
                                    rotate_left
                                    · intro w'
                                      go_simp
                                      with_reducible rfl
                                    rotate_left
                                    · simp only [Act.put, List.setIfInBounds_toArray, List.set_cons_zero, List.set_cons_succ, i64_w, i32_w]
                                      rfl
                                    refine pure_ (i := 23) (N := some 73) (v := ?_) (a' := ?_) #[true, true, true, true, true, true, true, true, true, true, true, true, true, true, true, true, true, true, true, true, true, true, true, true, false, false, false, false, false, false, false, false, false, false, false, false, false, false, false, false, false, false, false, false, false, false, false, false, false, false, false, false, false, false, false, false, false, false, false, false, false, false, false, false, false, false, false, false, false, false, false, false, false, false, false, false, false, false, false, false] rfl rfl (any_of HT_.out (by kernel_rfl)) (fun _ _ _ h => h) (Or.inl ⟨by rfl, ?_⟩) ?_ ?_
                                    rotate_left
                                    · intro w'
                                      go_simp
                                      with_reducible rfl
                                    rotate_left
                                    · simp only [Act.put, List.setIfInBounds_toArray, List.set_cons_zero, List.set_cons_succ, i64_w, i32_w]
                                      rfl
                                    refine pure_ (i := 24) (N := some 74) (v := ?_) (a' := ?_) #[true, true, true, true, true, true, true, true, true, true, true, true, true, true, true, true, true, true, true, true, true, true, true, true, true, false, false, false, false, false, false, false, false, false, false, false, false, false, false, false, false, false, false, false, false, false, false, false, false, false, false, false, false, false, false, false, false, false, false, false, false, false, false, false, false, false, false, false, false, false, false, false, false, false, false, false, false, false, false, false] rfl rfl (any_of HT_.out (by kernel_rfl)) (fun _ _ _ h => h) (Or.inl ⟨by rfl, ?_⟩) ?_ ?_
                                    rotate_left
                                    · intro w'
                                      go_simp
                                      with_reducible rfl
                                    rotate_left
                                    · simp only [Act.put, List.setIfInBounds_toArray, List.set_cons_zero, List.set_cons_succ, i64_w, i32_w]
                                      rfl
                                    refine pure_ (i := 25) (N := some 75) (v := ?_) (a' := ?_) #[true, true, true, true, true, true, true, true, true, true, true, true, true, true, true, true, true, true, true, true, true, true, true, true, true, true, false, false, false, false, false, false, false, false, false, false, false, false, false, false, false, false, false, false, false, false, false, false, false, false, false, false, false, false, false, false, false, false, false, false, false, false, false, false, false, false, false, false, false, false, false, false, false, false, false, false, false, false, false, false] rfl rfl (any_of HT_.out (by kernel_rfl)) (fun _ _ _ h => h) (Or.inl ⟨by rfl, ?_⟩) ?_ ?_
                                    rotate_left
                                    · intro w'
                                      go_simp
                                      with_reducible rfl
                                    rotate_left
                                    · simp only [Act.put, List.setIfInBounds_toArray, List.set_cons_zero, List.set_cons_succ, i64_w, i32_w]
                                      rfl
                                    refine pure_ (i := 26) (N := some 76) (v := ?_) (a' := ?_) #[true, true, true, true, true, true, true, true, true, true, true, true, true, true, true, true, true, true, true, true, true, true, true, true, true, true, true, false, false, false, false, false, false, false, false, false, false, false, false, false, false, false, false, false, false, false, false, false, false, false, false, false, false, false, false, false, false, false, false, false, false, false, false, false, false, false, false, false, false, false, false, false, false, false, false, false, false, false, false, false] rfl rfl (any_of HT_.out (by kernel_rfl)) (fun _ _ _ h => h) (Or.inl ⟨by rfl, ?_⟩) ?_ ?_
                                    rotate_left
                                    · intro w'
                                      go_simp
                                      with_reducible rfl
                                    rotate_left
                                    · simp only [Act.put, List.setIfInBounds_toArray, List.set_cons_zero, List.set_cons_succ, i64_w, i32_w]
                                      rfl
                                    refine pure_ (i := 27) (N := some 77) (v := ?_) (a' := ?_) #[true, true, true, true, true, true, true, true, true, true, true, true, true, true, true, true, true, true, true, true, true, true, true, true, true, true, true, true, false, false, false, false, false, false, false, false, false, false, false, false, false, false, false, false, false, false, false, false, false, false, false, false, false, false, false, false, false, false, false, false, false, false, false, false, false, false, false, false, false, false, false, false, false, false, false, false, false, false, false, false] rfl rfl (any_of HT_.out (by kernel_rfl)) (fun _ _ _ h => h) (Or.inl ⟨by rfl, ?_⟩) ?_ ?_
                                    rotate_left
                                    · intro w'
                                      go_simp
                                      with_reducible rfl
                                    rotate_left
                                    · simp only [Act.put, List.setIfInBounds_toArray, List.set_cons_zero, List.set_cons_succ, i64_w, i32_w]
                                      rfl
                                    refine pure_ (i := 28) (N := some 78) (v := ?_) (a' := ?_) #[true, true, true, true, true, true, true, true, true, true, true, true, true, true, true, true, true, true, true, true, true, true, true, true, true, true, true, true, true, false, false, false, false, false, false, false, false, false, false, false, false, false, false, false, false, false, false, false, false, false, false, false, false, false, false, false, false, false, false, false, false, false, false, false, false, false, false, false, false, false, false, false, false, false, false, false, false, false, false, false] rfl rfl (any_of HT_.out (by kernel_rfl)) (fun _ _ _ h => h) (Or.inl ⟨by rfl, ?_⟩) ?_ ?_
                                    rotate_left
                                    · intro w'
                                      go_simp
                                      with_reducible rfl
                                    rotate_left
                                    · simp only [Act.put, List.setIfInBounds_toArray, List.set_cons_zero, List.set_cons_succ, i64_w, i32_w]
                                      rfl
                                    refine pure_ (i := 29) (N := some 79) (v := ?_) (a' := ?_) #[true, true, true, true, true, true, true, true, true, true, true, true, true, true, true, true, true, true, true, true, true, true, true, true, true, true, true, true, true, true, false, false, false, false, false, false, false, false, false, false, false, false, false, false, false, false, false, false, false, false, false, false, false, false, false, false, false, false, false, false, false, false, false, false, false, false, false, false, false, false, false, false, false, false, false, false, false, false, false, false] rfl rfl (any_of HT_.out (by kernel_rfl)) (fun _ _ _ h => h) (Or.inl ⟨by rfl, ?_⟩) ?_ ?_
                                    rotate_left
                                    · intro w'
                                      go_simp
                                      with_reducible rfl
                                    rotate_left
                                    · simp only [Act.put, List.setIfInBounds_toArray, List.set_cons_zero, List.set_cons_succ, i64_w, i32_w]
                                      rfl
                                    refine pure_ (i := 30) (N := some 80) (v := ?_) (a' := ?_) #[true, true, true, true, true, true, true, true, true, true, true, true, true, true, true, true, true, true, true, true, true, true, true, true, true, true, true, true, true, true, true, false, false, false, false, false, false, false, false, false, false, false, false, false, false, false, false, false, false, false, false, false, false, false, false, false, false, false, false, false, false, false, false, false, false, false, false, false, false, false, false, false, false, false, false, false, false, false, false, false] rfl rfl (any_of HT_.out (by kernel_rfl)) (fun _ _ _ h => h) (Or.inl ⟨by rfl, ?_⟩) ?_ ?_
                                    rotate_left
                                    · intro w'
                                      go_simp
                                      with_reducible rfl
                                    rotate_left
                                    · simp only [Act.put, List.setIfInBounds_toArray, List.set_cons_zero, List.set_cons_succ, i64_w, i32_w]
                                      rfl
                                    refine pure_ (i := 31) (N := some 81) (v := ?_) (a' := ?_) #[true, true, true, true, true, true, true, true, true, true, true, true, true, true, true, true, true, true, true, true, true, true, true, true, true, true, true, true, true, true, true, true, false, false, false, false, false, false, false, false, false, false, false, false, false, false, false, false, false, false, false, false, false, false, false, false, false, false, false, false, false, false, false, false, false, false, false, false, false, false, false, false, false, false, false, false, false, false, false, false] rfl rfl (any_of HT_.out (by kernel_rfl)) (fun _ _ _ h => h) (Or.inl ⟨by rfl, ?_⟩) ?_ ?_
                                    rotate_left
                                    · intro w'
                                      go_simp
                                      with_reducible rfl
                                    rotate_left
                                    · simp only [Act.put, List.setIfInBounds_toArray, List.set_cons_zero, List.set_cons_succ, i64_w, i32_w]
                                      rfl
                                    refine pure_ (i := 32) (N := some 82) (v := ?_) (a' := ?_) #[true, true, true, true, true, true, true, true, true, true, true, true, true, true, true, true, true, true, true, true, true, true, true, true, true, true, true, true, true, true, true, true, true, false, false, false, false, false, false, false, false, false, false, false, false, false, false, false, false, false, false, false, false, false, false, false, false, false, false, false, false, false, false, false, false, false, false, false, false, false, false, false, false, false, false, false, false, false, false, false] rfl rfl (any_of HT_.out (by kernel_rfl)) (fun _ _ _ h => h) (Or.inl ⟨by rfl, ?_⟩) ?_ ?_
                                    rotate_left
                                    · intro w'
                                      go_simp
                                      with_reducible rfl
                                    rotate_left
                                    · simp only [Act.put, List.setIfInBounds_toArray, List.set_cons_zero, List.set_cons_succ, i64_w, i32_w]
                                      rfl
                                    refine take_ (i := 33) (N := some 83) (v := ?_) (a' := ?_) #[true, true, true, true, true, true, true, true, true, true, true, true, true, true, true, true, true, true, true, true, true, true, true, true, true, true, true, true, true, true, true, true, true, true, false, false, false, false, false, false, false, false, false, false, false, false, false, false, false, false, false, false, false, false, false, false, false, false, false, false, false, false, false, false, false, false, false, false, false, false, false, false, false, false, false, false, false, false, false, false] rfl rfl (take_ofW HT_.out HW_.out (by kernel_rfl)) (fun _ _ _ h => h) (Or.inl ⟨by rfl, ?_⟩) hHeld ?_ ?_
                                    rotate_left
                                    · rintro w' ⟨s0, s1, s2, s3, s4, s5, s6, s7, s8, s9, s10, s11, s12, s13, s14, s15⟩
                                      go_simp
                                      with_reducible rfl
                                    rotate_left
                                    · simp only [Act.put, List.setIfInBounds_toArray, List.set_cons_zero, List.set_cons_succ, i64_w, i32_w]
                                      rfl
                                    refine pure_ (i := 34) (N := some 84) (v := ?_) (a' := ?_) #[true, true, true, true, true, true, true, true, true, true, true, true, true, true, true, true, true, true, true, true, true, true, true, true, true, true, true, true, true, true, true, true, true, true, true, false, false, false, false, false, false, false, false, false, false, false, false, false, false, false, false, false, false, false, false, false, false, false, false, false, false, false, false, false, false, false, false, false, false, false, false, false, false, false, false, false, false, false, false, false] rfl rfl (any_of HT_.out (by kernel_rfl)) (fun _ _ _ h => h) (Or.inl ⟨by rfl, ?_⟩) ?_ ?_
                                    rotate_left
                                    · intro w'
                                      go_simp
                                      with_reducible rfl
                                    rotate_left
                                    · simp only [Act.put, List.setIfInBounds_toArray, List.set_cons_zero, List.set_cons_succ, i64_w, i32_w]
                                      rfl
                                    refine pure_ (i := 35) (N := some 85) (v := ?_) (a' := ?_) #[true, true, true, true, true, true, true, true, true, true, true, true, true, true, true, true, true, true, true, true, true, true, true, true, true, true, true, true, true, true, true, true, true, true, true, true, false, false, false, false, false, false, false, false, false, false, false, false, false, false, false, false, false, false, false, false, false, false, false, false, false, false, false, false, false, false, false, false, false, false, false, false, false, false, false, false, false, false, false, false] rfl rfl (any_of HT_.out (by kernel_rfl)) (fun _ _ _ h => h) (Or.inl ⟨by rfl, ?_⟩) ?_ ?_
                                    rotate_left
                                    · intro w'
                                      go_simp
                                      with_reducible rfl
                                    rotate_left
                                    · simp only [Act.put, List.setIfInBounds_toArray, List.set_cons_zero, List.set_cons_succ, i64_w, i32_w]
                                      rfl
                                    refine pure_ (i := 36) (N := some 86) (v := ?_) (a' := ?_) #[true, true, true, true, true, true, true, true, true, true, true, true, true, true, true, true, true, true, true, true, true, true, true, true, true, true, true, true, true, true, true, true, true, true, true, true, true, false, false, false, false, false, false, false, false, false, false, false, false, false, false, false, false, false, false, false, false, false, false, false, false, false, false, false, false, false, false, false, false, false, false, false, false, false, false, false, false, false, false, false] rfl rfl (any_of HT_.out (by kernel_rfl)) (fun _ _ _ h => h) (Or.inl ⟨by rfl, ?_⟩) ?_ ?_
                                    rotate_left
                                    · intro w'
                                      go_simp
                                      with_reducible rfl
                                    rotate_left
                                    · simp only [Act.put, List.setIfInBounds_toArray, List.set_cons_zero, List.set_cons_succ, i64_w, i32_w]
                                      rfl
                                    refine pure_ (i := 37) (N := some 87) (v := ?_) (a' := ?_) #[true, true, true, true, true, true, true, true, true, true, true, true, true, true, true, true, true, true, true, true, true, true, true, true, true, true, true, true, true, true, true, true, true, true, true, true, true, true, false, false, false, false, false, false, false, false, false, false, false, false, false, false, false, false, false, false, false, false, false, false, false, false, false, false, false, false, false, false, false, false, false, false, false, false, false, false, false, false, false, false] rfl rfl (any_of HT_.out (by kernel_rfl)) (fun _ _ _ h => h) (Or.inl ⟨by rfl, ?_⟩) ?_ ?_
                                    rotate_left
                                    · intro w'
                                      go_simp
                                      with_reducible rfl
                                    rotate_left
                                    · simp only [Act.put, List.setIfInBounds_toArray, List.set_cons_zero, List.set_cons_succ, i64_w, i32_w]
                                      rfl
                                    refine pure_ (i := 38) (N := some 88) (v := ?_) (a' := ?_) #[true, true, true, true, true, true, true, true, true, true, true, true, true, true, true, true, true, true, true, true, true, true, true, true, true, true, true, true, true, true, true, true, true, true, true, true, true, true, true, false, false, false, false, false, false, false, false, false, false, false, false, false, false, false, false, false, false, false, false, false, false, false, false, false, false, false, false, false, false, false, false, false, false, false, false, false, false, false, false, false] rfl rfl (any_of HT_.out (by kernel_rfl)) (fun _ _ _ h => h) (Or.inl ⟨by rfl, ?_⟩) ?_ ?_
                                    rotate_left
                                    · intro w'
                                      go_simp
                                      with_reducible rfl
                                    rotate_left
                                    · simp only [Act.put, List.setIfInBounds_toArray, List.set_cons_zero, List.set_cons_succ, i64_w, i32_w]
                                      rfl
                                    refine pure_ (i := 39) (N := some 89) (v := ?_) (a' := ?_) #[true, true, true, true, true, true, true, true, true, true, true, true, true, true, true, true, true, true, true, true, true, true, true, true, true, true, true, true, true, true, true, true, true, true, true, true, true, true, true, true, false, false, false, false, false, false, false, false, false, false, false, false, false, false, false, false, false, false, false, false, false, false, false, false, false, false, false, false, false, false, false, false, false, false, false, false, false, false, false, false] rfl rfl (any_of HT_.out (by kernel_rfl)) (fun _ _ _ h => h) (Or.inl ⟨by rfl, ?_⟩) ?_ ?_
                                    rotate_left
                                    · intro w'
                                      go_simp
                                      with_reducible rfl
                                    rotate_left
                                    · simp only [Act.put, List.setIfInBounds_toArray, List.set_cons_zero, List.set_cons_succ, i64_w, i32_w]
                                      rfl
                                    refine pure_ (i := 40) (N := some 90) (v := ?_) (a' := ?_) #[true, true, true, true, true, true, true, true, true, true, true, true, true, true, true, true, true, true, true, true, true, true, true, true, true, true, true, true, true, true, true, true, true, true, true, true, true, true, true, true, true, false, false, false, false, false, false, false, false, false, false, false, false, false, false, false, false, false, false, false, false, false, false, false, false, false, false, false, false, false, false, false, false, false, false, false, false, false, false, false] rfl rfl (any_of HT_.out (by kernel_rfl)) (fun _ _ _ h => h) (Or.inl ⟨by rfl, ?_⟩) ?_ ?_
                                    rotate_left
                                    · intro w'
                                      go_simp
                                      with_reducible rfl
                                    rotate_left
                                    · simp only [Act.put, List.setIfInBounds_toArray, List.set_cons_zero, List.set_cons_succ, i64_w, i32_w]
                                      rfl
                                    refine take_ (i := 41) (N := some 91) (v := ?_) (a' := ?_) #[true, true, true, true, true, true, true, true, true, true, true, true, true, true, true, true, true, true, true, true, true, true, true, true, true, true, true, true, true, true, true, true, true, true, true, true, true, true, true, true, true, true, false, false, false, false, false, false, false, false, false, false, false, false, false, false, false, false, false, false, false, false, false, false, false, false, false, false, false, false, false, false, false, false, false, false, false, false, false, false] rfl rfl (take_ofW HT_.out HW_.out (by kernel_rfl)) (fun _ _ _ h => h) (Or.inl ⟨by rfl, ?_⟩) hHeld ?_ ?_
                                    rotate_left
                                    · rintro w' ⟨s0, s1, s2, s3, s4, s5, s6, s7, s8, s9, s10, s11, s12, s13, s14, s15⟩
                                      go_simp
                                      with_reducible rfl
                                    rotate_left
                                    · simp only [Act.put, List.setIfInBounds_toArray, List.set_cons_zero, List.set_cons_succ, i64_w, i32_w]
                                      rfl
                                    refine one_ (i := 42) (N := some 92) #[true, true, true, true, true, true, true, true, true, true, true, true, true, true, true, true, true, true, true, true, true, true, true, true, true, true, true, true, true, true, true, true, true, true, true, true, true, true, true, true, true, true, true, false, false, false, false, false, false, false, false, false, false, false, false, false, false, false, false, false, false, false, false, false, false, false, false, false, false, false, false, false, false, false, false, false, false, false, false, false] rfl rfl (one_of HT_.out (by kernel_rfl)) (by decide) (fun K hK => ?_)
                                    refine goes_ Try.func29 (by kernel_rfl) rfl #[.int .i64 19000] (by rfl) rfl rfl (by (try simp only [List.map_toArray, List.map_cons, List.map_nil]); first | done | rfl | (simp only [List.length_drop, List.length_take]; rfl)) ?_
                                    with_reducible refine (plenumlaw13_analog.calls 19000 t165 t166 _ A24.out).mono ?_
                                    rintro e w71 ⟨rfl, hb⟩
                                    have HS8_ := (hb.cell (World.block_lt_of_cell? _ _ (hHeld.2.2.2.2.2.2.2.2.1))).trans (hHeld.2.2.2.2.2.2.2.2.1)
                                    have HS9_ := (hb.cell (World.block_lt_of_cell? _ _ (hHeld.2.2.2.2.2.2.2.2.2.1))).trans (hHeld.2.2.2.2.2.2.2.2.2.1)
                                    have HS10_ := (hb.cell (World.block_lt_of_cell? _ _ (hHeld.2.2.2.2.2.2.2.2.2.2.1))).trans (hHeld.2.2.2.2.2.2.2.2.2.2.1)
                                    have HS11_ := (hb.cell (World.block_lt_of_cell? _ _ (hHeld.2.2.2.2.2.2.2.2.2.2.2.1))).trans (hHeld.2.2.2.2.2.2.2.2.2.2.2.1)
                                    have HS12_ := (hb.cell (World.block_lt_of_cell? _ _ (hHeld.2.2.2.2.2.2.2.2.2.2.2.2.1))).trans (hHeld.2.2.2.2.2.2.2.2.2.2.2.2.1)
                                    have HS13_ := (hb.cell (World.block_lt_of_cell? _ _ (hHeld.2.2.2.2.2.2.2.2.2.2.2.2.2.1))).trans (hHeld.2.2.2.2.2.2.2.2.2.2.2.2.2.1)
                                    have HS14_ := (hb.cell (World.block_lt_of_cell? _ _ (hHeld.2.2.2.2.2.2.2.2.2.2.2.2.2.2.1))).trans (hHeld.2.2.2.2.2.2.2.2.2.2.2.2.2.2.1)
                                    have HS15_ := (hb.cell (World.block_lt_of_cell? _ _ (hHeld.2.2.2.2.2.2.2.2.2.2.2.2.2.2.2))).trans (hHeld.2.2.2.2.2.2.2.2.2.2.2.2.2.2.2)
                                    refine ⟨_, rfl, ?_⟩
                                    have n0_ := Aside0.mk (Kd.R_below (by (with_reducible repeat (first | apply Kd.R_alloc | apply Kd.R_drewN | apply Kd.R_drew)); exact HO129.out) hb)
                                    have n1_ := Aside0.mk (Kd.R_below (by (with_reducible repeat (first | apply Kd.R_alloc | apply Kd.R_drewN | apply Kd.R_drew)); exact HO145.out) hb)
                                    have n2_ := Aside0.mk (Kd.R_below (by (with_reducible repeat (first | apply Kd.R_alloc | apply Kd.R_drewN | apply Kd.R_drew)); exact HO153.out) hb)
                                    have n3_ := Aside0.mk (blk_below (g := gb135) (o := .cells #[.int .i64 t133, .int .i64 t134] 23 (0, 0)) (by (with_reducible repeat (first | refine blk_drewN ?_ _ | refine blk_drew ?_ | refine blk_alloc ?_ _)); exact BK135.out) hb)
                                    have n4_ := Aside0.mk (blk_below (g := gb142) (o := .cells #[.int .i64 t139, .int .i64 t140] 23 (0, 0)) (by (with_reducible repeat (first | refine blk_drewN ?_ _ | refine blk_drew ?_ | refine blk_alloc ?_ _)); exact BK142.out) hb)
                                    have n5_ := Aside0.mk (blk_below (g := gb150) (o := .cells #[.int .i64 t147, .int .i64 t148] 23 (0, 0)) (by (with_reducible repeat (first | refine blk_drewN ?_ _ | refine blk_drew ?_ | refine blk_alloc ?_ _)); exact BK150.out) hb)
                                    have n6_ := Aside0.mk (blk_below (g := gb159) (o := .cells #[.int .i64 t157, .int .i64 t158] 23 (0, 0)) (by (with_reducible repeat (first | refine blk_drewN ?_ _ | refine blk_drew ?_ | refine blk_alloc ?_ _)); exact BK159.out) hb)
                                    have n7_ := Aside0.mk (below_step (by repeat (first | (with_reducible first | exact HB.out | apply below_alloc | apply pw_below_drewN | apply below_drew1 | refine below_set ?_ GE135.out | refine below_set ?_ GE142.out | refine below_set ?_ GE150.out | refine below_set ?_ GE159.out) | exact HB.out)) hb)
                                    clear HO129
                                    clear HO145
                                    clear HO153
                                    clear BK135
                                    clear BK142
                                    clear BK150
                                    clear BK159
                                    clear HB
                                    have HO129 := n0_
                                    have HO145 := n1_
                                    have HO153 := n2_
                                    have BK135 := n3_
                                    have BK142 := n4_
                                    have BK150 := n5_
                                    have BK159 := n6_
                                    have HB := n7_
                                    clear n0_ n1_ n2_ n3_ n4_ n5_ n6_ n7_
                                    (try clear hb)
                                    (try clear hb2)
                                    (try clear hk)
                                    (try clear hi)
                                    refine hK.out _ _ ⟨(blk_cell BK135.out 0).trans rfl, (blk_cell BK135.out 1).trans rfl, (blk_cell BK142.out 0).trans rfl, (blk_cell BK142.out 1).trans rfl, (blk_cell BK150.out 0).trans rfl, (blk_cell BK150.out 1).trans rfl, (blk_cell BK159.out 0).trans rfl, (blk_cell BK159.out 1).trans rfl, HS8_, HS9_, HS10_, HS11_, HS12_, HS13_, HS14_, HS15_⟩ (fun hHeld => ?_)
                                    clear hK K
                                    refine norm_ (a' := ?_) ?_ ?_
                                    rotate_left
                                    · show Act.put _ (some 92) _ = _
                                      simp only [Act.put, List.setIfInBounds_toArray, List.set_cons_zero, List.set_cons_succ, i64_w, i32_w]
                                      rfl
                                    refine pure_ (i := 43) (N := some 93) (v := ?_) (a' := ?_) #[true, true, true, true, true, true, true, true, true, true, true, true, true, true, true, true, true, true, true, true, true, true, true, true, true, true, true, true, true, true, true, true, true, true, true, true, true, true, true, true, true, true, true, true, false, false, false, false, false, false, false, false, false, false, false, false, false, false, false, false, false, false, false, false, false, false, false, false, false, false, false, false, false, false, false, false, false, false, false, false] rfl rfl (any_of HT_.out (by kernel_rfl)) (fun _ _ _ h => h) (Or.inl ⟨by rfl, ?_⟩) ?_ ?_
                                    rotate_left
                                    · intro w'
                                      go_simp
                                      with_reducible rfl
                                    rotate_left
                                    · simp only [Act.put, List.setIfInBounds_toArray, List.set_cons_zero, List.set_cons_succ, i64_w, i32_w]
                                      rfl
                                    refine pure_ (i := 44) (N := some 94) (v := ?_) (a' := ?_) #[true, true, true, true, true, true, true, true, true, true, true, true, true, true, true, true, true, true, true, true, true, true, true, true, true, true, true, true, true, true, true, true, true, true, true, true, true, true, true, true, true, true, true, true, true, false, false, false, false, false, false, false, false, false, false, false, false, false, false, false, false, false, false, false, false, false, false, false, false, false, false, false, false, false, false, false, false, false, false, false] rfl rfl (any_of HT_.out (by kernel_rfl)) (fun _ _ _ h => h) (Or.inl ⟨by rfl, ?_⟩) ?_ ?_
                                    rotate_left
                                    · intro w'
                                      go_simp
                                      with_reducible rfl
                                    rotate_left
                                    · simp only [Act.put, List.setIfInBounds_toArray, List.set_cons_zero, List.set_cons_succ, i64_w, i32_w]
                                      rfl
                                    refine pure_ (i := 45) (N := some 95) (v := ?_) (a' := ?_) #[true, true, true, true, true, true, true, true, true, true, true, true, true, true, true, true, true, true, true, true, true, true, true, true, true, true, true, true, true, true, true, true, true, true, true, true, true, true, true, true, true, true, true, true, true, true, false, false, false, false, false, false, false, false, false, false, false, false, false, false, false, false, false, false, false, false, false, false, false, false, false, false, false, false, false, false, false, false, false, false] rfl rfl (any_of HT_.out (by kernel_rfl)) (fun _ _ _ h => h) (Or.inl ⟨by rfl, ?_⟩) ?_ ?_
                                    rotate_left
                                    · intro w'
                                      go_simp
                                      with_reducible rfl
                                    rotate_left
                                    · simp only [Act.put, List.setIfInBounds_toArray, List.set_cons_zero, List.set_cons_succ, i64_w, i32_w]
                                      rfl
                                    refine pure_ (i := 46) (N := some 96) (v := ?_) (a' := ?_) #[true, true, true, true, true, true, true, true, true, true, true, true, true, true, true, true, true, true, true, true, true, true, true, true, true, true, true, true, true, true, true, true, true, true, true, true, true, true, true, true, true, true, true, true, true, true, true, false, false, false, false, false, false, false, false, false, false, false, false, false, false, false, false, false, false, false, false, false, false, false, false, false, false, false, false, false, false, false, false, false] rfl rfl (any_of HT_.out (by kernel_rfl)) (fun _ _ _ h => h) (Or.inl ⟨by rfl, ?_⟩) ?_ ?_
                                    rotate_left
                                    · intro w'
                                      go_simp
                                      with_reducible rfl
                                    rotate_left
                                    · simp only [Act.put, List.setIfInBounds_toArray, List.set_cons_zero, List.set_cons_succ, i64_w, i32_w]
                                      rfl
                                    refine pure_ (i := 47) (N := some 97) (v := ?_) (a' := ?_) #[true, true, true, true, true, true, true, true, true, true, true, true, true, true, true, true, true, true, true, true, true, true, true, true, true, true, true, true, true, true, true, true, true, true, true, true, true, true, true, true, true, true, true, true, true, true, true, true, false, false, false, false, false, false, false, false, false, false, false, false, false, false, false, false, false, false, false, false, false, false, false, false, false, false, false, false, false, false, false, false] rfl rfl (any_of HT_.out (by kernel_rfl)) (fun _ _ _ h => h) (Or.inl ⟨by rfl, ?_⟩) ?_ ?_
                                    rotate_left
                                    · intro w'
                                      go_simp
                                      with_reducible rfl
                                    rotate_left
                                    · simp only [Act.put, List.setIfInBounds_toArray, List.set_cons_zero, List.set_cons_succ, i64_w, i32_w]
                                      rfl
                                    refine pure_ (i := 48) (N := some 98) (v := ?_) (a' := ?_) #[true, true, true, true, true, true, true, true, true, true, true, true, true, true, true, true, true, true, true, true, true, true, true, true, true, true, true, true, true, true, true, true, true, true, true, true, true, true, true, true, true, true, true, true, true, true, true, true, true, false, false, false, false, false, false, false, false, false, false, false, false, false, false, false, false, false, false, false, false, false, false, false, false, false, false, false, false, false, false, false] rfl rfl (any_of HT_.out (by kernel_rfl)) (fun _ _ _ h => h) (Or.inl ⟨by rfl, ?_⟩) ?_ ?_
                                    rotate_left
                                    · intro w'
                                      go_simp
                                      with_reducible rfl
                                    rotate_left
                                    · simp only [Act.put, List.setIfInBounds_toArray, List.set_cons_zero, List.set_cons_succ, i64_w, i32_w]
                                      rfl
                                    refine pure_ (i := 49) (N := some 99) (v := ?_) (a' := ?_) #[true, true, true, true, true, true, true, true, true, true, true, true, true, true, true, true, true, true, true, true, true, true, true, true, true, true, true, true, true, true, true, true, true, true, true, true, true, true, true, true, true, true, true, true, true, true, true, true, true, true, false, false, false, false, false, false, false, false, false, false, false, false, false, false, false, false, false, false, false, false, false, false, false, false, false, false, false, false, false, false] rfl rfl (any_of HT_.out (by kernel_rfl)) (fun _ _ _ h => h) (Or.inl ⟨by rfl, ?_⟩) ?_ ?_
                                    rotate_left
                                    · intro w'
                                      go_simp
                                      with_reducible rfl
                                    rotate_left
                                    · simp only [Act.put, List.setIfInBounds_toArray, List.set_cons_zero, List.set_cons_succ, i64_w, i32_w]
                                      rfl
                                    refine take_ (i := 50) (N := some 100) (v := ?_) (a' := ?_) #[true, true, true, true, true, true, true, true, true, true, true, true, true, true, true, true, true, true, true, true, true, true, true, true, true, true, true, true, true, true, true, true, true, true, true, true, true, true, true, true, true, true, true, true, true, true, true, true, true, true, true, false, false, false, false, false, false, false, false, false, false, false, false, false, false, false, false, false, false, false, false, false, false, false, false, false, false, false, false, false] rfl rfl (take_ofW HT_.out HW_.out (by kernel_rfl)) (fun _ _ _ h => h) (Or.inl ⟨by rfl, ?_⟩) hHeld ?_ ?_
                                    rotate_left
                                    · rintro w' ⟨s0, s1, s2, s3, s4, s5, s6, s7, s8, s9, s10, s11, s12, s13, s14, s15⟩
                                      go_simp
                                      with_reducible rfl
                                    rotate_left
                                    · simp only [Act.put, List.setIfInBounds_toArray, List.set_cons_zero, List.set_cons_succ, i64_w, i32_w]
                                      rfl
                                    refine one_ (i := 51) (N := some 101) #[true, true, true, true, true, true, true, true, true, true, true, true, true, true, true, true, true, true, true, true, true, true, true, true, true, true, true, true, true, true, true, true, true, true, true, true, true, true, true, true, true, true, true, true, true, true, true, true, true, true, true, true, false, false, false, false, false, false, false, false, false, false, false, false, false, false, false, false, false, false, false, false, false, false, false, false, false, false, false, false] rfl rfl (one_of HT_.out (by kernel_rfl)) (by decide) (fun K hK => ?_)
                                    refine goes_ Try.func29 (by kernel_rfl) rfl #[.int .i64 19000] (by rfl) rfl rfl (by (try simp only [List.map_toArray, List.map_cons, List.map_nil]); first | done | rfl | (simp only [List.length_drop, List.length_take]; rfl)) ?_
                                    with_reducible refine (plenumlaw13_analog.calls 19000 t167 t168 _ A27.out).mono ?_
                                    rintro e w72 ⟨rfl, hb⟩
                                    have HS8_ := (hb.cell (World.block_lt_of_cell? _ _ (hHeld.2.2.2.2.2.2.2.2.1))).trans (hHeld.2.2.2.2.2.2.2.2.1)
                                    have HS9_ := (hb.cell (World.block_lt_of_cell? _ _ (hHeld.2.2.2.2.2.2.2.2.2.1))).trans (hHeld.2.2.2.2.2.2.2.2.2.1)
                                    have HS10_ := (hb.cell (World.block_lt_of_cell? _ _ (hHeld.2.2.2.2.2.2.2.2.2.2.1))).trans (hHeld.2.2.2.2.2.2.2.2.2.2.1)
                                    have HS11_ := (hb.cell (World.block_lt_of_cell? _ _ (hHeld.2.2.2.2.2.2.2.2.2.2.2.1))).trans (hHeld.2.2.2.2.2.2.2.2.2.2.2.1)
                                    have HS12_ := (hb.cell (World.block_lt_of_cell? _ _ (hHeld.2.2.2.2.2.2.2.2.2.2.2.2.1))).trans (hHeld.2.2.2.2.2.2.2.2.2.2.2.2.1)
                                    have HS13_ := (hb.cell (World.block_lt_of_cell? _ _ (hHeld.2.2.2.2.2.2.2.2.2.2.2.2.2.1))).trans (hHeld.2.2.2.2.2.2.2.2.2.2.2.2.2.1)
                                    have HS14_ := (hb.cell (World.block_lt_of_cell? _ _ (hHeld.2.2.2.2.2.2.2.2.2.2.2.2.2.2.1))).trans (hHeld.2.2.2.2.2.2.2.2.2.2.2.2.2.2.1)
                                    have HS15_ := (hb.cell (World.block_lt_of_cell? _ _ (hHeld.2.2.2.2.2.2.2.2.2.2.2.2.2.2.2))).trans (hHeld.2.2.2.2.2.2.2.2.2.2.2.2.2.2.2)
                                    refine ⟨_, rfl, ?_⟩
                                    have n0_ := Aside0.mk (Kd.R_below (by (with_reducible repeat (first | apply Kd.R_alloc | apply Kd.R_drewN | apply Kd.R_drew)); exact HO129.out) hb)
                                    have n1_ := Aside0.mk (Kd.R_below (by (with_reducible repeat (first | apply Kd.R_alloc | apply Kd.R_drewN | apply Kd.R_drew)); exact HO145.out) hb)
                                    have n2_ := Aside0.mk (Kd.R_below (by (with_reducible repeat (first | apply Kd.R_alloc | apply Kd.R_drewN | apply Kd.R_drew)); exact HO153.out) hb)
                                    have n3_ := Aside0.mk (blk_below (g := gb135) (o := .cells #[.int .i64 t133, .int .i64 t134] 23 (0, 0)) (by (with_reducible repeat (first | refine blk_drewN ?_ _ | refine blk_drew ?_ | refine blk_alloc ?_ _)); exact BK135.out) hb)
                                    have n4_ := Aside0.mk (blk_below (g := gb142) (o := .cells #[.int .i64 t139, .int .i64 t140] 23 (0, 0)) (by (with_reducible repeat (first | refine blk_drewN ?_ _ | refine blk_drew ?_ | refine blk_alloc ?_ _)); exact BK142.out) hb)
                                    have n5_ := Aside0.mk (blk_below (g := gb150) (o := .cells #[.int .i64 t147, .int .i64 t148] 23 (0, 0)) (by (with_reducible repeat (first | refine blk_drewN ?_ _ | refine blk_drew ?_ | refine blk_alloc ?_ _)); exact BK150.out) hb)
                                    have n6_ := Aside0.mk (blk_below (g := gb159) (o := .cells #[.int .i64 t157, .int .i64 t158] 23 (0, 0)) (by (with_reducible repeat (first | refine blk_drewN ?_ _ | refine blk_drew ?_ | refine blk_alloc ?_ _)); exact BK159.out) hb)
                                    have n7_ := Aside0.mk (below_step (by repeat (first | (with_reducible first | exact HB.out | apply below_alloc | apply pw_below_drewN | apply below_drew1 | refine below_set ?_ GE135.out | refine below_set ?_ GE142.out | refine below_set ?_ GE150.out | refine below_set ?_ GE159.out) | exact HB.out)) hb)
                                    clear HO129
                                    clear HO145
                                    clear HO153
                                    clear BK135
                                    clear BK142
                                    clear BK150
                                    clear BK159
                                    clear HB
                                    have HO129 := n0_
                                    have HO145 := n1_
                                    have HO153 := n2_
                                    have BK135 := n3_
                                    have BK142 := n4_
                                    have BK150 := n5_
                                    have BK159 := n6_
                                    have HB := n7_
                                    clear n0_ n1_ n2_ n3_ n4_ n5_ n6_ n7_
                                    (try clear hb)
                                    (try clear hb2)
                                    (try clear hk)
                                    (try clear hi)
                                    refine hK.out _ _ ⟨(blk_cell BK135.out 0).trans rfl, (blk_cell BK135.out 1).trans rfl, (blk_cell BK142.out 0).trans rfl, (blk_cell BK142.out 1).trans rfl, (blk_cell BK150.out 0).trans rfl, (blk_cell BK150.out 1).trans rfl, (blk_cell BK159.out 0).trans rfl, (blk_cell BK159.out 1).trans rfl, HS8_, HS9_, HS10_, HS11_, HS12_, HS13_, HS14_, HS15_⟩ (fun hHeld => ?_)
                                    clear hK K
                                    refine norm_ (a' := ?_) ?_ ?_
                                    rotate_left
                                    · show Act.put _ (some 101) _ = _
                                      simp only [Act.put, List.setIfInBounds_toArray, List.set_cons_zero, List.set_cons_succ, i64_w, i32_w]
                                      rfl
                                    refine pure_ (i := 52) (N := some 102) (v := ?_) (a' := ?_) #[true, true, true, true, true, true, true, true, true, true, true, true, true, true, true, true, true, true, true, true, true, true, true, true, true, true, true, true, true, true, true, true, true, true, true, true, true, true, true, true, true, true, true, true, true, true, true, true, true, true, true, true, true, false, false, false, false, false, false, false, false, false, false, false, false, false, false, false, false, false, false, false, false, false, false, false, false, false, false, false] rfl rfl (any_of HT_.out (by kernel_rfl)) (fun _ _ _ h => h) (Or.inl ⟨by rfl, ?_⟩) ?_ ?_
                                    rotate_left
                                    · intro w'
                                      go_simp
                                      with_reducible rfl
                                    rotate_left
                                    · simp only [Act.put, List.setIfInBounds_toArray, List.set_cons_zero, List.set_cons_succ, i64_w, i32_w]
                                      rfl
                                    refine pure_ (i := 53) (N := some 103) (v := ?_) (a' := ?_) #[true, true, true, true, true, true, true, true, true, true, true, true, true, true, true, true, true, true, true, true, true, true, true, true, true, true, true, true, true, true, true, true, true, true, true, true, true, true, true, true, true, true, true, true, true, true, true, true, true, true, true, true, true, true, false, false, false, false, false, false, false, false, false, false, false, false, false, false, false, false, false, false, false, false, false, false, false, false, false, false] rfl rfl (any_of HT_.out (by kernel_rfl)) (fun _ _ _ h => h) (Or.inl ⟨by rfl, ?_⟩) ?_ ?_
                                    rotate_left
                                    · intro w'
                                      go_simp
                                      with_reducible rfl
                                    rotate_left
                                    · simp only [Act.put, List.setIfInBounds_toArray, List.set_cons_zero, List.set_cons_succ, i64_w, i32_w]
                                      rfl
                                    refine pure_ (i := 54) (N := some 104) (v := ?_) (a' := ?_) #[true, true, true, true, true, true, true, true, true, true, true, true, true, true, true, true, true, true, true, true, true, true, true, true, true, true, true, true, true, true, true, true, true, true, true, true, true, true, true, true, true, true, true, true, true, true, true, true, true, true, true, true, true, true, true, false, false, false, false, false, false, false, false, false, false, false, false, false, false, false, false, false, false, false, false, false, false, false, false, false] rfl rfl (any_of HT_.out (by kernel_rfl)) (fun _ _ _ h => h) (Or.inl ⟨by rfl, ?_⟩) ?_ ?_
                                    rotate_left
                                    · intro w'
                                      go_simp
                                      with_reducible rfl
                                    rotate_left
                                    · simp only [Act.put, List.setIfInBounds_toArray, List.set_cons_zero, List.set_cons_succ, i64_w, i32_w]
                                      rfl
                                    refine pure_ (i := 55) (N := some 105) (v := ?_) (a' := ?_) #[true, true, true, true, true, true, true, true, true, true, true, true, true, true, true, true, true, true, true, true, true, true, true, true, true, true, true, true, true, true, true, true, true, true, true, true, true, true, true, true, true, true, true, true, true, true, true, true, true, true, true, true, true, true, true, true, false, false, false, false, false, false, false, false, false, false, false, false, false, false, false, false, false, false, false, false, false, false, false, false] rfl rfl (any_of HT_.out (by kernel_rfl)) (fun _ _ _ h => h) (Or.inl ⟨by rfl, ?_⟩) ?_ ?_
                                    rotate_left
                                    · intro w'
                                      go_simp
                                      with_reducible rfl
                                    rotate_left
                                    · simp only [Act.put, List.setIfInBounds_toArray, List.set_cons_zero, List.set_cons_succ, i64_w, i32_w]
                                      rfl
                                    refine pure_ (i := 56) (N := some 106) (v := ?_) (a' := ?_) #[true, true, true, true, true, true, true, true, true, true, true, true, true, true, true, true, true, true, true, true, true, true, true, true, true, true, true, true, true, true, true, true, true, true, true, true, true, true, true, true, true, true, true, true, true, true, true, true, true, true, true, true, true, true, true, true, true, false, false, false, false, false, false, false, false, false, false, false, false, false, false, false, false, false, false, false, false, false, false, false] rfl rfl (any_of HT_.out (by kernel_rfl)) (fun _ _ _ h => h) (Or.inl ⟨by rfl, ?_⟩) ?_ ?_
                                    rotate_left
                                    · intro w'
                                      go_simp
                                      with_reducible rfl
                                    rotate_left
                                    · simp only [Act.put, List.setIfInBounds_toArray, List.set_cons_zero, List.set_cons_succ, i64_w, i32_w]
                                      rfl
                                    refine take_ (i := 57) (N := some 107) (v := ?_) (a' := ?_) #[true, true, true, true, true, true, true, true, true, true, true, true, true, true, true, true, true, true, true, true, true, true, true, true, true, true, true, true, true, true, true, true, true, true, true, true, true, true, true, true, true, true, true, true, true, true, true, true, true, true, true, true, true, true, true, true, true, true, false, false, false, false, false, false, false, false, false, false, false, false, false, false, false, false, false, false, false, false, false, false] rfl rfl (take_ofW HT_.out HW_.out (by kernel_rfl)) (fun _ _ _ h => h) (Or.inl ⟨by rfl, ?_⟩) hHeld ?_ ?_
                                    rotate_left
                                    · rintro w' ⟨s0, s1, s2, s3, s4, s5, s6, s7, s8, s9, s10, s11, s12, s13, s14, s15⟩
                                      go_simp
                                      with_reducible rfl
                                    rotate_left
                                    · simp only [Act.put, List.setIfInBounds_toArray, List.set_cons_zero, List.set_cons_succ, i64_w, i32_w]
                                      rfl
                                    refine one_ (i := 58) (N := some 108) #[true, true, true, true, true, true, true, true, true, true, true, true, true, true, true, true, true, true, true, true, true, true, true, true, true, true, true, true, true, true, true, true, true, true, true, true, true, true, true, true, true, true, true, true, true, true, true, true, true, true, true, true, true, true, true, true, true, true, true, false, false, false, false, false, false, false, false, false, false, false, false, false, false, false, false, false, false, false, false, false] rfl rfl (one_of HT_.out (by kernel_rfl)) (by decide) (fun K hK => ?_)
                                    refine goes_ Try.func12 (by kernel_rfl) rfl #[.agg #[.int .i64 ((rd_T25 y127 0).f0), .int .i64 ((rd_T25 y127 0).f1), .int .i64 ((rd_T25 y127 0).f2.f0), .int .i64 ((rd_T25 y127 0).f2.f1)]] (by rfl) rfl rfl (by (try simp only [List.map_toArray, List.map_cons, List.map_nil]); first | done | rfl | (simp only [List.length_drop, List.length_take]; rfl)) ?_
                                    with_reducible refine (priority_Check.calls k ((rd_T25 y127 0).f0) ((rd_T25 y127 0).f1) ((rd_T25 y127 0).f2.f0) ((rd_T25 y127 0).f2.f1) t170 _ A30.out).mono ?_
                                    rintro e w73 ⟨rfl, hb⟩
                                    have HS8_ := (hb.cell (World.block_lt_of_cell? _ _ (hHeld.2.2.2.2.2.2.2.2.1))).trans (hHeld.2.2.2.2.2.2.2.2.1)
                                    have HS9_ := (hb.cell (World.block_lt_of_cell? _ _ (hHeld.2.2.2.2.2.2.2.2.2.1))).trans (hHeld.2.2.2.2.2.2.2.2.2.1)
                                    have HS10_ := (hb.cell (World.block_lt_of_cell? _ _ (hHeld.2.2.2.2.2.2.2.2.2.2.1))).trans (hHeld.2.2.2.2.2.2.2.2.2.2.1)
                                    have HS11_ := (hb.cell (World.block_lt_of_cell? _ _ (hHeld.2.2.2.2.2.2.2.2.2.2.2.1))).trans (hHeld.2.2.2.2.2.2.2.2.2.2.2.1)
                                    have HS12_ := (hb.cell (World.block_lt_of_cell? _ _ (hHeld.2.2.2.2.2.2.2.2.2.2.2.2.1))).trans (hHeld.2.2.2.2.2.2.2.2.2.2.2.2.1)
                                    have HS13_ := (hb.cell (World.block_lt_of_cell? _ _ (hHeld.2.2.2.2.2.2.2.2.2.2.2.2.2.1))).trans (hHeld.2.2.2.2.2.2.2.2.2.2.2.2.2.1)
                                    have HS14_ := (hb.cell (World.block_lt_of_cell? _ _ (hHeld.2.2.2.2.2.2.2.2.2.2.2.2.2.2.1))).trans (hHeld.2.2.2.2.2.2.2.2.2.2.2.2.2.2.1)
                                    have HS15_ := (hb.cell (World.block_lt_of_cell? _ _ (hHeld.2.2.2.2.2.2.2.2.2.2.2.2.2.2.2))).trans (hHeld.2.2.2.2.2.2.2.2.2.2.2.2.2.2.2)
                                    refine ⟨_, rfl, ?_⟩
                                    have n0_ := Aside0.mk (Kd.R_below (by (with_reducible repeat (first | apply Kd.R_alloc | apply Kd.R_drewN | apply Kd.R_drew)); exact HO129.out) hb)
                                    have n1_ := Aside0.mk (Kd.R_below (by (with_reducible repeat (first | apply Kd.R_alloc | apply Kd.R_drewN | apply Kd.R_drew)); exact HO145.out) hb)
                                    have n2_ := Aside0.mk (Kd.R_below (by (with_reducible repeat (first | apply Kd.R_alloc | apply Kd.R_drewN | apply Kd.R_drew)); exact HO153.out) hb)
                                    have n3_ := Aside0.mk (blk_below (g := gb135) (o := .cells #[.int .i64 t133, .int .i64 t134] 23 (0, 0)) (by (with_reducible repeat (first | refine blk_drewN ?_ _ | refine blk_drew ?_ | refine blk_alloc ?_ _)); exact BK135.out) hb)
                                    have n4_ := Aside0.mk (blk_below (g := gb142) (o := .cells #[.int .i64 t139, .int .i64 t140] 23 (0, 0)) (by (with_reducible repeat (first | refine blk_drewN ?_ _ | refine blk_drew ?_ | refine blk_alloc ?_ _)); exact BK142.out) hb)
                                    have n5_ := Aside0.mk (blk_below (g := gb150) (o := .cells #[.int .i64 t147, .int .i64 t148] 23 (0, 0)) (by (with_reducible repeat (first | refine blk_drewN ?_ _ | refine blk_drew ?_ | refine blk_alloc ?_ _)); exact BK150.out) hb)
                                    have n6_ := Aside0.mk (blk_below (g := gb159) (o := .cells #[.int .i64 t157, .int .i64 t158] 23 (0, 0)) (by (with_reducible repeat (first | refine blk_drewN ?_ _ | refine blk_drew ?_ | refine blk_alloc ?_ _)); exact BK159.out) hb)
                                    have n7_ := Aside0.mk (below_step (by repeat (first | (with_reducible first | exact HB.out | apply below_alloc | apply pw_below_drewN | apply below_drew1 | refine below_set ?_ GE135.out | refine below_set ?_ GE142.out | refine below_set ?_ GE150.out | refine below_set ?_ GE159.out) | exact HB.out)) hb)
                                    clear HO129
                                    clear HO145
                                    clear HO153
                                    clear BK135
                                    clear BK142
                                    clear BK150
                                    clear BK159
                                    clear HB
                                    have HO129 := n0_
                                    have HO145 := n1_
                                    have HO153 := n2_
                                    have BK135 := n3_
                                    have BK142 := n4_
                                    have BK150 := n5_
                                    have BK159 := n6_
                                    have HB := n7_
                                    clear n0_ n1_ n2_ n3_ n4_ n5_ n6_ n7_
                                    (try clear hb)
                                    (try clear hb2)
                                    (try clear hk)
                                    (try clear hi)
                                    refine hK.out _ _ ⟨(blk_cell BK135.out 0).trans rfl, (blk_cell BK135.out 1).trans rfl, (blk_cell BK142.out 0).trans rfl, (blk_cell BK142.out 1).trans rfl, (blk_cell BK150.out 0).trans rfl, (blk_cell BK150.out 1).trans rfl, (blk_cell BK159.out 0).trans rfl, (blk_cell BK159.out 1).trans rfl, HS8_, HS9_, HS10_, HS11_, HS12_, HS13_, HS14_, HS15_⟩ (fun hHeld => ?_)
                                    clear hK K
                                    refine norm_ (a' := ?_) ?_ ?_
                                    rotate_left
                                    · show Act.put _ (some 108) _ = _
                                      simp only [Act.put, List.setIfInBounds_toArray, List.set_cons_zero, List.set_cons_succ, i64_w, i32_w]
                                      rfl
                                    refine pure_ (i := 59) (N := some 109) (v := ?_) (a' := ?_) #[true, true, true, true, true, true, true, true, true, true, true, true, true, true, true, true, true, true, true, true, true, true, true, true, true, true, true, true, true, true, true, true, true, true, true, true, true, true, true, true, true, true, true, true, true, true, true, true, true, true, true, true, true, true, true, true, true, true, true, true, false, false, false, false, false, false, false, false, false, false, false, false, false, false, false, false, false, false, false, false] rfl rfl (any_of HT_.out (by kernel_rfl)) (fun _ _ _ h => h) (Or.inl ⟨by rfl, ?_⟩) ?_ ?_
                                    rotate_left
                                    · intro w'
                                      go_simp
                                      with_reducible rfl
                                    rotate_left
                                    · simp only [Act.put, List.setIfInBounds_toArray, List.set_cons_zero, List.set_cons_succ, i64_w, i32_w]
                                      rfl
                                    refine pure_ (i := 60) (N := some 110) (v := ?_) (a' := ?_) #[true, true, true, true, true, true, true, true, true, true, true, true, true, true, true, true, true, true, true, true, true, true, true, true, true, true, true, true, true, true, true, true, true, true, true, true, true, true, true, true, true, true, true, true, true, true, true, true, true, true, true, true, true, true, true, true, true, true, true, true, true, false, false, false, false, false, false, false, false, false, false, false, false, false, false, false, false, false, false, false] rfl rfl (any_of HT_.out (by kernel_rfl)) (fun _ _ _ h => h) (Or.inl ⟨by rfl, ?_⟩) ?_ ?_
                                    rotate_left
                                    · intro w'
                                      go_simp
                                      with_reducible rfl
                                    rotate_left
                                    · simp only [Act.put, List.setIfInBounds_toArray, List.set_cons_zero, List.set_cons_succ, i64_w, i32_w]
                                      rfl
                                    refine pure_ (i := 61) (N := some 111) (v := ?_) (a' := ?_) #[true, true, true, true, true, true, true, true, true, true, true, true, true, true, true, true, true, true, true, true, true, true, true, true, true, true, true, true, true, true, true, true, true, true, true, true, true, true, true, true, true, true, true, true, true, true, true, true, true, true, true, true, true, true, true, true, true, true, true, true, true, true, false, false, false, false, false, false, false, false, false, false, false, false, false, false, false, false, false, false] rfl rfl (any_of HT_.out (by kernel_rfl)) (fun _ _ _ h => h) (Or.inl ⟨by rfl, ?_⟩) ?_ ?_
                                    rotate_left
                                    · intro w'
                                      go_simp
                                      with_reducible rfl
                                    rotate_left
                                    · simp only [Act.put, List.setIfInBounds_toArray, List.set_cons_zero, List.set_cons_succ, i64_w, i32_w]
                                      rfl
                                    refine pure_ (i := 62) (N := some 112) (v := ?_) (a' := ?_) #[true, true, true, true, true, true, true, true, true, true, true, true, true, true, true, true, true, true, true, true, true, true, true, true, true, true, true, true, true, true, true, true, true, true, true, true, true, true, true, true, true, true, true, true, true, true, true, true, true, true, true, true, true, true, true, true, true, true, true, true, true, true, true, false, false, false, false, false, false, false, false, false, false, false, false, false, false, false, false, false] rfl rfl (any_of HT_.out (by kernel_rfl)) (fun _ _ _ h => h) (Or.inl ⟨by rfl, ?_⟩) ?_ ?_
                                    rotate_left
                                    · intro w'
                                      go_simp
                                      with_reducible rfl
                                    rotate_left
                                    · simp only [Act.put, List.setIfInBounds_toArray, List.set_cons_zero, List.set_cons_succ, i64_w, i32_w]
                                      rfl
                                    refine one_ (i := 63) (N := some 113) #[true, true, true, true, true, true, true, true, true, true, true, true, true, true, true, true, true, true, true, true, true, true, true, true, true, true, true, true, true, true, true, true, true, true, true, true, true, true, true, true, true, true, true, true, true, true, true, true, true, true, true, true, true, true, true, true, true, true, true, true, true, true, true, true, false, false, false, false, false, false, false, false, false, false, false, false, false, false, false, false] rfl rfl (one_of HT_.out (by kernel_rfl)) (by decide) (fun K hK => ?_)
                                    refine goes_ Try.func12 (by kernel_rfl) rfl #[.agg #[.int .i64 0, .int .i64 0, .int .i64 0, .int .i64 0]] (by rfl) rfl rfl (by (try simp only [List.map_toArray, List.map_cons, List.map_nil]); first | done | rfl | (simp only [List.length_drop, List.length_take]; rfl)) ?_
                                    with_reducible refine (priority_Check.calls k 0 0 0 0 t171 _ A32.out).mono ?_
                                    rintro e w74 ⟨rfl, hb⟩
                                    have HS8_ := (hb.cell (World.block_lt_of_cell? _ _ (hHeld.2.2.2.2.2.2.2.2.1))).trans (hHeld.2.2.2.2.2.2.2.2.1)
                                    have HS9_ := (hb.cell (World.block_lt_of_cell? _ _ (hHeld.2.2.2.2.2.2.2.2.2.1))).trans (hHeld.2.2.2.2.2.2.2.2.2.1)
                                    have HS10_ := (hb.cell (World.block_lt_of_cell? _ _ (hHeld.2.2.2.2.2.2.2.2.2.2.1))).trans (hHeld.2.2.2.2.2.2.2.2.2.2.1)
                                    have HS11_ := (hb.cell (World.block_lt_of_cell? _ _ (hHeld.2.2.2.2.2.2.2.2.2.2.2.1))).trans (hHeld.2.2.2.2.2.2.2.2.2.2.2.1)
                                    have HS12_ := (hb.cell (World.block_lt_of_cell? _ _ (hHeld.2.2.2.2.2.2.2.2.2.2.2.2.1))).trans (hHeld.2.2.2.2.2.2.2.2.2.2.2.2.1)
                                    have HS13_ := (hb.cell (World.block_lt_of_cell? _ _ (hHeld.2.2.2.2.2.2.2.2.2.2.2.2.2.1))).trans (hHeld.2.2.2.2.2.2.2.2.2.2.2.2.2.1)
                                    have HS14_ := (hb.cell (World.block_lt_of_cell? _ _ (hHeld.2.2.2.2.2.2.2.2.2.2.2.2.2.2.1))).trans (hHeld.2.2.2.2.2.2.2.2.2.2.2.2.2.2.1)
                                    have HS15_ := (hb.cell (World.block_lt_of_cell? _ _ (hHeld.2.2.2.2.2.2.2.2.2.2.2.2.2.2.2))).trans (hHeld.2.2.2.2.2.2.2.2.2.2.2.2.2.2.2)
                                    refine ⟨_, rfl, ?_⟩
                                    have n0_ := Aside0.mk (Kd.R_below (by (with_reducible repeat (first | apply Kd.R_alloc | apply Kd.R_drewN | apply Kd.R_drew)); exact HO129.out) hb)
                                    have n1_ := Aside0.mk (Kd.R_below (by (with_reducible repeat (first | apply Kd.R_alloc | apply Kd.R_drewN | apply Kd.R_drew)); exact HO145.out) hb)
                                    have n2_ := Aside0.mk (Kd.R_below (by (with_reducible repeat (first | apply Kd.R_alloc | apply Kd.R_drewN | apply Kd.R_drew)); exact HO153.out) hb)
                                    have n3_ := Aside0.mk (blk_below (g := gb135) (o := .cells #[.int .i64 t133, .int .i64 t134] 23 (0, 0)) (by (with_reducible repeat (first | refine blk_drewN ?_ _ | refine blk_drew ?_ | refine blk_alloc ?_ _)); exact BK135.out) hb)
                                    have n4_ := Aside0.mk (blk_below (g := gb142) (o := .cells #[.int .i64 t139, .int .i64 t140] 23 (0, 0)) (by (with_reducible repeat (first | refine blk_drewN ?_ _ | refine blk_drew ?_ | refine blk_alloc ?_ _)); exact BK142.out) hb)
                                    have n5_ := Aside0.mk (blk_below (g := gb150) (o := .cells #[.int .i64 t147, .int .i64 t148] 23 (0, 0)) (by (with_reducible repeat (first | refine blk_drewN ?_ _ | refine blk_drew ?_ | refine blk_alloc ?_ _)); exact BK150.out) hb)
                                    have n6_ := Aside0.mk (blk_below (g := gb159) (o := .cells #[.int .i64 t157, .int .i64 t158] 23 (0, 0)) (by (with_reducible repeat (first | refine blk_drewN ?_ _ | refine blk_drew ?_ | refine blk_alloc ?_ _)); exact BK159.out) hb)
                                    have n7_ := Aside0.mk (below_step (by repeat (first | (with_reducible first | exact HB.out | apply below_alloc | apply pw_below_drewN | apply below_drew1 | refine below_set ?_ GE135.out | refine below_set ?_ GE142.out | refine below_set ?_ GE150.out | refine below_set ?_ GE159.out) | exact HB.out)) hb)
                                    clear HO129
                                    clear HO145
                                    clear HO153
                                    clear BK135
                                    clear BK142
                                    clear BK150
                                    clear BK159
                                    clear HB
                                    have HO129 := n0_
                                    have HO145 := n1_
                                    have HO153 := n2_
                                    have BK135 := n3_
                                    have BK142 := n4_
                                    have BK150 := n5_
                                    have BK159 := n6_
                                    have HB := n7_
                                    clear n0_ n1_ n2_ n3_ n4_ n5_ n6_ n7_
                                    (try clear hb)
                                    (try clear hb2)
                                    (try clear hk)
                                    (try clear hi)
                                    refine hK.out _ _ ⟨(blk_cell BK135.out 0).trans rfl, (blk_cell BK135.out 1).trans rfl, (blk_cell BK142.out 0).trans rfl, (blk_cell BK142.out 1).trans rfl, (blk_cell BK150.out 0).trans rfl, (blk_cell BK150.out 1).trans rfl, (blk_cell BK159.out 0).trans rfl, (blk_cell BK159.out 1).trans rfl, HS8_, HS9_, HS10_, HS11_, HS12_, HS13_, HS14_, HS15_⟩ (fun hHeld => ?_)
                                    clear hK K
                                    refine norm_ (a' := ?_) ?_ ?_
                                    rotate_left
                                    · show Act.put _ (some 113) _ = _
                                      simp only [Act.put, List.setIfInBounds_toArray, List.set_cons_zero, List.set_cons_succ, i64_w, i32_w]
                                      rfl
                                    refine pure_ (i := 64) (N := some 114) (v := ?_) (a' := ?_) #[true, true, true, true, true, true, true, true, true, true, true, true, true, true, true, true, true, true, true, true, true, true, true, true, true, true, true, true, true, true, true, true, true, true, true, true, true, true, true, true, true, true, true, true, true, true, true, true, true, true, true, true, true, true, true, true, true, true, true, true, true, true, true, true, true, false, false, false, false, false, false, false, false, false, false, false, false, false, false, false] rfl rfl (any_of HT_.out (by kernel_rfl)) (fun _ _ _ h => h) (Or.inl ⟨by rfl, ?_⟩) ?_ ?_
                                    rotate_left
                                    · intro w'
                                      go_simp
                                      with_reducible rfl
                                    rotate_left
                                    · simp only [Act.put, List.setIfInBounds_toArray, List.set_cons_zero, List.set_cons_succ, i64_w, i32_w]
                                      rfl
                                    refine pure_ (i := 65) (N := some 115) (v := ?_) (a' := ?_) #[true, true, true, true, true, true, true, true, true, true, true, true, true, true, true, true, true, true, true, true, true, true, true, true, true, true, true, true, true, true, true, true, true, true, true, true, true, true, true, true, true, true, true, true, true, true, true, true, true, true, true, true, true, true, true, true, true, true, true, true, true, true, true, true, true, true, false, false, false, false, false, false, false, false, false, false, false, false, false, false] rfl rfl (any_of HT_.out (by kernel_rfl)) (fun _ _ _ h => h) (Or.inl ⟨by rfl, ?_⟩) ?_ ?_
                                    rotate_left
                                    · intro w'
                                      go_simp
                                      with_reducible rfl
                                    rotate_left
                                    · simp only [Act.put, List.setIfInBounds_toArray, List.set_cons_zero, List.set_cons_succ, i64_w, i32_w]
                                      rfl
                                    refine pure_ (i := 66) (N := some 116) (v := ?_) (a' := ?_) #[true, true, true, true, true, true, true, true, true, true, true, true, true, true, true, true, true, true, true, true, true, true, true, true, true, true, true, true, true, true, true, true, true, true, true, true, true, true, true, true, true, true, true, true, true, true, true, true, true, true, true, true, true, true, true, true, true, true, true, true, true, true, true, true, true, true, true, false, false, false, false, false, false, false, false, false, false, false, false, false] rfl rfl (any_of HT_.out (by kernel_rfl)) (fun _ _ _ h => h) (Or.inl ⟨by rfl, ?_⟩) ?_ ?_
                                    rotate_left
                                    · intro w'
                                      go_simp
                                      with_reducible rfl
                                    rotate_left
                                    · simp only [Act.put, List.setIfInBounds_toArray, List.set_cons_zero, List.set_cons_succ, i64_w, i32_w]
                                      rfl
                                    refine pure_ (i := 67) (N := some 117) (v := ?_) (a' := ?_) #[true, true, true, true, true, true, true, true, true, true, true, true, true, true, true, true, true, true, true, true, true, true, true, true, true, true, true, true, true, true, true, true, true, true, true, true, true, true, true, true, true, true, true, true, true, true, true, true, true, true, true, true, true, true, true, true, true, true, true, true, true, true, true, true, true, true, true, true, false, false, false, false, false, false, false, false, false, false, false, false] rfl rfl (any_of HT_.out (by kernel_rfl)) (fun _ _ _ h => h) (Or.inl ⟨by rfl, ?_⟩) ?_ ?_
                                    rotate_left
                                    · intro w'
                                      go_simp
                                      with_reducible rfl
                                    rotate_left
                                    · simp only [Act.put, List.setIfInBounds_toArray, List.set_cons_zero, List.set_cons_succ, i64_w, i32_w]
                                      rfl
                                    refine one_ (i := 68) (N := some 118) #[true, true, true, true, true, true, true, true, true, true, true, true, true, true, true, true, true, true, true, true, true, true, true, true, true, true, true, true, true, true, true, true, true, true, true, true, true, true, true, true, true, true, true, true, true, true, true, true, true, true, true, true, true, true, true, true, true, true, true, true, true, true, true, true, true, true, true, true, true, false, false, false, false, false, false, false, false, false, false, false] rfl rfl (one_of HT_.out (by kernel_rfl)) (by decide) (fun K hK => ?_)
                                    refine goes_ Try.func15 (by kernel_rfl) rfl #[.slice (some ad169) y127.length co42] (by rfl) rfl rfl (by (try simp only [List.map_toArray, List.map_cons, List.map_nil]); first | done | rfl | (simp only [List.length_drop, List.length_take]; rfl)) ?_
                                    with_reducible refine (priority_Of.calls _ _ y127 t172 _ ?side1 ?side2 A34.out).mono ?_
                                    (case side1 => repeat (first | exact (Kd.R_reads' HO129.out).2.2 | (with_reducible refine Kd.C_alloc ?_ _) | (with_reducible refine Kd.C_drewN ?_ _) | (with_reducible refine Kd.C_drew ?_)))
                                    (case side2 => exact (Kd.R_reads' HO129.out).2.1)
                                    rintro e w75 ⟨v173, rfl, ho0, hb⟩
                                    have HS8_ := (hb.cell (World.block_lt_of_cell? _ _ (hHeld.2.2.2.2.2.2.2.2.1))).trans (hHeld.2.2.2.2.2.2.2.2.1)
                                    have HS9_ := (hb.cell (World.block_lt_of_cell? _ _ (hHeld.2.2.2.2.2.2.2.2.2.1))).trans (hHeld.2.2.2.2.2.2.2.2.2.1)
                                    have HS10_ := (hb.cell (World.block_lt_of_cell? _ _ (hHeld.2.2.2.2.2.2.2.2.2.2.1))).trans (hHeld.2.2.2.2.2.2.2.2.2.2.1)
                                    have HS11_ := (hb.cell (World.block_lt_of_cell? _ _ (hHeld.2.2.2.2.2.2.2.2.2.2.2.1))).trans (hHeld.2.2.2.2.2.2.2.2.2.2.2.1)
                                    have HS12_ := (hb.cell (World.block_lt_of_cell? _ _ (hHeld.2.2.2.2.2.2.2.2.2.2.2.2.1))).trans (hHeld.2.2.2.2.2.2.2.2.2.2.2.2.1)
                                    have HS13_ := (hb.cell (World.block_lt_of_cell? _ _ (hHeld.2.2.2.2.2.2.2.2.2.2.2.2.2.1))).trans (hHeld.2.2.2.2.2.2.2.2.2.2.2.2.2.1)
                                    have HS14_ := (hb.cell (World.block_lt_of_cell? _ _ (hHeld.2.2.2.2.2.2.2.2.2.2.2.2.2.2.1))).trans (hHeld.2.2.2.2.2.2.2.2.2.2.2.2.2.2.1)
                                    have HS15_ := (hb.cell (World.block_lt_of_cell? _ _ (hHeld.2.2.2.2.2.2.2.2.2.2.2.2.2.2.2))).trans (hHeld.2.2.2.2.2.2.2.2.2.2.2.2.2.2.2)
                                    refine ⟨_, rfl, ?_⟩
                                    have n0_ := Aside0.mk (Kd.R_elder' (by (with_reducible repeat (first | apply Kd.R_alloc | apply Kd.R_drewN | apply Kd.R_drew)); exact HO129.out) (Kd.R_base ho0) hb)
                                    have n1_ := Aside0.mk (Kd.R_elder' (by (with_reducible repeat (first | apply Kd.R_alloc | apply Kd.R_drewN | apply Kd.R_drew)); exact HO145.out) (Kd.R_base ho0) hb)
                                    have n2_ := Aside0.mk (Kd.R_elder' (by (with_reducible repeat (first | apply Kd.R_alloc | apply Kd.R_drewN | apply Kd.R_drew)); exact HO153.out) (Kd.R_base ho0) hb)
                                    have n3_ := Aside0.mk (Kd.R_lower (Kd.R_new' (Kd.R_new' (Kd.R_new' ho0 (Kd.R_lt (by (with_reducible repeat (first | apply Kd.R_alloc | apply Kd.R_drewN | apply Kd.R_drew)); exact HO129.out))) (Kd.R_lt (by (with_reducible repeat (first | apply Kd.R_alloc | apply Kd.R_drewN | apply Kd.R_drew)); exact HO145.out))) (Kd.R_lt (by (with_reducible repeat (first | apply Kd.R_alloc | apply Kd.R_drewN | apply Kd.R_drew)); exact HO153.out))) (below_size (by repeat (first | (with_reducible first | exact HB.out | apply below_alloc | apply pw_below_drewN | apply below_drew1 | refine below_set ?_ GE135.out | refine below_set ?_ GE142.out | refine below_set ?_ GE150.out | refine below_set ?_ GE159.out) | exact HB.out))))
                                    have n4_ := Aside0.mk (blk_below (g := gb135) (o := .cells #[.int .i64 t133, .int .i64 t134] 23 (0, 0)) (by (with_reducible repeat (first | refine blk_drewN ?_ _ | refine blk_drew ?_ | refine blk_alloc ?_ _)); exact BK135.out) hb)
                                    have n5_ := Aside0.mk (blk_below (g := gb142) (o := .cells #[.int .i64 t139, .int .i64 t140] 23 (0, 0)) (by (with_reducible repeat (first | refine blk_drewN ?_ _ | refine blk_drew ?_ | refine blk_alloc ?_ _)); exact BK142.out) hb)
                                    have n6_ := Aside0.mk (blk_below (g := gb150) (o := .cells #[.int .i64 t147, .int .i64 t148] 23 (0, 0)) (by (with_reducible repeat (first | refine blk_drewN ?_ _ | refine blk_drew ?_ | refine blk_alloc ?_ _)); exact BK150.out) hb)
                                    have n7_ := Aside0.mk (blk_below (g := gb159) (o := .cells #[.int .i64 t157, .int .i64 t158] 23 (0, 0)) (by (with_reducible repeat (first | refine blk_drewN ?_ _ | refine blk_drew ?_ | refine blk_alloc ?_ _)); exact BK159.out) hb)
                                    have n8_ := Aside0.mk (below_step (by repeat (first | (with_reducible first | exact HB.out | apply below_alloc | apply pw_below_drewN | apply below_drew1 | refine below_set ?_ GE135.out | refine below_set ?_ GE142.out | refine below_set ?_ GE150.out | refine below_set ?_ GE159.out) | exact HB.out)) hb)
                                    clear HO129
                                    clear HO145
                                    clear HO153
                                    clear BK135
                                    clear BK142
                                    clear BK150
                                    clear BK159
                                    clear HB
                                    have HO129 := n0_
                                    have HO145 := n1_
                                    have HO153 := n2_
                                    have HO174 := n3_
                                    have BK135 := n4_
                                    have BK142 := n5_
                                    have BK150 := n6_
                                    have BK159 := n7_
                                    have HB := n8_
                                    clear n0_ n1_ n2_ n3_ n4_ n5_ n6_ n7_ n8_
                                    (try clear hb)
                                    (try clear hb2)
                                    (try clear hk)
                                    (try clear hi)
                                    (try clear ho0)
                                    obtain ⟨Ao76, co76, eo76⟩ := Kd.R_slice HO174.out
                                    (first | subst eo76 | (injection eo76 with f1_ f2_ f3_; have f4_ := f1_.symm; have f5_ := f3_.symm; clear f1_ f2_ f3_; subst f4_; subst f5_))
                                    refine hK.out _ _ ⟨(blk_cell BK135.out 0).trans rfl, (blk_cell BK135.out 1).trans rfl, (blk_cell BK142.out 0).trans rfl, (blk_cell BK142.out 1).trans rfl, (blk_cell BK150.out 0).trans rfl, (blk_cell BK150.out 1).trans rfl, (blk_cell BK159.out 0).trans rfl, (blk_cell BK159.out 1).trans rfl, HS8_, HS9_, HS10_, HS11_, HS12_, HS13_, HS14_, HS15_⟩ (fun hHeld => ?_)
                                    clear hK K
                                    refine norm_ (a' := ?_) ?_ ?_
                                    rotate_left
                                    · show Act.put _ (some 118) _ = _
                                      simp only [Act.put, List.setIfInBounds_toArray, List.set_cons_zero, List.set_cons_succ, i64_w, i32_w]
                                      rfl
                                    refine pure_ (i := 69) (N := some 119) (v := ?_) (a' := ?_) #[true, true, true, true, true, true, true, true, true, true, true, true, true, true, true, true, true, true, true, true, true, true, true, true, true, true, true, true, true, true, true, true, true, true, true, true, true, true, true, true, true, true, true, true, true, true, true, true, true, true, true, true, true, true, true, true, true, true, true, true, true, true, true, true, true, true, true, true, true, true, false, false, false, false, false, false, false, false, false, false] rfl rfl (any_of HT_.out (by kernel_rfl)) (fun _ _ _ h => h) (Or.inl ⟨by rfl, ?_⟩) ?_ ?_
                                    rotate_left
                                    · intro w'
                                      go_simp
                                      with_reducible rfl
                                    rotate_left
                                    · simp only [Act.put, List.setIfInBounds_toArray, List.set_cons_zero, List.set_cons_succ, i64_w, i32_w]
                                      rfl
                                    refine pure_ (i := 70) (N := some 120) (v := ?_) (a' := ?_) #[true, true, true, true, true, true, true, true, true, true, true, true, true, true, true, true, true, true, true, true, true, true, true, true, true, true, true, true, true, true, true, true, true, true, true, true, true, true, true, true, true, true, true, true, true, true, true, true, true, true, true, true, true, true, true, true, true, true, true, true, true, true, true, true, true, true, true, true, true, true, true, false, false, false, false, false, false, false, false, false] rfl rfl (any_of HT_.out (by kernel_rfl)) (fun _ _ _ h => h) (Or.inl ⟨by rfl, ?_⟩) ?_ ?_
                                    rotate_left
                                    · intro w'
                                      go_simp
                                      with_reducible rfl
                                    rotate_left
                                    · simp only [Act.put, List.setIfInBounds_toArray, List.set_cons_zero, List.set_cons_succ, i64_w, i32_w]
                                      rfl
                                    refine pure_ (i := 71) (N := some 121) (v := ?_) (a' := ?_) #[true, true, true, true, true, true, true, true, true, true, true, true, true, true, true, true, true, true, true, true, true, true, true, true, true, true, true, true, true, true, true, true, true, true, true, true, true, true, true, true, true, true, true, true, true, true, true, true, true, true, true, true, true, true, true, true, true, true, true, true, true, true, true, true, true, true, true, true, true, true, true, true, false, false, false, false, false, false, false, false] rfl rfl (any_of HT_.out (by kernel_rfl)) (fun _ _ _ h => h) (Or.inl ⟨by rfl, ?_⟩) ?_ ?_
                                    rotate_left
                                    · intro w'
                                      go_simp
                                      with_reducible rfl
                                    rotate_left
                                    · simp only [Act.put, List.setIfInBounds_toArray, List.set_cons_zero, List.set_cons_succ, i64_w, i32_w]
                                      rfl
                                    refine pure_ (i := 72) (N := some 122) (v := ?_) (a' := ?_) #[true, true, true, true, true, true, true, true, true, true, true, true, true, true, true, true, true, true, true, true, true, true, true, true, true, true, true, true, true, true, true, true, true, true, true, true, true, true, true, true, true, true, true, true, true, true, true, true, true, true, true, true, true, true, true, true, true, true, true, true, true, true, true, true, true, true, true, true, true, true, true, true, true, false, false, false, false, false, false, false] rfl rfl (any_of HT_.out (by kernel_rfl)) (fun _ _ _ h => h) (Or.inl ⟨by rfl, ?_⟩) ?_ ?_
                                    rotate_left
                                    · intro w'
                                      go_simp
                                      with_reducible rfl
                                    rotate_left
                                    · simp only [Act.put, List.setIfInBounds_toArray, List.set_cons_zero, List.set_cons_succ, i64_w, i32_w]
                                      rfl
                                    refine pure_ (i := 73) (N := some 123) (v := ?_) (a' := ?_) #[true, true, true, true, true, true, true, true, true, true, true, true, true, true, true, true, true, true, true, true, true, true, true, true, true, true, true, true, true, true, true, true, true, true, true, true, true, true, true, true, true, true, true, true, true, true, true, true, true, true, true, true, true, true, true, true, true, true, true, true, true, true, true, true, true, true, true, true, true, true, true, true, true, true, false, false, false, false, false, false] rfl rfl (any_of HT_.out (by kernel_rfl)) (fun _ _ _ h => h) (Or.inl ⟨by rfl, ?_⟩) ?_ ?_
                                    rotate_left
                                    · intro w'
                                      go_simp
                                      with_reducible rfl
                                    rotate_left
                                    · simp only [Act.put, List.setIfInBounds_toArray, List.set_cons_zero, List.set_cons_succ, i64_w, i32_w]
                                      rfl
                                    refine one_ (i := 74) (N := some 124) #[true, true, true, true, true, true, true, true, true, true, true, true, true, true, true, true, true, true, true, true, true, true, true, true, true, true, true, true, true, true, true, true, true, true, true, true, true, true, true, true, true, true, true, true, true, true, true, true, true, true, true, true, true, true, true, true, true, true, true, true, true, true, true, true, true, true, true, true, true, true, true, true, true, true, true, false, false, false, false, false] rfl rfl (one_of HT_.out (by kernel_rfl)) (by decide) (fun K hK => ?_)
                                    refine Kd.R_lit_step (Kd.int .i64) _ 3 ?hg (N := 124) ?hd (xs := ([16] : List Int)) (inner := [.int .i64 16]) (ok := fun _ => True) (okp := fun _ => True) ?hr ?hp (fun _ hk => hk) trivial (Below.refl _ _) (Nat.le_refl _) (by simp) ?_; (case hd => rfl); (case hg => rfl); (case hr => first | (go_simp; done) | (go_simp; rfl)); (case hp => exact (Reps.one (show Kd.M (Kd.int .i64) _ _ _ 16 [.int .i64 16] from rfl) (Reps.none _ _)))
                                    intro v176 w77 ho78 hb hg_ hnew_
                                    have HS8_ := (hb.cell (World.block_lt_of_cell? _ _ (hHeld.2.2.2.2.2.2.2.2.1))).trans (hHeld.2.2.2.2.2.2.2.2.1)
                                    have HS9_ := (hb.cell (World.block_lt_of_cell? _ _ (hHeld.2.2.2.2.2.2.2.2.2.1))).trans (hHeld.2.2.2.2.2.2.2.2.2.1)
                                    have HS10_ := (hb.cell (World.block_lt_of_cell? _ _ (hHeld.2.2.2.2.2.2.2.2.2.2.1))).trans (hHeld.2.2.2.2.2.2.2.2.2.2.1)
                                    have HS11_ := (hb.cell (World.block_lt_of_cell? _ _ (hHeld.2.2.2.2.2.2.2.2.2.2.2.1))).trans (hHeld.2.2.2.2.2.2.2.2.2.2.2.1)
                                    have HS12_ := (hb.cell (World.block_lt_of_cell? _ _ (hHeld.2.2.2.2.2.2.2.2.2.2.2.2.1))).trans (hHeld.2.2.2.2.2.2.2.2.2.2.2.2.1)
                                    have HS13_ := (hb.cell (World.block_lt_of_cell? _ _ (hHeld.2.2.2.2.2.2.2.2.2.2.2.2.2.1))).trans (hHeld.2.2.2.2.2.2.2.2.2.2.2.2.2.1)
                                    have HS14_ := (hb.cell (World.block_lt_of_cell? _ _ (hHeld.2.2.2.2.2.2.2.2.2.2.2.2.2.2.1))).trans (hHeld.2.2.2.2.2.2.2.2.2.2.2.2.2.2.1)
                                    have HS15_ := (hb.cell (World.block_lt_of_cell? _ _ (hHeld.2.2.2.2.2.2.2.2.2.2.2.2.2.2.2))).trans (hHeld.2.2.2.2.2.2.2.2.2.2.2.2.2.2.2)
                                    clear hg_ hnew_
                                    (first | rw [← Ny175.out] at ho78 | (simp only [Int.reduceToNat] at ho78; rw [← Ny175.out] at ho78))
                                    have n0_ := Aside0.mk (Kd.R_below (by (with_reducible repeat (first | apply Kd.R_alloc | apply Kd.R_drewN | apply Kd.R_drew)); exact HO129.out) hb)
                                    have n1_ := Aside0.mk (Kd.R_below (by (with_reducible repeat (first | apply Kd.R_alloc | apply Kd.R_drewN | apply Kd.R_drew)); exact HO145.out) hb)
                                    have n2_ := Aside0.mk (Kd.R_below (by (with_reducible repeat (first | apply Kd.R_alloc | apply Kd.R_drewN | apply Kd.R_drew)); exact HO153.out) hb)
                                    have n3_ := Aside0.mk (Kd.R_below (by (with_reducible repeat (first | apply Kd.R_alloc | apply Kd.R_drewN | apply Kd.R_drew)); exact HO174.out) hb)
                                    have n4_ := Aside0.mk (Kd.R_lower ho78 (below_size (by repeat (first | (with_reducible first | exact HB.out | apply below_alloc | apply pw_below_drewN | apply below_drew1 | refine below_set ?_ GE135.out | refine below_set ?_ GE142.out | refine below_set ?_ GE150.out | refine below_set ?_ GE159.out) | exact HB.out))))
                                    have n5_ := Aside0.mk (blk_below (g := gb135) (o := .cells #[.int .i64 t133, .int .i64 t134] 23 (0, 0)) (by (with_reducible repeat (first | refine blk_drewN ?_ _ | refine blk_drew ?_ | refine blk_alloc ?_ _)); exact BK135.out) hb)
                                    have n6_ := Aside0.mk (blk_below (g := gb142) (o := .cells #[.int .i64 t139, .int .i64 t140] 23 (0, 0)) (by (with_reducible repeat (first | refine blk_drewN ?_ _ | refine blk_drew ?_ | refine blk_alloc ?_ _)); exact BK142.out) hb)
                                    have n7_ := Aside0.mk (blk_below (g := gb150) (o := .cells #[.int .i64 t147, .int .i64 t148] 23 (0, 0)) (by (with_reducible repeat (first | refine blk_drewN ?_ _ | refine blk_drew ?_ | refine blk_alloc ?_ _)); exact BK150.out) hb)
                                    have n8_ := Aside0.mk (blk_below (g := gb159) (o := .cells #[.int .i64 t157, .int .i64 t158] 23 (0, 0)) (by (with_reducible repeat (first | refine blk_drewN ?_ _ | refine blk_drew ?_ | refine blk_alloc ?_ _)); exact BK159.out) hb)
                                    have n9_ := Aside0.mk (below_step (by repeat (first | (with_reducible first | exact HB.out | apply below_alloc | apply pw_below_drewN | apply below_drew1 | refine below_set ?_ GE135.out | refine below_set ?_ GE142.out | refine below_set ?_ GE150.out | refine below_set ?_ GE159.out) | exact HB.out)) hb)
                                    clear HO129
                                    clear HO145
                                    clear HO153
                                    clear HO174
                                    clear BK135
                                    clear BK142
                                    clear BK150
                                    clear BK159
                                    clear HB
                                    have HO129 := n0_
                                    have HO145 := n1_
                                    have HO153 := n2_
                                    have HO174 := n3_
                                    have HO177 := n4_
                                    have BK135 := n5_
                                    have BK142 := n6_
                                    have BK150 := n7_
                                    have BK159 := n8_
                                    have HB := n9_
                                    clear n0_ n1_ n2_ n3_ n4_ n5_ n6_ n7_ n8_ n9_
                                    clear hb ho78
                                    obtain ⟨Ao79, co79, eo79⟩ := Kd.R_slice HO177.out
                                    (first | subst eo79 | (injection eo79 with f1_ f2_ f3_; have f4_ := f1_.symm; have f5_ := f3_.symm; clear f1_ f2_ f3_; subst f4_; subst f5_))
                                    refine hK.out _ _ ⟨(blk_cell BK135.out 0).trans rfl, (blk_cell BK135.out 1).trans rfl, (blk_cell BK142.out 0).trans rfl, (blk_cell BK142.out 1).trans rfl, (blk_cell BK150.out 0).trans rfl, (blk_cell BK150.out 1).trans rfl, (blk_cell BK159.out 0).trans rfl, (blk_cell BK159.out 1).trans rfl, HS8_, HS9_, HS10_, HS11_, HS12_, HS13_, HS14_, HS15_⟩ (fun hHeld => ?_)
                                    clear hK K
                                    refine norm_ (a' := ?_) ?_ ?_
                                    rotate_left
                                    · show Act.put _ (some 124) _ = _
                                      simp only [Act.put, List.setIfInBounds_toArray, List.set_cons_zero, List.set_cons_succ, i64_w, i32_w]
                                      rfl
                                    refine one_ (i := 75) (N := some 125) #[true, true, true, true, true, true, true, true, true, true, true, true, true, true, true, true, true, true, true, true, true, true, true, true, true, true, true, true, true, true, true, true, true, true, true, true, true, true, true, true, true, true, true, true, true, true, true, true, true, true, true, true, true, true, true, true, true, true, true, true, true, true, true, true, true, true, true, true, true, true, true, true, true, true, true, true, false, false, false, false] rfl rfl (one_of HT_.out (by kernel_rfl)) (by decide) (fun K hK => ?_)
                                    refine goes_ Try.func19 (by kernel_rfl) rfl #[.slice (some ad169) y127.length co42, .slice Ao79 y175.length co79] (by rfl) rfl rfl (by (try simp only [List.map_toArray, List.map_cons, List.map_nil]); first | done | rfl | (simp only [List.length_drop, List.length_take]; rfl)) ?_
                                    with_reducible refine (priority_Keep.calls _ _ y127 _ _ y175 t178 _ ?side1 ?side2 ?side3 ?side4 A36.out).mono ?_
                                    (case side1 => repeat (first | exact (Kd.R_reads' HO129.out).2.2 | (with_reducible refine Kd.C_alloc ?_ _) | (with_reducible refine Kd.C_drewN ?_ _) | (with_reducible refine Kd.C_drew ?_)))
                                    (case side2 => exact (Kd.R_reads' HO129.out).2.1)
                                    (case side3 => repeat (first | exact (Kd.R_reads' HO177.out).2.2 | (with_reducible refine Kd.C_alloc ?_ _) | (with_reducible refine Kd.C_drewN ?_ _) | (with_reducible refine Kd.C_drew ?_)))
                                    (case side4 => exact (Kd.R_reads' HO177.out).2.1)
                                    rintro e w80 ⟨v179, rfl, ho0, hb⟩
                                    have HS8_ := (hb.cell (World.block_lt_of_cell? _ _ (hHeld.2.2.2.2.2.2.2.2.1))).trans (hHeld.2.2.2.2.2.2.2.2.1)
                                    have HS9_ := (hb.cell (World.block_lt_of_cell? _ _ (hHeld.2.2.2.2.2.2.2.2.2.1))).trans (hHeld.2.2.2.2.2.2.2.2.2.1)
                                    have HS10_ := (hb.cell (World.block_lt_of_cell? _ _ (hHeld.2.2.2.2.2.2.2.2.2.2.1))).trans (hHeld.2.2.2.2.2.2.2.2.2.2.1)
                                    have HS11_ := (hb.cell (World.block_lt_of_cell? _ _ (hHeld.2.2.2.2.2.2.2.2.2.2.2.1))).trans (hHeld.2.2.2.2.2.2.2.2.2.2.2.1)
                                    have HS12_ := (hb.cell (World.block_lt_of_cell? _ _ (hHeld.2.2.2.2.2.2.2.2.2.2.2.2.1))).trans (hHeld.2.2.2.2.2.2.2.2.2.2.2.2.1)
                                    have HS13_ := (hb.cell (World.block_lt_of_cell? _ _ (hHeld.2.2.2.2.2.2.2.2.2.2.2.2.2.1))).trans (hHeld.2.2.2.2.2.2.2.2.2.2.2.2.2.1)
                                    have HS14_ := (hb.cell (World.block_lt_of_cell? _ _ (hHeld.2.2.2.2.2.2.2.2.2.2.2.2.2.2.1))).trans (hHeld.2.2.2.2.2.2.2.2.2.2.2.2.2.2.1)
                                    have HS15_ := (hb.cell (World.block_lt_of_cell? _ _ (hHeld.2.2.2.2.2.2.2.2.2.2.2.2.2.2.2))).trans (hHeld.2.2.2.2.2.2.2.2.2.2.2.2.2.2.2)
                                    refine ⟨_, rfl, ?_⟩
                                    have n0_ := Aside0.mk (Kd.R_elder' (by (with_reducible repeat (first | apply Kd.R_alloc | apply Kd.R_drewN | apply Kd.R_drew)); exact HO129.out) (Kd.R_base ho0) hb)
                                    have n1_ := Aside0.mk (Kd.R_elder' (by (with_reducible repeat (first | apply Kd.R_alloc | apply Kd.R_drewN | apply Kd.R_drew)); exact HO145.out) (Kd.R_base ho0) hb)
                                    have n2_ := Aside0.mk (Kd.R_elder' (by (with_reducible repeat (first | apply Kd.R_alloc | apply Kd.R_drewN | apply Kd.R_drew)); exact HO153.out) (Kd.R_base ho0) hb)
                                    have n3_ := Aside0.mk (Kd.R_elder' (by (with_reducible repeat (first | apply Kd.R_alloc | apply Kd.R_drewN | apply Kd.R_drew)); exact HO174.out) (Kd.R_base ho0) hb)
                                    have n4_ := Aside0.mk (Kd.R_below (by (with_reducible repeat (first | apply Kd.R_alloc | apply Kd.R_drewN | apply Kd.R_drew)); exact HO177.out) hb)
                                    have n5_ := Aside0.mk (Kd.R_lower (Kd.R_new' (Kd.R_new' (Kd.R_new' (Kd.R_new' ho0 (Kd.R_lt (by (with_reducible repeat (first | apply Kd.R_alloc | apply Kd.R_drewN | apply Kd.R_drew)); exact HO129.out))) (Kd.R_lt (by (with_reducible repeat (first | apply Kd.R_alloc | apply Kd.R_drewN | apply Kd.R_drew)); exact HO145.out))) (Kd.R_lt (by (with_reducible repeat (first | apply Kd.R_alloc | apply Kd.R_drewN | apply Kd.R_drew)); exact HO153.out))) (Kd.R_lt (by (with_reducible repeat (first | apply Kd.R_alloc | apply Kd.R_drewN | apply Kd.R_drew)); exact HO174.out))) (below_size (by repeat (first | (with_reducible first | exact HB.out | apply below_alloc | apply pw_below_drewN | apply below_drew1 | refine below_set ?_ GE135.out | refine below_set ?_ GE142.out | refine below_set ?_ GE150.out | refine below_set ?_ GE159.out) | exact HB.out))))
                                    have n6_ := Aside0.mk (blk_below (g := gb135) (o := .cells #[.int .i64 t133, .int .i64 t134] 23 (0, 0)) (by (with_reducible repeat (first | refine blk_drewN ?_ _ | refine blk_drew ?_ | refine blk_alloc ?_ _)); exact BK135.out) hb)
                                    have n7_ := Aside0.mk (blk_below (g := gb142) (o := .cells #[.int .i64 t139, .int .i64 t140] 23 (0, 0)) (by (with_reducible repeat (first | refine blk_drewN ?_ _ | refine blk_drew ?_ | refine blk_alloc ?_ _)); exact BK142.out) hb)
                                    have n8_ := Aside0.mk (blk_below (g := gb150) (o := .cells #[.int .i64 t147, .int .i64 t148] 23 (0, 0)) (by (with_reducible repeat (first | refine blk_drewN ?_ _ | refine blk_drew ?_ | refine blk_alloc ?_ _)); exact BK150.out) hb)
                                    have n9_ := Aside0.mk (blk_below (g := gb159) (o := .cells #[.int .i64 t157, .int .i64 t158] 23 (0, 0)) (by (with_reducible repeat (first | refine blk_drewN ?_ _ | refine blk_drew ?_ | refine blk_alloc ?_ _)); exact BK159.out) hb)
                                    have n10_ := Aside0.mk (below_step (by repeat (first | (with_reducible first | exact HB.out | apply below_alloc | apply pw_below_drewN | apply below_drew1 | refine below_set ?_ GE135.out | refine below_set ?_ GE142.out | refine below_set ?_ GE150.out | refine below_set ?_ GE159.out) | exact HB.out)) hb)
                                    clear HO129
                                    clear HO145
                                    clear HO153
                                    clear HO174
                                    clear HO177
                                    clear BK135
                                    clear BK142
                                    clear BK150
                                    clear BK159
                                    clear HB
                                    have HO129 := n0_
                                    have HO145 := n1_
                                    have HO153 := n2_
                                    have HO174 := n3_
                                    have HO177 := n4_
                                    have HO180 := n5_
                                    have BK135 := n6_
                                    have BK142 := n7_
                                    have BK150 := n8_
                                    have BK159 := n9_
                                    have HB := n10_
                                    clear n0_ n1_ n2_ n3_ n4_ n5_ n6_ n7_ n8_ n9_ n10_
                                    (try clear hb)
                                    (try clear hb2)
                                    (try clear hk)
                                    (try clear hi)
                                    (try clear ho0)
                                    obtain ⟨Ao81, co81, eo81⟩ := Kd.R_slice HO180.out
                                    (first | subst eo81 | (injection eo81 with f1_ f2_ f3_; have f4_ := f1_.symm; have f5_ := f3_.symm; clear f1_ f2_ f3_; subst f4_; subst f5_))
                                    refine hK.out _ _ ⟨(blk_cell BK135.out 0).trans rfl, (blk_cell BK135.out 1).trans rfl, (blk_cell BK142.out 0).trans rfl, (blk_cell BK142.out 1).trans rfl, (blk_cell BK150.out 0).trans rfl, (blk_cell BK150.out 1).trans rfl, (blk_cell BK159.out 0).trans rfl, (blk_cell BK159.out 1).trans rfl, HS8_, HS9_, HS10_, HS11_, HS12_, HS13_, HS14_, HS15_⟩ (fun hHeld => ?_)
                                    clear hK K
                                    refine norm_ (a' := ?_) ?_ ?_
                                    rotate_left
                                    · show Act.put _ (some 125) _ = _
                                      simp only [Act.put, List.setIfInBounds_toArray, List.set_cons_zero, List.set_cons_succ, i64_w, i32_w]
                                      rfl
                                    refine pure_ (i := 76) (N := some 126) (v := ?_) (a' := ?_) #[true, true, true, true, true, true, true, true, true, true, true, true, true, true, true, true, true, true, true, true, true, true, true, true, true, true, true, true, true, true, true, true, true, true, true, true, true, true, true, true, true, true, true, true, true, true, true, true, true, true, true, true, true, true, true, true, true, true, true, true, true, true, true, true, true, true, true, true, true, true, true, true, true, true, true, true, true, false, false, false] rfl rfl (any_of HT_.out (by kernel_rfl)) (fun _ _ _ h => h) (Or.inl ⟨by rfl, ?_⟩) ?_ ?_
                                    rotate_left
                                    · intro w'
                                      go_simp
                                      with_reducible rfl
                                    rotate_left
                                    · simp only [Act.put, List.setIfInBounds_toArray, List.set_cons_zero, List.set_cons_succ, i64_w, i32_w]
                                      rfl
                                    refine pure_ (i := 77) (N := some 127) (v := ?_) (a' := ?_) #[true, true, true, true, true, true, true, true, true, true, true, true, true, true, true, true, true, true, true, true, true, true, true, true, true, true, true, true, true, true, true, true, true, true, true, true, true, true, true, true, true, true, true, true, true, true, true, true, true, true, true, true, true, true, true, true, true, true, true, true, true, true, true, true, true, true, true, true, true, true, true, true, true, true, true, true, true, true, false, false] rfl rfl (any_of HT_.out (by kernel_rfl)) (fun _ _ _ h => h) (Or.inl ⟨by rfl, ?_⟩) ?_ ?_
                                    rotate_left
                                    · intro w'
                                      go_simp
                                      with_reducible rfl
                                    rotate_left
                                    · simp only [Act.put, List.setIfInBounds_toArray, List.set_cons_zero, List.set_cons_succ, i64_w, i32_w]
                                      rfl
                                    refine pure_ (i := 78) (N := some 128) (v := ?_) (a' := ?_) #[true, true, true, true, true, true, true, true, true, true, true, true, true, true, true, true, true, true, true, true, true, true, true, true, true, true, true, true, true, true, true, true, true, true, true, true, true, true, true, true, true, true, true, true, true, true, true, true, true, true, true, true, true, true, true, true, true, true, true, true, true, true, true, true, true, true, true, true, true, true, true, true, true, true, true, true, true, true, true, false] rfl rfl (any_of HT_.out (by kernel_rfl)) (fun _ _ _ h => h) (Or.inl ⟨by rfl, ?_⟩) ?_ ?_
                                    rotate_left
                                    · intro w'
                                      go_simp
                                      with_reducible rfl
                                    rotate_left
                                    · simp only [Act.put, List.setIfInBounds_toArray, List.set_cons_zero, List.set_cons_succ, i64_w, i32_w]
                                      rfl
                                    refine pure_ (i := 79) (N := some 0) (v := ?_) (a' := ?_) #[true, true, true, true, true, true, true, true, true, true, true, true, true, true, true, true, true, true, true, true, true, true, true, true, true, true, true, true, true, true, true, true, true, true, true, true, true, true, true, true, true, true, true, true, true, true, true, true, true, true, true, true, true, true, true, true, true, true, true, true, true, true, true, true, true, true, true, true, true, true, true, true, true, true, true, true, true, true, true, true] rfl rfl (any_of HT_.out (by kernel_rfl)) (fun _ _ _ h => h) (Or.inl ⟨by rfl, ?_⟩) ?_ ?_
                                    rotate_left
                                    · intro w'
                                      go_simp
                                      with_reducible rfl
                                    rotate_left
                                    · simp only [Act.put, List.setIfInBounds_toArray, List.set_cons_zero, List.set_cons_succ, i64_w, i32_w]
                                      rfl
                                    refine done_ (done_of HT_.out (by kernel_rfl)) ?_
                                    try go_wp2
                                    go_ret
                                    exact ⟨by first | rfl | (simp [errW_none, errW_some] <;> rfl) | (simp [*, errW_none, errW_some] <;> rfl), by repeat (first | (with_reducible first | exact HB.out | apply below_alloc | apply pw_below_drewN | apply below_drew1 | refine below_set ?_ GE135.out | refine below_set ?_ GE142.out | refine below_set ?_ GE150.out | refine below_set ?_ GE159.out) | exact HB.out)⟩
                                  · rw [if_neg c35] at H
                                    exact absurd H (by simp)
                                · rw [if_neg c33] at H
                                  exact absurd H (by simp)
                              · rw [if_neg c31] at H
                                exact absurd H (by simp)
                            · rw [if_neg c29] at H
                              exact absurd H (by simp)
                          · rw [if_neg c28] at H
                            exact absurd H (by simp)
                        · rw [if_neg c26] at H
                          exact absurd H (by simp)
                      · rw [if_neg c25] at H
                        exact absurd H (by simp)
                    · rw [if_neg c23] at H
                      exact absurd H (by simp)
                  · rw [if_neg c22] at H
                    exact absurd H (by simp)
                · rw [if_neg c21] at H
                  exact absurd H (by simp)
              · rw [if_neg c20] at H
                exact absurd H (by simp)
            · rw [if_neg c19] at H
              exact absurd H (by simp)
          · rw [if_neg c18] at H
            exact absurd H (by simp)
        · rw [if_neg c16] at H
          exact absurd H (by simp)
      · rw [if_neg c15] at H
        exact absurd H (by simp)
    · rw [if_neg c14] at H
      exact absurd H (by simp)
  · rw [if_neg c12] at H
    exact absurd H (by simp)
end Go.Proofs.Ytejidnmgjccidaa.R
end
section
namespace Go.Proofs.Ytejidnmgjccidaa.R
open Go.RowKit Go.Proofs.YtejidnmgjccidaaW.PrintWords Go.Proofs.YtejidnmgjccidaaW.PrintLast Go.Proofs.YtejidnmgjccidaaW.PrintMore
attribute [local go_sem] max2_int min2_int max_two min_two max_three min_three max_four min_four
set_option linter.unusedVariables false
set_option linter.unusedSimpArgs false
def plenumlaw13_few.f (l0 : List (S25)) : Option (Bool) := some (decide ((l0.length : Int) ≤ 60))
set_option maxHeartbeats 8000000 in
set_option maxRecDepth 100000 in
theorem plenumlaw13_few.calls (A0 : Option Addr) (c0 : Nat) (l0 : List (S25)) (r : Bool) (w : World) (hr0 : Kd.C k25 w A0 l0.length l0) (hc0 : l0.length ≤ c0) (h : plenumlaw13_few.f l0 = some r) :
    Calls Try.prog 11 #[.slice A0 l0.length c0] w fun e w' => e = .returned (.bool r) ∧ Drawn0 w w' := by
  have HR0 := Aside0.mk hr0
  have HC0 := Aside0.mk hc0
  clear hr0 hc0
  have H : (some (decide ((l0.length : Int) ≤ 60))) = some r := h
  clear h
  obtain rfl := Option.some.inj H
  go_enter Try.func11, Try.ntmps11
  go_wp2
  go_ret
  exact ⟨by first | rfl | (simp; done) | (simp [*]; done), by repeat (first | exact Drawn0.refl _ | apply Drawn0.step)⟩
end Go.Proofs.Ytejidnmgjccidaa.R
end
