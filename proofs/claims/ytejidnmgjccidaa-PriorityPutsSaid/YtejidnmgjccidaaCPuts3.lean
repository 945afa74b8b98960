/- PriorityPuts: one part of the proof that the law answers true for every input, and that its arguments read afterwards as before. No condition. -/
import Derived.Test.YtejidnmgjccidaaCPuts2
import Derived.ProofKit
import Derived.Deep.Slices
import Derived.SizedLaws
import Derived.OpenShut
import Derived.DataReads
import Derived.WalkKit
import Derived.ShutString
import Derived.ChangeOld
import Derived.Below
import Derived.Test.YtejidnmgjccidaaRows
section
namespace Go.Proofs.Ytejidnmgjccidaa.R
open Go.RowKit Go.Proofs.YtejidnmgjccidaaW.PrintWords Go.Proofs.YtejidnmgjccidaaW.PrintLast Go.Proofs.YtejidnmgjccidaaW.PrintMore
attribute [local go_sem] max2_int min2_int max_two min_two max_three min_three max_four min_four
set_option linter.unusedVariables false
set_option linter.unusedSimpArgs false
def plenumref13_Possible.f (a0_0 : Int) (a0_1 : Int) : Option (Bool) := if a0_0 = 0 then (some (a0_1 == 0)) else (if a0_0 = 1 then (if a0_1 ≥ (-1000000000000) then (some (decide (a0_1 ≤ 1000000000000))) else (some false)) else (if a0_0 = 2 then (if a0_1 = 0 then (some true) else (some (a0_1 == 1))) else (if a0_0 = 3 then (if a0_1 ≥ 1 then (some (decide (a0_1 ≤ 16))) else (some false)) else (some false))))
set_option maxHeartbeats 8000000 in
set_option maxRecDepth 100000 in
theorem plenumref13_Possible.calls (a0_0 : Int) (a0_1 : Int) (r : Bool) (w : World) (h : plenumref13_Possible.f a0_0 a0_1 = some r) :
    Calls Try.prog 32 #[.agg #[.int .i64 a0_0, .int .i64 a0_1]] w fun e w' => e = .returned (.bool r) ∧ Below w.heap.size w w' := by
  have hu23 := Try.underlying23
  have HB := Aside0.mk (Below.refl w.heap.size w)
  have H : (if a0_0 = 0 then (some (a0_1 == 0)) else (if a0_0 = 1 then (if a0_1 ≥ (-1000000000000) then (some (decide (a0_1 ≤ 1000000000000))) else (some false)) else (if a0_0 = 2 then (if a0_1 = 0 then (some true) else (some (a0_1 == 1))) else (if a0_0 = 3 then (if a0_1 ≥ 1 then (some (decide (a0_1 ≤ 16))) else (some false)) else (some false))))) = some r := h
  clear h
  by_cases c2 : a0_0 = 0
  · rw [if_pos c2] at H
    have c2b0 : (a0_0 == 0) = true := beq_iff_eq.mpr c2
    have c2b1 : (a0_0 != 0) = false := bne_eq_false_iff_eq.mpr c2
    clear c2
    obtain rfl := Option.some.inj H
    go_enter Try.func32, Try.ntmps32
    go_wp2_with (first | ((with_reducible refine gate_dst (N := 1) rfl ?_); refine box_event ?hg (N := 1) ?hd (cs := #[.int .i64 a0_0, .int .i64 a0_1]) (t := 23) ?hr ?_; (case hd => rfl); (case hg => rfl); (case hr => first | (go_simp; done) | (go_simp; rfl)); intro gb181 hg w3 hbox hb; have n0_ := Aside0.mk (below_step (by repeat (first | (with_reducible first | exact HB.out | apply below_alloc | apply pw_below_drewN | apply below_drew1) | exact HB.out)) hb); have n1_ := Aside0.mk (hbox); have n2_ := Aside0.mk ((by rw [hg]; exact (below_size (by repeat (first | (with_reducible first | exact HB.out | apply below_alloc | apply pw_below_drewN | apply below_drew1) | exact HB.out))) : w.heap.size ≤ gb181)); have n3_ := Aside0.mk ((by rw [hg]; exact (below_size (by repeat (first | (with_reducible first | exact HB.out | apply below_alloc | apply pw_below_drewN | apply below_drew1) | exact HB.out))) : w.heap.size ≤ gb181)); clear HB; have HB := n0_; have BK181 := n1_; have GW181 := n2_; have GE181 := n3_; clear n0_ n1_ n2_ n3_; clear hb hbox hg; have hcz4_0 : w3.cell? ⟨gb181, 0, none⟩ = some (.int .i64 a0_0) := (blk_cell BK181.out 0).trans rfl; have hcz4_1 : w3.cell? ⟨gb181, 1, none⟩ = some (.int .i64 a0_1) := (blk_cell BK181.out 1).trans rfl; have hfz4_0 := blk_frozen BK181.out 0; have hfz4_1 := blk_frozen BK181.out 1))
    go_ret
    exact ⟨by first | rfl | (simp [errW_none, errW_some] <;> rfl) | (simp [*, errW_none, errW_some] <;> rfl), by repeat (first | (with_reducible first | exact HB.out | apply below_alloc | apply pw_below_drewN | apply below_drew1 | refine below_set ?_ GE181.out) | exact HB.out)⟩
  · rw [if_neg c2] at H
    have c2b0 : (a0_0 == 0) = false := beq_eq_false_iff_ne.mpr c2
    have c2b1 : (a0_0 != 0) = true := bne_iff_ne.mpr c2
    by_cases c5 : a0_0 = 1
    · rw [if_pos c5] at H
      have c5b0 : (a0_0 == 1) = true := beq_iff_eq.mpr c5
      have c5b1 : (a0_0 != 1) = false := bne_eq_false_iff_eq.mpr c5
      clear c5
      by_cases c6 : a0_1 ≥ (-1000000000000)
      · rw [if_pos c6] at H
        have c6b0 : decide ((-1000000000000) ≤ a0_1) = true := decide_eq_true c6
        clear c6
        obtain rfl := Option.some.inj H
        go_enter Try.func32, Try.ntmps32
        go_wp2_with (first | ((with_reducible refine gate_dst (N := 1) rfl ?_); refine box_event ?hg (N := 1) ?hd (cs := #[.int .i64 a0_0, .int .i64 a0_1]) (t := 23) ?hr ?_; (case hd => rfl); (case hg => rfl); (case hr => first | (go_simp; done) | (go_simp; rfl)); intro gb181 hg w7 hbox hb; have n0_ := Aside0.mk (below_step (by repeat (first | (with_reducible first | exact HB.out | apply below_alloc | apply pw_below_drewN | apply below_drew1) | exact HB.out)) hb); have n1_ := Aside0.mk (hbox); have n2_ := Aside0.mk ((by rw [hg]; exact (below_size (by repeat (first | (with_reducible first | exact HB.out | apply below_alloc | apply pw_below_drewN | apply below_drew1) | exact HB.out))) : w.heap.size ≤ gb181)); have n3_ := Aside0.mk ((by rw [hg]; exact (below_size (by repeat (first | (with_reducible first | exact HB.out | apply below_alloc | apply pw_below_drewN | apply below_drew1) | exact HB.out))) : w.heap.size ≤ gb181)); clear HB; have HB := n0_; have BK181 := n1_; have GW181 := n2_; have GE181 := n3_; clear n0_ n1_ n2_ n3_; clear hb hbox hg; have hcz8_0 : w7.cell? ⟨gb181, 0, none⟩ = some (.int .i64 a0_0) := (blk_cell BK181.out 0).trans rfl; have hcz8_1 : w7.cell? ⟨gb181, 1, none⟩ = some (.int .i64 a0_1) := (blk_cell BK181.out 1).trans rfl; have hfz8_0 := blk_frozen BK181.out 0; have hfz8_1 := blk_frozen BK181.out 1))
        go_ret
        exact ⟨by first | rfl | (simp [errW_none, errW_some] <;> rfl) | (simp [*, errW_none, errW_some] <;> rfl), by repeat (first | (with_reducible first | exact HB.out | apply below_alloc | apply pw_below_drewN | apply below_drew1 | refine below_set ?_ GE181.out) | exact HB.out)⟩
      · rw [if_neg c6] at H
        have c6b0 : decide ((-1000000000000) ≤ a0_1) = false := decide_eq_false c6
        clear c6
        obtain rfl := Option.some.inj H
        go_enter Try.func32, Try.ntmps32
        go_wp2_with (first | ((with_reducible refine gate_dst (N := 1) rfl ?_); refine box_event ?hg (N := 1) ?hd (cs := #[.int .i64 a0_0, .int .i64 a0_1]) (t := 23) ?hr ?_; (case hd => rfl); (case hg => rfl); (case hr => first | (go_simp; done) | (go_simp; rfl)); intro gb181 hg w9 hbox hb; have n0_ := Aside0.mk (below_step (by repeat (first | (with_reducible first | exact HB.out | apply below_alloc | apply pw_below_drewN | apply below_drew1) | exact HB.out)) hb); have n1_ := Aside0.mk (hbox); have n2_ := Aside0.mk ((by rw [hg]; exact (below_size (by repeat (first | (with_reducible first | exact HB.out | apply below_alloc | apply pw_below_drewN | apply below_drew1) | exact HB.out))) : w.heap.size ≤ gb181)); have n3_ := Aside0.mk ((by rw [hg]; exact (below_size (by repeat (first | (with_reducible first | exact HB.out | apply below_alloc | apply pw_below_drewN | apply below_drew1) | exact HB.out))) : w.heap.size ≤ gb181)); clear HB; have HB := n0_; have BK181 := n1_; have GW181 := n2_; have GE181 := n3_; clear n0_ n1_ n2_ n3_; clear hb hbox hg; have hcz10_0 : w9.cell? ⟨gb181, 0, none⟩ = some (.int .i64 a0_0) := (blk_cell BK181.out 0).trans rfl; have hcz10_1 : w9.cell? ⟨gb181, 1, none⟩ = some (.int .i64 a0_1) := (blk_cell BK181.out 1).trans rfl; have hfz10_0 := blk_frozen BK181.out 0; have hfz10_1 := blk_frozen BK181.out 1))
        go_ret
        exact ⟨by first | rfl | (simp [errW_none, errW_some] <;> rfl) | (simp [*, errW_none, errW_some] <;> rfl), by repeat (first | (with_reducible first | exact HB.out | apply below_alloc | apply pw_below_drewN | apply below_drew1 | refine below_set ?_ GE181.out) | exact HB.out)⟩
    · rw [if_neg c5] at H
      have c5b0 : (a0_0 == 1) = false := beq_eq_false_iff_ne.mpr c5
      have c5b1 : (a0_0 != 1) = true := bne_iff_ne.mpr c5
      by_cases c11 : a0_0 = 2
      · rw [if_pos c11] at H
        have c11b0 : (a0_0 == 2) = true := beq_iff_eq.mpr c11
        have c11b1 : (a0_0 != 2) = false := bne_eq_false_iff_eq.mpr c11
        clear c11
        by_cases c12 : a0_1 = 0
        · rw [if_pos c12] at H
          have c12b0 : (a0_1 == 0) = true := beq_iff_eq.mpr c12
          have c12b1 : (a0_1 != 0) = false := bne_eq_false_iff_eq.mpr c12
          clear c12
          obtain rfl := Option.some.inj H
          go_enter Try.func32, Try.ntmps32
          go_wp2_with (first | ((with_reducible refine gate_dst (N := 1) rfl ?_); refine box_event ?hg (N := 1) ?hd (cs := #[.int .i64 a0_0, .int .i64 a0_1]) (t := 23) ?hr ?_; (case hd => rfl); (case hg => rfl); (case hr => first | (go_simp; done) | (go_simp; rfl)); intro gb181 hg w13 hbox hb; have n0_ := Aside0.mk (below_step (by repeat (first | (with_reducible first | exact HB.out | apply below_alloc | apply pw_below_drewN | apply below_drew1) | exact HB.out)) hb); have n1_ := Aside0.mk (hbox); have n2_ := Aside0.mk ((by rw [hg]; exact (below_size (by repeat (first | (with_reducible first | exact HB.out | apply below_alloc | apply pw_below_drewN | apply below_drew1) | exact HB.out))) : w.heap.size ≤ gb181)); have n3_ := Aside0.mk ((by rw [hg]; exact (below_size (by repeat (first | (with_reducible first | exact HB.out | apply below_alloc | apply pw_below_drewN | apply below_drew1) | exact HB.out))) : w.heap.size ≤ gb181)); clear HB; have HB := n0_; have BK181 := n1_; have GW181 := n2_; have GE181 := n3_; clear n0_ n1_ n2_ n3_; clear hb hbox hg; have hcz14_0 : w13.cell? ⟨gb181, 0, none⟩ = some (.int .i64 a0_0) := (blk_cell BK181.out 0).trans rfl; have hcz14_1 : w13.cell? ⟨gb181, 1, none⟩ = some (.int .i64 a0_1) := (blk_cell BK181.out 1).trans rfl; have hfz14_0 := blk_frozen BK181.out 0; have hfz14_1 := blk_frozen BK181.out 1))
          go_ret
          exact ⟨by first | rfl | (simp [errW_none, errW_some] <;> rfl) | (simp [*, errW_none, errW_some] <;> rfl), by repeat (first | (with_reducible first | exact HB.out | apply below_alloc | apply pw_below_drewN | apply below_drew1 | refine below_set ?_ GE181.out) | exact HB.out)⟩
        · rw [if_neg c12] at H
          have c12b0 : (a0_1 == 0) = false := beq_eq_false_iff_ne.mpr c12
          have c12b1 : (a0_1 != 0) = true := bne_iff_ne.mpr c12
          obtain rfl := Option.some.inj H
          go_enter Try.func32, Try.ntmps32
          go_wp2_with (first | ((with_reducible refine gate_dst (N := 1) rfl ?_); refine box_event ?hg (N := 1) ?hd (cs := #[.int .i64 a0_0, .int .i64 a0_1]) (t := 23) ?hr ?_; (case hd => rfl); (case hg => rfl); (case hr => first | (go_simp; done) | (go_simp; rfl)); intro gb181 hg w15 hbox hb; have n0_ := Aside0.mk (below_step (by repeat (first | (with_reducible first | exact HB.out | apply below_alloc | apply pw_below_drewN | apply below_drew1) | exact HB.out)) hb); have n1_ := Aside0.mk (hbox); have n2_ := Aside0.mk ((by rw [hg]; exact (below_size (by repeat (first | (with_reducible first | exact HB.out | apply below_alloc | apply pw_below_drewN | apply below_drew1) | exact HB.out))) : w.heap.size ≤ gb181)); have n3_ := Aside0.mk ((by rw [hg]; exact (below_size (by repeat (first | (with_reducible first | exact HB.out | apply below_alloc | apply pw_below_drewN | apply below_drew1) | exact HB.out))) : w.heap.size ≤ gb181)); clear HB; have HB := n0_; have BK181 := n1_; have GW181 := n2_; have GE181 := n3_; clear n0_ n1_ n2_ n3_; clear hb hbox hg; have hcz16_0 : w15.cell? ⟨gb181, 0, none⟩ = some (.int .i64 a0_0) := (blk_cell BK181.out 0).trans rfl; have hcz16_1 : w15.cell? ⟨gb181, 1, none⟩ = some (.int .i64 a0_1) := (blk_cell BK181.out 1).trans rfl; have hfz16_0 := blk_frozen BK181.out 0; have hfz16_1 := blk_frozen BK181.out 1))
          go_ret
          exact ⟨by first | rfl | (simp [errW_none, errW_some] <;> rfl) | (simp [*, errW_none, errW_some] <;> rfl), by repeat (first | (with_reducible first | exact HB.out | apply below_alloc | apply pw_below_drewN | apply below_drew1 | refine below_set ?_ GE181.out) | exact HB.out)⟩
      · rw [if_neg c11] at H
        have c11b0 : (a0_0 == 2) = false := beq_eq_false_iff_ne.mpr c11
        have c11b1 : (a0_0 != 2) = true := bne_iff_ne.mpr c11
        by_cases c17 : a0_0 = 3
        · rw [if_pos c17] at H
          have c17b0 : (a0_0 == 3) = true := beq_iff_eq.mpr c17
          have c17b1 : (a0_0 != 3) = false := bne_eq_false_iff_eq.mpr c17
          clear c17
          by_cases c18 : a0_1 ≥ 1
          · rw [if_pos c18] at H
            have c18b0 : decide (1 ≤ a0_1) = true := decide_eq_true c18
            clear c18
            obtain rfl := Option.some.inj H
            go_enter Try.func32, Try.ntmps32
            go_wp2_with (first | ((with_reducible refine gate_dst (N := 1) rfl ?_); refine box_event ?hg (N := 1) ?hd (cs := #[.int .i64 a0_0, .int .i64 a0_1]) (t := 23) ?hr ?_; (case hd => rfl); (case hg => rfl); (case hr => first | (go_simp; done) | (go_simp; rfl)); intro gb181 hg w19 hbox hb; have n0_ := Aside0.mk (below_step (by repeat (first | (with_reducible first | exact HB.out | apply below_alloc | apply pw_below_drewN | apply below_drew1) | exact HB.out)) hb); have n1_ := Aside0.mk (hbox); have n2_ := Aside0.mk ((by rw [hg]; exact (below_size (by repeat (first | (with_reducible first | exact HB.out | apply below_alloc | apply pw_below_drewN | apply below_drew1) | exact HB.out))) : w.heap.size ≤ gb181)); have n3_ := Aside0.mk ((by rw [hg]; exact (below_size (by repeat (first | (with_reducible first | exact HB.out | apply below_alloc | apply pw_below_drewN | apply below_drew1) | exact HB.out))) : w.heap.size ≤ gb181)); clear HB; have HB := n0_; have BK181 := n1_; have GW181 := n2_; have GE181 := n3_; clear n0_ n1_ n2_ n3_; clear hb hbox hg; have hcz20_0 : w19.cell? ⟨gb181, 0, none⟩ = some (.int .i64 a0_0) := (blk_cell BK181.out 0).trans rfl; have hcz20_1 : w19.cell? ⟨gb181, 1, none⟩ = some (.int .i64 a0_1) := (blk_cell BK181.out 1).trans rfl; have hfz20_0 := blk_frozen BK181.out 0; have hfz20_1 := blk_frozen BK181.out 1))
            go_ret
            exact ⟨by first | rfl | (simp [errW_none, errW_some] <;> rfl) | (simp [*, errW_none, errW_some] <;> rfl), by repeat (first | (with_reducible first | exact HB.out | apply below_alloc | apply pw_below_drewN | apply below_drew1 | refine below_set ?_ GE181.out) | exact HB.out)⟩
          · rw [if_neg c18] at H
            have c18b0 : decide (1 ≤ a0_1) = false := decide_eq_false c18
            clear c18
            obtain rfl := Option.some.inj H
            go_enter Try.func32, Try.ntmps32
            go_wp2_with (first | ((with_reducible refine gate_dst (N := 1) rfl ?_); refine box_event ?hg (N := 1) ?hd (cs := #[.int .i64 a0_0, .int .i64 a0_1]) (t := 23) ?hr ?_; (case hd => rfl); (case hg => rfl); (case hr => first | (go_simp; done) | (go_simp; rfl)); intro gb181 hg w21 hbox hb; have n0_ := Aside0.mk (below_step (by repeat (first | (with_reducible first | exact HB.out | apply below_alloc | apply pw_below_drewN | apply below_drew1) | exact HB.out)) hb); have n1_ := Aside0.mk (hbox); have n2_ := Aside0.mk ((by rw [hg]; exact (below_size (by repeat (first | (with_reducible first | exact HB.out | apply below_alloc | apply pw_below_drewN | apply below_drew1) | exact HB.out))) : w.heap.size ≤ gb181)); have n3_ := Aside0.mk ((by rw [hg]; exact (below_size (by repeat (first | (with_reducible first | exact HB.out | apply below_alloc | apply pw_below_drewN | apply below_drew1) | exact HB.out))) : w.heap.size ≤ gb181)); clear HB; have HB := n0_; have BK181 := n1_; have GW181 := n2_; have GE181 := n3_; clear n0_ n1_ n2_ n3_; clear hb hbox hg; have hcz22_0 : w21.cell? ⟨gb181, 0, none⟩ = some (.int .i64 a0_0) := (blk_cell BK181.out 0).trans rfl; have hcz22_1 : w21.cell? ⟨gb181, 1, none⟩ = some (.int .i64 a0_1) := (blk_cell BK181.out 1).trans rfl; have hfz22_0 := blk_frozen BK181.out 0; have hfz22_1 := blk_frozen BK181.out 1))
            go_ret
            exact ⟨by first | rfl | (simp [errW_none, errW_some] <;> rfl) | (simp [*, errW_none, errW_some] <;> rfl), by repeat (first | (with_reducible first | exact HB.out | apply below_alloc | apply pw_below_drewN | apply below_drew1 | refine below_set ?_ GE181.out) | exact HB.out)⟩
        · rw [if_neg c17] at H
          have c17b0 : (a0_0 == 3) = false := beq_eq_false_iff_ne.mpr c17
          have c17b1 : (a0_0 != 3) = true := bne_iff_ne.mpr c17
          obtain rfl := Option.some.inj H
          go_enter Try.func32, Try.ntmps32
          go_wp2_with (first | ((with_reducible refine gate_dst (N := 1) rfl ?_); refine box_event ?hg (N := 1) ?hd (cs := #[.int .i64 a0_0, .int .i64 a0_1]) (t := 23) ?hr ?_; (case hd => rfl); (case hg => rfl); (case hr => first | (go_simp; done) | (go_simp; rfl)); intro gb181 hg w23 hbox hb; have n0_ := Aside0.mk (below_step (by repeat (first | (with_reducible first | exact HB.out | apply below_alloc | apply pw_below_drewN | apply below_drew1) | exact HB.out)) hb); have n1_ := Aside0.mk (hbox); have n2_ := Aside0.mk ((by rw [hg]; exact (below_size (by repeat (first | (with_reducible first | exact HB.out | apply below_alloc | apply pw_below_drewN | apply below_drew1) | exact HB.out))) : w.heap.size ≤ gb181)); have n3_ := Aside0.mk ((by rw [hg]; exact (below_size (by repeat (first | (with_reducible first | exact HB.out | apply below_alloc | apply pw_below_drewN | apply below_drew1) | exact HB.out))) : w.heap.size ≤ gb181)); clear HB; have HB := n0_; have BK181 := n1_; have GW181 := n2_; have GE181 := n3_; clear n0_ n1_ n2_ n3_; clear hb hbox hg; have hcz24_0 : w23.cell? ⟨gb181, 0, none⟩ = some (.int .i64 a0_0) := (blk_cell BK181.out 0).trans rfl; have hcz24_1 : w23.cell? ⟨gb181, 1, none⟩ = some (.int .i64 a0_1) := (blk_cell BK181.out 1).trans rfl; have hfz24_0 := blk_frozen BK181.out 0; have hfz24_1 := blk_frozen BK181.out 1))
          go_ret
          exact ⟨by first | rfl | (simp [errW_none, errW_some] <;> rfl) | (simp [*, errW_none, errW_some] <;> rfl), by repeat (first | (with_reducible first | exact HB.out | apply below_alloc | apply pw_below_drewN | apply below_drew1 | refine below_set ?_ GE181.out) | exact HB.out)⟩
end Go.Proofs.Ytejidnmgjccidaa.R
end
section
namespace Go.Proofs.Ytejidnmgjccidaa.R
open Go.RowKit Go.Proofs.YtejidnmgjccidaaW.PrintWords Go.Proofs.YtejidnmgjccidaaW.PrintLast Go.Proofs.YtejidnmgjccidaaW.PrintMore
attribute [local go_sem] max2_int min2_int max_two min_two max_three min_three max_four min_four
set_option linter.unusedVariables false
set_option linter.unusedSimpArgs false
mutual
def plenumref13_Check.j0 : Nat → Bool → Int → Int → Int → Int → Option (Int)
  | 0, _, _, _, _, _ => none
  | k + 1, x10, x183000, x183001, x183002, x183003 => if x10 = true then (some 1) else (if x183001 < 1 then (plenumref13_Check.j1 k true x183000 x183001 x183002 x183003) else (plenumref13_Check.j1 k (decide (x183001 > 1000000000)) x183000 x183001 x183002 x183003))
def plenumref13_Check.j1 : Nat → Bool → Int → Int → Int → Int → Option (Int)
  | 0, _, _, _, _, _ => none
  | k + 1, x18, x183000, x183001, x183002, x183003 => if x18 = true then (some 6) else ((plenumref13_Possible.f x183002 x183003).bind fun t183 => (if t183 = true then (some 0) else (some 11)))
end
def plenumref13_Check.f (k : Nat) (a0_0 : Int) (a0_1 : Int) (a0_2 : Int) (a0_3 : Int) : Option (Int) := if a0_0 < 1 then (plenumref13_Check.j0 k true a0_0 a0_1 a0_2 a0_3) else (plenumref13_Check.j0 k (decide (a0_0 > 16)) a0_0 a0_1 a0_2 a0_3)
set_option maxHeartbeats 8000000 in
set_option maxRecDepth 100000 in
theorem plenumref13_Check.calls (k : Nat) (a0_0 : Int) (a0_1 : Int) (a0_2 : Int) (a0_3 : Int) (r : Int) (w : World) (h : plenumref13_Check.f k a0_0 a0_1 a0_2 a0_3 = some r) :
    Calls Try.prog 13 #[.agg #[.int .i64 a0_0, .int .i64 a0_1, .int .i64 a0_2, .int .i64 a0_3]] w fun e w' => e = .returned (.int .i64 r) ∧ Below w.heap.size w w' := by
  have hu25 := Try.underlying25
  have hu23 := Try.underlying23
  have HB := Aside0.mk (Below.refl w.heap.size w)
  have H : (if a0_0 < 1 then (plenumref13_Check.j0 k true a0_0 a0_1 a0_2 a0_3) else (plenumref13_Check.j0 k (decide (a0_0 > 16)) a0_0 a0_1 a0_2 a0_3)) = some r := h
  clear h
  have HC2 := Aside0.mk H
  clear H
  go_enter Try.func13, Try.ntmps13
  go_upto_region 1 with (first | ((with_reducible refine gate_dst (N := 1) rfl ?_); refine box_event ?hg (N := 1) ?hd (cs := #[.int .i64 a0_0, .int .i64 a0_1, .int .i64 a0_2, .int .i64 a0_3]) (t := 25) ?hr ?_; (case hd => rfl); (case hg => rfl); (case hr => first | (go_simp; done) | (go_simp; rfl)); intro gb182 hg w3 hbox hb; have n0_ := Aside0.mk (below_step (by repeat (first | (with_reducible first | exact HB.out | apply below_alloc | apply pw_below_drewN | apply below_drew1) | exact HB.out)) hb); have n1_ := Aside0.mk (hbox); have n2_ := Aside0.mk ((by rw [hg]; exact (below_size (by repeat (first | (with_reducible first | exact HB.out | apply below_alloc | apply pw_below_drewN | apply below_drew1) | exact HB.out))) : w.heap.size ≤ gb182)); have n3_ := Aside0.mk ((by rw [hg]; exact (below_size (by repeat (first | (with_reducible first | exact HB.out | apply below_alloc | apply pw_below_drewN | apply below_drew1) | exact HB.out))) : w.heap.size ≤ gb182)); clear HB; have HB := n0_; have BK182 := n1_; have GW182 := n2_; have GE182 := n3_; clear n0_ n1_ n2_ n3_; clear hb hbox hg))
  (try simp only [Act.put, List.setIfInBounds_toArray, List.set_cons_zero, List.set_cons_succ])
  go_cut [10] (fun v10 wc => ∃ (kq : Nat) (x10_1 : Bool), v10 = .bool x10_1 ∧ Aside0 (plenumref13_Check.j0 kq x10_1 a0_0 a0_1 a0_2 a0_3 = some r) ∧ Aside0 (kq ≤ k) ∧ Aside0 (wc.heap[gb182]? = some (.cells #[.int .i64 a0_0, .int .i64 a0_1, .int .i64 a0_2, .int .i64 a0_3] 25 (0, 0))) ∧ Aside0 (Below w.heap.size w wc))
  case first =>
    have H := HC2.out
    clear HC2
    by_cases c4 : a0_0 < 1
    · rw [if_pos c4] at H
      have c4b0 : decide (a0_0 < 1) = true := decide_eq_true c4
      clear c4
      (first | rw [c4b0] | (simp only [i64_w, i32_w]; rw [c4b0]) | skip)
      have H' := Aside0.mk H
      clear H
      have hcz5_0 : w3.cell? ⟨gb182, 0, none⟩ = some (.int .i64 a0_0) := (blk_cell BK182.out 0).trans rfl
      have hcz5_1 : w3.cell? ⟨gb182, 1, none⟩ = some (.int .i64 a0_1) := (blk_cell BK182.out 1).trans rfl
      have hcz5_2 : w3.cell? ⟨gb182, 2, none⟩ = some (.int .i64 a0_2) := (blk_cell BK182.out 2).trans rfl
      have hcz5_3 : w3.cell? ⟨gb182, 3, none⟩ = some (.int .i64 a0_3) := (blk_cell BK182.out 3).trans rfl
      have hfz5_0 := blk_frozen BK182.out 0
      have hfz5_1 := blk_frozen BK182.out 1
      have hfz5_2 := blk_frozen BK182.out 2
      have hfz5_3 := blk_frozen BK182.out 3
      go_wp2
      go_meet
      case rel => exact ⟨_, (true), (by first | rfl | (simp; done) | (simp [*]; done)), H', ⟨by first | omega | exact Nat.le_refl _⟩, ⟨by (with_reducible repeat (first | refine blk_drewN ?_ _ | refine blk_drew ?_ | refine blk_alloc ?_ _)); exact BK182.out⟩, ⟨by repeat (first | (with_reducible first | exact HB.out | apply below_alloc | apply pw_below_drewN | apply below_drew1 | refine below_set ?_ GE182.out) | exact HB.out)⟩⟩
    · rw [if_neg c4] at H
      have c4b0 : decide (a0_0 < 1) = false := decide_eq_false c4
      clear c4
      (first | rw [c4b0] | (simp only [i64_w, i32_w]; rw [c4b0]) | skip)
      have H' := Aside0.mk H
      clear H
      have hcz6_0 : w3.cell? ⟨gb182, 0, none⟩ = some (.int .i64 a0_0) := (blk_cell BK182.out 0).trans rfl
      have hcz6_1 : w3.cell? ⟨gb182, 1, none⟩ = some (.int .i64 a0_1) := (blk_cell BK182.out 1).trans rfl
      have hcz6_2 : w3.cell? ⟨gb182, 2, none⟩ = some (.int .i64 a0_2) := (blk_cell BK182.out 2).trans rfl
      have hcz6_3 : w3.cell? ⟨gb182, 3, none⟩ = some (.int .i64 a0_3) := (blk_cell BK182.out 3).trans rfl
      have hfz6_0 := blk_frozen BK182.out 0
      have hfz6_1 := blk_frozen BK182.out 1
      have hfz6_2 := blk_frozen BK182.out 2
      have hfz6_3 := blk_frozen BK182.out 3
      go_wp2
      go_meet
      case rel => exact ⟨_, (decide (a0_0 > 16)), (by first | rfl | (simp; done) | (simp [*]; done)), H', ⟨by first | omega | exact Nat.le_refl _⟩, ⟨by (with_reducible repeat (first | refine blk_drewN ?_ _ | refine blk_drew ?_ | refine blk_alloc ?_ _)); exact BK182.out⟩, ⟨by repeat (first | (with_reducible first | exact HB.out | apply below_alloc | apply pw_below_drewN | apply below_drew1 | refine below_set ?_ GE182.out) | exact HB.out)⟩⟩
  case rest =>
    clear HC2
    try clear c1
    try clear p2
    try clear c4
    try clear c4b0
    try clear hcz5_0
    try clear hcz5_1
    try clear hcz5_2
    try clear hcz5_3
    try clear hcz6_0
    try clear hcz6_1
    try clear hcz6_2
    try clear hcz6_3
    try clear hfz5_0
    try clear hfz5_1
    try clear hfz5_2
    try clear hfz5_3
    try clear hfz6_0
    try clear hfz6_1
    try clear hfz6_2
    try clear hfz6_3
    obtain ⟨kq, x10_1, rfl, HA, HJ1, BK182, HB⟩ := hcut
    cases kq with
    | zero => exact absurd HA.out (by simp [plenumref13_Check.j0])
    | succ kj1 =>
      have H := HA.out
      clear HA
      simp only [plenumref13_Check.j0] at H
      by_cases c7 : x10_1 = true
      · subst c7
        have H1 : (some 1) = some r := by rw [if_pos rfl] at H; exact H
        clear H
        have H := H1
        clear H1
        obtain rfl := Option.some.inj H
        go_wp2
        go_ret
        exact ⟨by first | rfl | (simp [errW_none, errW_some] <;> rfl) | (simp [*, errW_none, errW_some] <;> rfl), by repeat (first | (with_reducible first | exact HB.out | apply below_alloc | apply pw_below_drewN | apply below_drew1 | refine below_set ?_ GE182.out) | exact HB.out)⟩
      · replace c7 := Bool.eq_false_iff.mpr c7
        subst c7
        have H1 : (if a0_1 < 1 then (plenumref13_Check.j1 kj1 true a0_0 a0_1 a0_2 a0_3) else (plenumref13_Check.j1 kj1 (decide (a0_1 > 1000000000)) a0_0 a0_1 a0_2 a0_3)) = some r := by rw [if_neg (show ¬ (false = true) by decide)] at H; exact H
        clear H
        have H := H1
        clear H1
        have HC8 := Aside0.mk H
        clear H
        go_upto_region 3 with (fail)
        go_cut [18] (fun v18 wc => ∃ (kq : Nat) (x18_7 : Bool), v18 = .bool x18_7 ∧ Aside0 (plenumref13_Check.j1 kq x18_7 a0_0 a0_1 a0_2 a0_3 = some r) ∧ Aside0 (kq ≤ kj1) ∧ Aside0 (wc.heap[gb182]? = some (.cells #[.int .i64 a0_0, .int .i64 a0_1, .int .i64 a0_2, .int .i64 a0_3] 25 (0, 0))) ∧ Aside0 (Below w.heap.size w wc))
        case first =>
          have H := HC8.out
          clear HC8
          by_cases c9 : a0_1 < 1
          · rw [if_pos c9] at H
            have c9b0 : decide (a0_1 < 1) = true := decide_eq_true c9
            clear c9
            (first | rw [c9b0] | (simp only [i64_w, i32_w]; rw [c9b0]) | skip)
            have H' := Aside0.mk H
            clear H
            have hcz10_0 : wc.cell? ⟨gb182, 0, none⟩ = some (.int .i64 a0_0) := (blk_cell BK182.out 0).trans rfl
            have hcz10_1 : wc.cell? ⟨gb182, 1, none⟩ = some (.int .i64 a0_1) := (blk_cell BK182.out 1).trans rfl
            have hcz10_2 : wc.cell? ⟨gb182, 2, none⟩ = some (.int .i64 a0_2) := (blk_cell BK182.out 2).trans rfl
            have hcz10_3 : wc.cell? ⟨gb182, 3, none⟩ = some (.int .i64 a0_3) := (blk_cell BK182.out 3).trans rfl
            have hfz10_0 := blk_frozen BK182.out 0
            have hfz10_1 := blk_frozen BK182.out 1
            have hfz10_2 := blk_frozen BK182.out 2
            have hfz10_3 := blk_frozen BK182.out 3
            go_wp2
            go_meet
            case rel => exact ⟨_, (true), (by first | rfl | (simp; done) | (simp [*]; done)), H', ⟨by have := HJ1.out; first | omega | exact Nat.le_refl _⟩, ⟨by (with_reducible repeat (first | refine blk_drewN ?_ _ | refine blk_drew ?_ | refine blk_alloc ?_ _)); exact BK182.out⟩, ⟨by repeat (first | (with_reducible first | exact HB.out | apply below_alloc | apply pw_below_drewN | apply below_drew1 | refine below_set ?_ GE182.out) | exact HB.out)⟩⟩
          · rw [if_neg c9] at H
            have c9b0 : decide (a0_1 < 1) = false := decide_eq_false c9
            clear c9
            (first | rw [c9b0] | (simp only [i64_w, i32_w]; rw [c9b0]) | skip)
            have H' := Aside0.mk H
            clear H
            have hcz11_0 : wc.cell? ⟨gb182, 0, none⟩ = some (.int .i64 a0_0) := (blk_cell BK182.out 0).trans rfl
            have hcz11_1 : wc.cell? ⟨gb182, 1, none⟩ = some (.int .i64 a0_1) := (blk_cell BK182.out 1).trans rfl
            have hcz11_2 : wc.cell? ⟨gb182, 2, none⟩ = some (.int .i64 a0_2) := (blk_cell BK182.out 2).trans rfl
            have hcz11_3 : wc.cell? ⟨gb182, 3, none⟩ = some (.int .i64 a0_3) := (blk_cell BK182.out 3).trans rfl
            have hfz11_0 := blk_frozen BK182.out 0
            have hfz11_1 := blk_frozen BK182.out 1
            have hfz11_2 := blk_frozen BK182.out 2
            have hfz11_3 := blk_frozen BK182.out 3
            go_wp2
            go_meet
            case rel => exact ⟨_, (decide (a0_1 > 1000000000)), (by first | rfl | (simp; done) | (simp [*]; done)), H', ⟨by have := HJ1.out; first | omega | exact Nat.le_refl _⟩, ⟨by (with_reducible repeat (first | refine blk_drewN ?_ _ | refine blk_drew ?_ | refine blk_alloc ?_ _)); exact BK182.out⟩, ⟨by repeat (first | (with_reducible first | exact HB.out | apply below_alloc | apply pw_below_drewN | apply below_drew1 | refine below_set ?_ GE182.out) | exact HB.out)⟩⟩
        case rest =>
          clear HC8
          try clear c1
          try clear p2
          try clear c4
          try clear c4b0
          try clear c7
          try clear c9
          try clear c9b0
          try clear hcz10_0
          try clear hcz10_1
          try clear hcz10_2
          try clear hcz10_3
          try clear hcz11_0
          try clear hcz11_1
          try clear hcz11_2
          try clear hcz11_3
          try clear hcz5_0
          try clear hcz5_1
          try clear hcz5_2
          try clear hcz5_3
          try clear hcz6_0
          try clear hcz6_1
          try clear hcz6_2
          try clear hcz6_3
          try clear hfz10_0
          try clear hfz10_1
          try clear hfz10_2
          try clear hfz10_3
          try clear hfz11_0
          try clear hfz11_1
          try clear hfz11_2
          try clear hfz11_3
          try clear hfz5_0
          try clear hfz5_1
          try clear hfz5_2
          try clear hfz5_3
          try clear hfz6_0
          try clear hfz6_1
          try clear hfz6_2
          try clear hfz6_3
          try clear p2
          obtain ⟨kq, x18_7, rfl, HA, HJ7, BK182, HB⟩ := hcut
          cases kq with
          | zero => exact absurd HA.out (by simp [plenumref13_Check.j1])
          | succ kj7 =>
            have H := HA.out
            clear HA
            simp only [plenumref13_Check.j1] at H
            by_cases c12 : x18_7 = true
            · subst c12
              have H1 : (some 6) = some r := by rw [if_pos rfl] at H; exact H
              clear H
              have H := H1
              clear H1
              obtain rfl := Option.some.inj H
              go_wp2
              go_ret
              exact ⟨by first | rfl | (simp [errW_none, errW_some] <;> rfl) | (simp [*, errW_none, errW_some] <;> rfl), by repeat (first | (with_reducible first | exact HB.out | apply below_alloc | apply pw_below_drewN | apply below_drew1 | refine below_set ?_ GE182.out) | exact HB.out)⟩
            · replace c12 := Bool.eq_false_iff.mpr c12
              subst c12
              have H1 : ((plenumref13_Possible.f a0_2 a0_3).bind fun t183 => (if t183 = true then (some 0) else (some 11))) = some r := by rw [if_neg (show ¬ (false = true) by decide)] at H; exact H
              clear H
              have H := H1
              clear H1
              replace H := Option.bind_eq_some_iff.mp H
              obtain ⟨t183, A130, H⟩ := H
              replace H : (if t183 = true then (some 0) else (some 11)) = some r := H
              have A13 := Aside0.mk A130
              clear A130
              by_cases c14 : t183 = true
              · subst c14
                have H1 : (some 0) = some r := by rw [if_pos rfl] at H; exact H
                clear H
                have H := H1
                clear H1
                obtain rfl := Option.some.inj H
                have hcz15_0 : wc.cell? ⟨gb182, 0, none⟩ = some (.int .i64 a0_0) := (blk_cell BK182.out 0).trans rfl
                have hcz15_1 : wc.cell? ⟨gb182, 1, none⟩ = some (.int .i64 a0_1) := (blk_cell BK182.out 1).trans rfl
                have hcz15_2 : wc.cell? ⟨gb182, 2, none⟩ = some (.int .i64 a0_2) := (blk_cell BK182.out 2).trans rfl
                have hcz15_3 : wc.cell? ⟨gb182, 3, none⟩ = some (.int .i64 a0_3) := (blk_cell BK182.out 3).trans rfl
                have hfz15_0 := blk_frozen BK182.out 0
                have hfz15_1 := blk_frozen BK182.out 1
                have hfz15_2 := blk_frozen BK182.out 2
                have hfz15_3 := blk_frozen BK182.out 3
                go_wp2_with (first | ((with_reducible refine gate_callee (f := 32) rfl ?_); refine goesL_ (some 21) rfl rfl Try.func32 (by kernel_rfl) rfl #[.agg #[.int .i64 a0_2, .int .i64 a0_3]] rfl (by (try simp only [List.map_toArray, List.map_cons, List.map_nil]); first | done | rfl | (simp only [List.length_drop, List.length_take]; rfl)) ?_; (with_reducible refine (plenumref13_Possible.calls a0_2 a0_3 true _ A13.out).mono ?_); rintro e w16 ⟨rfl, hb⟩; refine ⟨_, rfl, ?_⟩; have n0_ := Aside0.mk (blk_below (g := gb182) (o := .cells #[.int .i64 a0_0, .int .i64 a0_1, .int .i64 a0_2, .int .i64 a0_3] 25 (0, 0)) (by (with_reducible repeat (first | refine blk_drewN ?_ _ | refine blk_drew ?_ | refine blk_alloc ?_ _)); exact BK182.out) hb); have n1_ := Aside0.mk (below_step (by repeat (first | (with_reducible first | exact HB.out | apply below_alloc | apply pw_below_drewN | apply below_drew1 | refine below_set ?_ GE182.out) | exact HB.out)) hb); clear BK182; clear HB; have BK182 := n0_; have HB := n1_; clear n0_ n1_; (try clear hb); (try clear hb2); (try clear hk); (try clear hi)))
                go_ret
                exact ⟨by first | rfl | (simp [errW_none, errW_some] <;> rfl) | (simp [*, errW_none, errW_some] <;> rfl), by repeat (first | (with_reducible first | exact HB.out | apply below_alloc | apply pw_below_drewN | apply below_drew1 | refine below_set ?_ GE182.out) | exact HB.out)⟩
              · replace c14 := Bool.eq_false_iff.mpr c14
                subst c14
                have H1 : (some 11) = some r := by rw [if_neg (show ¬ (false = true) by decide)] at H; exact H
                clear H
                have H := H1
                clear H1
                obtain rfl := Option.some.inj H
                have hcz17_0 : wc.cell? ⟨gb182, 0, none⟩ = some (.int .i64 a0_0) := (blk_cell BK182.out 0).trans rfl
                have hcz17_1 : wc.cell? ⟨gb182, 1, none⟩ = some (.int .i64 a0_1) := (blk_cell BK182.out 1).trans rfl
                have hcz17_2 : wc.cell? ⟨gb182, 2, none⟩ = some (.int .i64 a0_2) := (blk_cell BK182.out 2).trans rfl
                have hcz17_3 : wc.cell? ⟨gb182, 3, none⟩ = some (.int .i64 a0_3) := (blk_cell BK182.out 3).trans rfl
                have hfz17_0 := blk_frozen BK182.out 0
                have hfz17_1 := blk_frozen BK182.out 1
                have hfz17_2 := blk_frozen BK182.out 2
                have hfz17_3 := blk_frozen BK182.out 3
                go_wp2_with (first | ((with_reducible refine gate_callee (f := 32) rfl ?_); refine goesL_ (some 21) rfl rfl Try.func32 (by kernel_rfl) rfl #[.agg #[.int .i64 a0_2, .int .i64 a0_3]] rfl (by (try simp only [List.map_toArray, List.map_cons, List.map_nil]); first | done | rfl | (simp only [List.length_drop, List.length_take]; rfl)) ?_; (with_reducible refine (plenumref13_Possible.calls a0_2 a0_3 false _ A13.out).mono ?_); rintro e w18 ⟨rfl, hb⟩; refine ⟨_, rfl, ?_⟩; have n0_ := Aside0.mk (blk_below (g := gb182) (o := .cells #[.int .i64 a0_0, .int .i64 a0_1, .int .i64 a0_2, .int .i64 a0_3] 25 (0, 0)) (by (with_reducible repeat (first | refine blk_drewN ?_ _ | refine blk_drew ?_ | refine blk_alloc ?_ _)); exact BK182.out) hb); have n1_ := Aside0.mk (below_step (by repeat (first | (with_reducible first | exact HB.out | apply below_alloc | apply pw_below_drewN | apply below_drew1 | refine below_set ?_ GE182.out) | exact HB.out)) hb); clear BK182; clear HB; have BK182 := n0_; have HB := n1_; clear n0_ n1_; (try clear hb); (try clear hb2); (try clear hk); (try clear hi)))
                go_ret
                exact ⟨by first | rfl | (simp [errW_none, errW_some] <;> rfl) | (simp [*, errW_none, errW_some] <;> rfl), by repeat (first | (with_reducible first | exact HB.out | apply below_alloc | apply pw_below_drewN | apply below_drew1 | refine below_set ?_ GE182.out) | exact HB.out)⟩
end Go.Proofs.Ytejidnmgjccidaa.R
end
section
namespace Go.Proofs.Ytejidnmgjccidaa.R
open Go.RowKit Go.Proofs.YtejidnmgjccidaaW.PrintWords Go.Proofs.YtejidnmgjccidaaW.PrintLast Go.Proofs.YtejidnmgjccidaaW.PrintMore
attribute [local go_sem] max2_int min2_int max_two min_two max_three min_three max_four min_four
set_option linter.unusedVariables false
set_option linter.unusedSimpArgs false
def plenumref13_less.f (a0_0 : Int) (a0_1 : Int) (a0_2 : Int) (a0_3 : Int) (a1_0 : Int) (a1_1 : Int) (a1_2 : Int) (a1_3 : Int) : Option (Bool) := if a0_1 = a1_1 then (if a0_2 = a1_2 then (some (decide (a0_3 < a1_3))) else (some (decide (a0_2 < a1_2)))) else (some (decide (a0_1 < a1_1)))
set_option maxHeartbeats 8000000 in
set_option maxRecDepth 100000 in
theorem plenumref13_less.calls (a0_0 : Int) (a0_1 : Int) (a0_2 : Int) (a0_3 : Int) (a1_0 : Int) (a1_1 : Int) (a1_2 : Int) (a1_3 : Int) (r : Bool) (w : World) (h : plenumref13_less.f a0_0 a0_1 a0_2 a0_3 a1_0 a1_1 a1_2 a1_3 = some r) :
    Calls Try.prog 40 #[.agg #[.int .i64 a0_0, .int .i64 a0_1, .int .i64 a0_2, .int .i64 a0_3], .agg #[.int .i64 a1_0, .int .i64 a1_1, .int .i64 a1_2, .int .i64 a1_3]] w fun e w' => e = .returned (.bool r) ∧ Below w.heap.size w w' := by
  have hu25 := Try.underlying25
  have HB := Aside0.mk (Below.refl w.heap.size w)
  have H : (if a0_1 = a1_1 then (if a0_2 = a1_2 then (some (decide (a0_3 < a1_3))) else (some (decide (a0_2 < a1_2)))) else (some (decide (a0_1 < a1_1)))) = some r := h
  clear h
  by_cases c3 : a0_1 = a1_1
  · rw [if_pos c3] at H
    have c3b0 : (a0_1 == a1_1) = true := beq_iff_eq.mpr c3
    have c3b1 : (a0_1 != a1_1) = false := bne_eq_false_iff_eq.mpr c3
    clear c3
    by_cases c4 : a0_2 = a1_2
    · rw [if_pos c4] at H
      have c4b0 : (a0_2 == a1_2) = true := beq_iff_eq.mpr c4
      have c4b1 : (a0_2 != a1_2) = false := bne_eq_false_iff_eq.mpr c4
      clear c4
      obtain rfl := Option.some.inj H
      go_enter Try.func40, Try.ntmps40
      go_wp2_with (first | ((with_reducible refine gate_dst (N := 2) rfl ?_); refine box_event ?hg (N := 2) ?hd (cs := #[.int .i64 a0_0, .int .i64 a0_1, .int .i64 a0_2, .int .i64 a0_3]) (t := 25) ?hr ?_; (case hd => rfl); (case hg => rfl); (case hr => first | (go_simp; done) | (go_simp; rfl)); intro gb186 hg w5 hbox hb; have n0_ := Aside0.mk (below_step (by repeat (first | (with_reducible first | exact HB.out | apply below_alloc | apply pw_below_drewN | apply below_drew1) | exact HB.out)) hb); have n1_ := Aside0.mk (hbox); have n2_ := Aside0.mk ((by rw [hg]; exact (below_size (by repeat (first | (with_reducible first | exact HB.out | apply below_alloc | apply pw_below_drewN | apply below_drew1) | exact HB.out))) : w.heap.size ≤ gb186)); have n3_ := Aside0.mk ((by rw [hg]; exact (below_size (by repeat (first | (with_reducible first | exact HB.out | apply below_alloc | apply pw_below_drewN | apply below_drew1) | exact HB.out))) : w.heap.size ≤ gb186)); clear HB; have HB := n0_; have BK186 := n1_; have GW186 := n2_; have GE186 := n3_; clear n0_ n1_ n2_ n3_; clear hb hbox hg) | ((with_reducible refine gate_dst (N := 3) rfl ?_); refine box_event ?hg (N := 3) ?hd (cs := #[.int .i64 a1_0, .int .i64 a1_1, .int .i64 a1_2, .int .i64 a1_3]) (t := 25) ?hr ?_; (case hd => rfl); (case hg => rfl); (case hr => first | (go_simp; done) | (go_simp; rfl)); intro gb187 hg w6 hbox hb; have n0_ := Aside0.mk (blk_below (g := gb186) (o := .cells #[.int .i64 a0_0, .int .i64 a0_1, .int .i64 a0_2, .int .i64 a0_3] 25 (0, 0)) (by (with_reducible repeat (first | refine blk_drewN ?_ _ | refine blk_drew ?_ | refine blk_alloc ?_ _)); exact BK186.out) hb); have n1_ := Aside0.mk (below_step (by repeat (first | (with_reducible first | exact HB.out | apply below_alloc | apply pw_below_drewN | apply below_drew1 | refine below_set ?_ GE186.out) | exact HB.out)) hb); have n2_ := Aside0.mk (hbox); have n3_ := Aside0.mk ((by rw [hg]; exact (below_size (by repeat (first | (with_reducible first | exact HB.out | apply below_alloc | apply pw_below_drewN | apply below_drew1 | refine below_set ?_ GE186.out) | exact HB.out))) : w.heap.size ≤ gb187)); have n4_ := Aside0.mk ((by rw [hg]; exact (below_size (by repeat (first | (with_reducible first | exact HB.out | apply below_alloc | apply pw_below_drewN | apply below_drew1 | refine below_set ?_ GE186.out) | exact HB.out))) : w.heap.size ≤ gb187)); have n5_ := Aside0.mk ((by rw [hg]; exact Nat.ne_of_lt (blk_lt (g := gb186) (o := .cells #[.int .i64 a0_0, .int .i64 a0_1, .int .i64 a0_2, .int .i64 a0_3] 25 (0, 0)) (by (with_reducible repeat (first | refine blk_drewN ?_ _ | refine blk_drew ?_ | refine blk_alloc ?_ _)); exact BK186.out)) : gb186 ≠ gb187)); have n6_ := Aside0.mk ((by rw [hg]; exact Nat.ne_of_gt (blk_lt (g := gb186) (o := .cells #[.int .i64 a0_0, .int .i64 a0_1, .int .i64 a0_2, .int .i64 a0_3] 25 (0, 0)) (by (with_reducible repeat (first | refine blk_drewN ?_ _ | refine blk_drew ?_ | refine blk_alloc ?_ _)); exact BK186.out)) : gb187 ≠ gb186)); clear BK186; clear HB; have BK186 := n0_; have HB := n1_; have BK187 := n2_; have GW187 := n3_; have GE187 := n4_; have NB186_187 := n5_; have NB187_186 := n6_; clear n0_ n1_ n2_ n3_ n4_ n5_ n6_; clear hb hbox hg; have hnb7 := NB186_187.out; have hnc7 := NB187_186.out; have hcz8_0 : w6.cell? ⟨gb186, 0, none⟩ = some (.int .i64 a0_0) := (blk_cell BK186.out 0).trans rfl; have hcz8_1 : w6.cell? ⟨gb186, 1, none⟩ = some (.int .i64 a0_1) := (blk_cell BK186.out 1).trans rfl; have hcz8_2 : w6.cell? ⟨gb186, 2, none⟩ = some (.int .i64 a0_2) := (blk_cell BK186.out 2).trans rfl; have hcz8_3 : w6.cell? ⟨gb186, 3, none⟩ = some (.int .i64 a0_3) := (blk_cell BK186.out 3).trans rfl; have hfz8_0 := blk_frozen BK186.out 0; have hfz8_1 := blk_frozen BK186.out 1; have hfz8_2 := blk_frozen BK186.out 2; have hfz8_3 := blk_frozen BK186.out 3; have hcz9_0 : w6.cell? ⟨gb187, 0, none⟩ = some (.int .i64 a1_0) := (blk_cell BK187.out 0).trans rfl; have hcz9_1 : w6.cell? ⟨gb187, 1, none⟩ = some (.int .i64 a1_1) := (blk_cell BK187.out 1).trans rfl; have hcz9_2 : w6.cell? ⟨gb187, 2, none⟩ = some (.int .i64 a1_2) := (blk_cell BK187.out 2).trans rfl; have hcz9_3 : w6.cell? ⟨gb187, 3, none⟩ = some (.int .i64 a1_3) := (blk_cell BK187.out 3).trans rfl; have hfz9_0 := blk_frozen BK187.out 0; have hfz9_1 := blk_frozen BK187.out 1; have hfz9_2 := blk_frozen BK187.out 2; have hfz9_3 := blk_frozen BK187.out 3))
      go_ret
      exact ⟨by first | rfl | (simp [errW_none, errW_some] <;> rfl) | (simp [*, errW_none, errW_some] <;> rfl), by repeat (first | (with_reducible first | exact HB.out | apply below_alloc | apply pw_below_drewN | apply below_drew1 | refine below_set ?_ GE186.out | refine below_set ?_ GE187.out) | exact HB.out)⟩
    · rw [if_neg c4] at H
      have c4b0 : (a0_2 == a1_2) = false := beq_eq_false_iff_ne.mpr c4
      have c4b1 : (a0_2 != a1_2) = true := bne_iff_ne.mpr c4
      obtain rfl := Option.some.inj H
      go_enter Try.func40, Try.ntmps40
      go_wp2_with (first | ((with_reducible refine gate_dst (N := 2) rfl ?_); refine box_event ?hg (N := 2) ?hd (cs := #[.int .i64 a0_0, .int .i64 a0_1, .int .i64 a0_2, .int .i64 a0_3]) (t := 25) ?hr ?_; (case hd => rfl); (case hg => rfl); (case hr => first | (go_simp; done) | (go_simp; rfl)); intro gb186 hg w10 hbox hb; have n0_ := Aside0.mk (below_step (by repeat (first | (with_reducible first | exact HB.out | apply below_alloc | apply pw_below_drewN | apply below_drew1) | exact HB.out)) hb); have n1_ := Aside0.mk (hbox); have n2_ := Aside0.mk ((by rw [hg]; exact (below_size (by repeat (first | (with_reducible first | exact HB.out | apply below_alloc | apply pw_below_drewN | apply below_drew1) | exact HB.out))) : w.heap.size ≤ gb186)); have n3_ := Aside0.mk ((by rw [hg]; exact (below_size (by repeat (first | (with_reducible first | exact HB.out | apply below_alloc | apply pw_below_drewN | apply below_drew1) | exact HB.out))) : w.heap.size ≤ gb186)); clear HB; have HB := n0_; have BK186 := n1_; have GW186 := n2_; have GE186 := n3_; clear n0_ n1_ n2_ n3_; clear hb hbox hg) | ((with_reducible refine gate_dst (N := 3) rfl ?_); refine box_event ?hg (N := 3) ?hd (cs := #[.int .i64 a1_0, .int .i64 a1_1, .int .i64 a1_2, .int .i64 a1_3]) (t := 25) ?hr ?_; (case hd => rfl); (case hg => rfl); (case hr => first | (go_simp; done) | (go_simp; rfl)); intro gb187 hg w11 hbox hb; have n0_ := Aside0.mk (blk_below (g := gb186) (o := .cells #[.int .i64 a0_0, .int .i64 a0_1, .int .i64 a0_2, .int .i64 a0_3] 25 (0, 0)) (by (with_reducible repeat (first | refine blk_drewN ?_ _ | refine blk_drew ?_ | refine blk_alloc ?_ _)); exact BK186.out) hb); have n1_ := Aside0.mk (below_step (by repeat (first | (with_reducible first | exact HB.out | apply below_alloc | apply pw_below_drewN | apply below_drew1 | refine below_set ?_ GE186.out) | exact HB.out)) hb); have n2_ := Aside0.mk (hbox); have n3_ := Aside0.mk ((by rw [hg]; exact (below_size (by repeat (first | (with_reducible first | exact HB.out | apply below_alloc | apply pw_below_drewN | apply below_drew1 | refine below_set ?_ GE186.out) | exact HB.out))) : w.heap.size ≤ gb187)); have n4_ := Aside0.mk ((by rw [hg]; exact (below_size (by repeat (first | (with_reducible first | exact HB.out | apply below_alloc | apply pw_below_drewN | apply below_drew1 | refine below_set ?_ GE186.out) | exact HB.out))) : w.heap.size ≤ gb187)); have n5_ := Aside0.mk ((by rw [hg]; exact Nat.ne_of_lt (blk_lt (g := gb186) (o := .cells #[.int .i64 a0_0, .int .i64 a0_1, .int .i64 a0_2, .int .i64 a0_3] 25 (0, 0)) (by (with_reducible repeat (first | refine blk_drewN ?_ _ | refine blk_drew ?_ | refine blk_alloc ?_ _)); exact BK186.out)) : gb186 ≠ gb187)); have n6_ := Aside0.mk ((by rw [hg]; exact Nat.ne_of_gt (blk_lt (g := gb186) (o := .cells #[.int .i64 a0_0, .int .i64 a0_1, .int .i64 a0_2, .int .i64 a0_3] 25 (0, 0)) (by (with_reducible repeat (first | refine blk_drewN ?_ _ | refine blk_drew ?_ | refine blk_alloc ?_ _)); exact BK186.out)) : gb187 ≠ gb186)); clear BK186; clear HB; have BK186 := n0_; have HB := n1_; have BK187 := n2_; have GW187 := n3_; have GE187 := n4_; have NB186_187 := n5_; have NB187_186 := n6_; clear n0_ n1_ n2_ n3_ n4_ n5_ n6_; clear hb hbox hg; have hnb12 := NB186_187.out; have hnc12 := NB187_186.out; have hcz13_0 : w11.cell? ⟨gb186, 0, none⟩ = some (.int .i64 a0_0) := (blk_cell BK186.out 0).trans rfl; have hcz13_1 : w11.cell? ⟨gb186, 1, none⟩ = some (.int .i64 a0_1) := (blk_cell BK186.out 1).trans rfl; have hcz13_2 : w11.cell? ⟨gb186, 2, none⟩ = some (.int .i64 a0_2) := (blk_cell BK186.out 2).trans rfl; have hcz13_3 : w11.cell? ⟨gb186, 3, none⟩ = some (.int .i64 a0_3) := (blk_cell BK186.out 3).trans rfl; have hfz13_0 := blk_frozen BK186.out 0; have hfz13_1 := blk_frozen BK186.out 1; have hfz13_2 := blk_frozen BK186.out 2; have hfz13_3 := blk_frozen BK186.out 3; have hcz14_0 : w11.cell? ⟨gb187, 0, none⟩ = some (.int .i64 a1_0) := (blk_cell BK187.out 0).trans rfl; have hcz14_1 : w11.cell? ⟨gb187, 1, none⟩ = some (.int .i64 a1_1) := (blk_cell BK187.out 1).trans rfl; have hcz14_2 : w11.cell? ⟨gb187, 2, none⟩ = some (.int .i64 a1_2) := (blk_cell BK187.out 2).trans rfl; have hcz14_3 : w11.cell? ⟨gb187, 3, none⟩ = some (.int .i64 a1_3) := (blk_cell BK187.out 3).trans rfl; have hfz14_0 := blk_frozen BK187.out 0; have hfz14_1 := blk_frozen BK187.out 1; have hfz14_2 := blk_frozen BK187.out 2; have hfz14_3 := blk_frozen BK187.out 3))
      go_ret
      exact ⟨by first | rfl | (simp [errW_none, errW_some] <;> rfl) | (simp [*, errW_none, errW_some] <;> rfl), by repeat (first | (with_reducible first | exact HB.out | apply below_alloc | apply pw_below_drewN | apply below_drew1 | refine below_set ?_ GE186.out | refine below_set ?_ GE187.out) | exact HB.out)⟩
  · rw [if_neg c3] at H
    have c3b0 : (a0_1 == a1_1) = false := beq_eq_false_iff_ne.mpr c3
    have c3b1 : (a0_1 != a1_1) = true := bne_iff_ne.mpr c3
    obtain rfl := Option.some.inj H
    go_enter Try.func40, Try.ntmps40
    go_wp2_with (first | ((with_reducible refine gate_dst (N := 2) rfl ?_); refine box_event ?hg (N := 2) ?hd (cs := #[.int .i64 a0_0, .int .i64 a0_1, .int .i64 a0_2, .int .i64 a0_3]) (t := 25) ?hr ?_; (case hd => rfl); (case hg => rfl); (case hr => first | (go_simp; done) | (go_simp; rfl)); intro gb186 hg w15 hbox hb; have n0_ := Aside0.mk (below_step (by repeat (first | (with_reducible first | exact HB.out | apply below_alloc | apply pw_below_drewN | apply below_drew1) | exact HB.out)) hb); have n1_ := Aside0.mk (hbox); have n2_ := Aside0.mk ((by rw [hg]; exact (below_size (by repeat (first | (with_reducible first | exact HB.out | apply below_alloc | apply pw_below_drewN | apply below_drew1) | exact HB.out))) : w.heap.size ≤ gb186)); have n3_ := Aside0.mk ((by rw [hg]; exact (below_size (by repeat (first | (with_reducible first | exact HB.out | apply below_alloc | apply pw_below_drewN | apply below_drew1) | exact HB.out))) : w.heap.size ≤ gb186)); clear HB; have HB := n0_; have BK186 := n1_; have GW186 := n2_; have GE186 := n3_; clear n0_ n1_ n2_ n3_; clear hb hbox hg) | ((with_reducible refine gate_dst (N := 3) rfl ?_); refine box_event ?hg (N := 3) ?hd (cs := #[.int .i64 a1_0, .int .i64 a1_1, .int .i64 a1_2, .int .i64 a1_3]) (t := 25) ?hr ?_; (case hd => rfl); (case hg => rfl); (case hr => first | (go_simp; done) | (go_simp; rfl)); intro gb187 hg w16 hbox hb; have n0_ := Aside0.mk (blk_below (g := gb186) (o := .cells #[.int .i64 a0_0, .int .i64 a0_1, .int .i64 a0_2, .int .i64 a0_3] 25 (0, 0)) (by (with_reducible repeat (first | refine blk_drewN ?_ _ | refine blk_drew ?_ | refine blk_alloc ?_ _)); exact BK186.out) hb); have n1_ := Aside0.mk (below_step (by repeat (first | (with_reducible first | exact HB.out | apply below_alloc | apply pw_below_drewN | apply below_drew1 | refine below_set ?_ GE186.out) | exact HB.out)) hb); have n2_ := Aside0.mk (hbox); have n3_ := Aside0.mk ((by rw [hg]; exact (below_size (by repeat (first | (with_reducible first | exact HB.out | apply below_alloc | apply pw_below_drewN | apply below_drew1 | refine below_set ?_ GE186.out) | exact HB.out))) : w.heap.size ≤ gb187)); have n4_ := Aside0.mk ((by rw [hg]; exact (below_size (by repeat (first | (with_reducible first | exact HB.out | apply below_alloc | apply pw_below_drewN | apply below_drew1 | refine below_set ?_ GE186.out) | exact HB.out))) : w.heap.size ≤ gb187)); have n5_ := Aside0.mk ((by rw [hg]; exact Nat.ne_of_lt (blk_lt (g := gb186) (o := .cells #[.int .i64 a0_0, .int .i64 a0_1, .int .i64 a0_2, .int .i64 a0_3] 25 (0, 0)) (by (with_reducible repeat (first | refine blk_drewN ?_ _ | refine blk_drew ?_ | refine blk_alloc ?_ _)); exact BK186.out)) : gb186 ≠ gb187)); have n6_ := Aside0.mk ((by rw [hg]; exact Nat.ne_of_gt (blk_lt (g := gb186) (o := .cells #[.int .i64 a0_0, .int .i64 a0_1, .int .i64 a0_2, .int .i64 a0_3] 25 (0, 0)) (by (with_reducible repeat (first | refine blk_drewN ?_ _ | refine blk_drew ?_ | refine blk_alloc ?_ _)); exact BK186.out)) : gb187 ≠ gb186)); clear BK186; clear HB; have BK186 := n0_; have HB := n1_; have BK187 := n2_; have GW187 := n3_; have GE187 := n4_; have NB186_187 := n5_; have NB187_186 := n6_; clear n0_ n1_ n2_ n3_ n4_ n5_ n6_; clear hb hbox hg; have hnb17 := NB186_187.out; have hnc17 := NB187_186.out; have hcz18_0 : w16.cell? ⟨gb186, 0, none⟩ = some (.int .i64 a0_0) := (blk_cell BK186.out 0).trans rfl; have hcz18_1 : w16.cell? ⟨gb186, 1, none⟩ = some (.int .i64 a0_1) := (blk_cell BK186.out 1).trans rfl; have hcz18_2 : w16.cell? ⟨gb186, 2, none⟩ = some (.int .i64 a0_2) := (blk_cell BK186.out 2).trans rfl; have hcz18_3 : w16.cell? ⟨gb186, 3, none⟩ = some (.int .i64 a0_3) := (blk_cell BK186.out 3).trans rfl; have hfz18_0 := blk_frozen BK186.out 0; have hfz18_1 := blk_frozen BK186.out 1; have hfz18_2 := blk_frozen BK186.out 2; have hfz18_3 := blk_frozen BK186.out 3; have hcz19_0 : w16.cell? ⟨gb187, 0, none⟩ = some (.int .i64 a1_0) := (blk_cell BK187.out 0).trans rfl; have hcz19_1 : w16.cell? ⟨gb187, 1, none⟩ = some (.int .i64 a1_1) := (blk_cell BK187.out 1).trans rfl; have hcz19_2 : w16.cell? ⟨gb187, 2, none⟩ = some (.int .i64 a1_2) := (blk_cell BK187.out 2).trans rfl; have hcz19_3 : w16.cell? ⟨gb187, 3, none⟩ = some (.int .i64 a1_3) := (blk_cell BK187.out 3).trans rfl; have hfz19_0 := blk_frozen BK187.out 0; have hfz19_1 := blk_frozen BK187.out 1; have hfz19_2 := blk_frozen BK187.out 2; have hfz19_3 := blk_frozen BK187.out 3))
    go_ret
    exact ⟨by first | rfl | (simp [errW_none, errW_some] <;> rfl) | (simp [*, errW_none, errW_some] <;> rfl), by repeat (first | (with_reducible first | exact HB.out | apply below_alloc | apply pw_below_drewN | apply below_drew1 | refine below_set ?_ GE186.out | refine below_set ?_ GE187.out) | exact HB.out)⟩
end Go.Proofs.Ytejidnmgjccidaa.R
end
section
namespace Go.Proofs.Ytejidnmgjccidaa.R
open Go.RowKit Go.Proofs.YtejidnmgjccidaaW.PrintWords Go.Proofs.YtejidnmgjccidaaW.PrintLast Go.Proofs.YtejidnmgjccidaaW.PrintMore
attribute [local go_sem] max2_int min2_int max_two min_two max_three min_three max_four min_four
set_option linter.unusedVariables false
set_option linter.unusedSimpArgs false
def plenumref13_at.l0 : Nat → List (S25) → Int → Bool → Int → Int → Int → Int → Int → Option (Int × Int × Int × Int × Bool)
  | 0, _, _, _, _, _, _, _, _ => none
  | k + 1, x0, x1, x7, x8, x190000, x190001, x190002, x190003 => if x8 < (x0.length : Int) then (if 0 ≤ x8 then (if ((rd_T25 x0 x8).f0) = x1 then ((plenumref13_Check.f k ((rd_T25 x0 x8).f0) ((rd_T25 x0 x8).f1) ((rd_T25 x0 x8).f2.f0) ((rd_T25 x0 x8).f2.f1)).bind fun t192 => (if t192 = 0 then (if x7 = true then ((plenumref13_less.f x190000 x190001 x190002 x190003 ((rd_T25 x0 x8).f0) ((rd_T25 x0 x8).f1) ((rd_T25 x0 x8).f2.f0) ((rd_T25 x0 x8).f2.f1)).bind fun t193 => (if t193 = true then (plenumref13_at.l0 k x0 x1 true (wrap64 (x8 + 1)) ((rd_T25 x0 x8).f0) ((rd_T25 x0 x8).f1) ((rd_T25 x0 x8).f2.f0) ((rd_T25 x0 x8).f2.f1)) else (plenumref13_at.l0 k x0 x1 x7 (wrap64 (x8 + 1)) x190000 x190001 x190002 x190003))) else (plenumref13_at.l0 k x0 x1 true (wrap64 (x8 + 1)) ((rd_T25 x0 x8).f0) ((rd_T25 x0 x8).f1) ((rd_T25 x0 x8).f2.f0) ((rd_T25 x0 x8).f2.f1))) else (plenumref13_at.l0 k x0 x1 x7 (wrap64 (x8 + 1)) x190000 x190001 x190002 x190003))) else (plenumref13_at.l0 k x0 x1 x7 (wrap64 (x8 + 1)) x190000 x190001 x190002 x190003)) else (none)) else (some (x190000, x190001, x190002, x190003, x7))
def plenumref13_at.f (k : Nat) (l0 : List (S25)) (a1 : Int) : Option (Int × Int × Int × Int × Bool) := plenumref13_at.l0 k l0 a1 false 0 0 0 0 0
set_option maxHeartbeats 8000000 in
set_option maxRecDepth 100000 in
theorem plenumref13_at.calls (k : Nat) (A0 : Option Addr) (c0 : Nat) (l0 : List (S25)) (a1 : Int) (r1 : Int) (r2 : Int) (r3 : Int) (r4 : Int) (r5 : Bool) (w : World) (hr0 : Kd.C k25 w A0 l0.length l0) (hc0 : l0.length ≤ c0) (h : plenumref13_at.f k l0 a1 = some (r1, r2, r3, r4, r5)) :
    Calls Try.prog 35 #[.slice A0 l0.length c0, .int .i64 a1] w fun e w' => e = .returned (.tuple #[.agg #[.int .i64 r1, .int .i64 r2, .int .i64 r3, .int .i64 r4], .bool r5]) ∧ Below w.heap.size w w' := by
  have hu25 := Try.underlying25
  have HR0 := Aside0.mk hr0
  have HC0 := Aside0.mk hc0
  clear hr0 hc0
  have HB := Aside0.mk (Below.refl w.heap.size w)
  have H : (plenumref13_at.l0 k l0 a1 false 0 0 0 0 0) = some (r1, r2, r3, r4, r5) := h
  clear h
  have H' := Aside0.mk H
  clear H
  go_enter Try.func35, Try.ntmps35
  go_wp2_with (first | ((with_reducible refine gate_dst (N := 4) rfl ?_); refine box_event ?hg (N := 4) ?hd (cs := #[.int .i64 0, .int .i64 0, .int .i64 0, .int .i64 0]) (t := 25) ?hr ?_; (case hd => rfl); (case hg => rfl); (case hr => first | (go_simp; done) | (go_simp; rfl)); intro gb188 hg w3 hbox hb; have n0_ := Aside0.mk (below_step (by repeat (first | (with_reducible first | exact HB.out | apply below_alloc | apply pw_below_drewN | apply below_drew1) | exact HB.out)) hb); have n1_ := Aside0.mk (hbox); have n2_ := Aside0.mk ((by rw [hg]; exact (below_size (by repeat (first | (with_reducible first | exact HB.out | apply below_alloc | apply pw_below_drewN | apply below_drew1) | exact HB.out))) : w.heap.size ≤ gb188)); have n3_ := Aside0.mk ((by rw [hg]; exact (below_size (by repeat (first | (with_reducible first | exact HB.out | apply below_alloc | apply pw_below_drewN | apply below_drew1) | exact HB.out))) : w.heap.size ≤ gb188)); clear HB; have HB := n0_; have BK188 := n1_; have GW188 := n2_; have GE188 := n3_; clear n0_ n1_ n2_ n3_; clear hb hbox hg) | ((with_reducible refine gate_dst (N := 6) rfl ?_); refine box_event ?hg (N := 6) ?hd (cs := #[.int .i64 0, .int .i64 0, .int .i64 0, .int .i64 0]) (t := 25) ?hr ?_; (case hd => rfl); (case hg => rfl); (case hr => first | (go_simp; done) | (go_simp; rfl)); intro gb189 hg w4 hbox hb; have n0_ := Aside0.mk (blk_below (g := gb188) (o := .cells #[.int .i64 0, .int .i64 0, .int .i64 0, .int .i64 0] 25 (0, 0)) (by (with_reducible repeat (first | refine blk_drewN ?_ _ | refine blk_drew ?_ | refine blk_alloc ?_ _)); exact BK188.out) hb); have n1_ := Aside0.mk (below_step (by repeat (first | (with_reducible first | exact HB.out | apply below_alloc | apply pw_below_drewN | apply below_drew1 | refine below_set ?_ GE188.out) | exact HB.out)) hb); have n2_ := Aside0.mk (hbox); have n3_ := Aside0.mk ((by rw [hg]; exact (below_size (by repeat (first | (with_reducible first | exact HB.out | apply below_alloc | apply pw_below_drewN | apply below_drew1 | refine below_set ?_ GE188.out) | exact HB.out))) : w.heap.size ≤ gb189)); have n4_ := Aside0.mk ((by rw [hg]; exact (below_size (by repeat (first | (with_reducible first | exact HB.out | apply below_alloc | apply pw_below_drewN | apply below_drew1 | refine below_set ?_ GE188.out) | exact HB.out))) : w.heap.size ≤ gb189)); have n5_ := Aside0.mk ((by rw [hg]; exact Nat.ne_of_lt (blk_lt (g := gb188) (o := .cells #[.int .i64 0, .int .i64 0, .int .i64 0, .int .i64 0] 25 (0, 0)) (by (with_reducible repeat (first | refine blk_drewN ?_ _ | refine blk_drew ?_ | refine blk_alloc ?_ _)); exact BK188.out)) : gb188 ≠ gb189)); have n6_ := Aside0.mk ((by rw [hg]; exact Nat.ne_of_gt (blk_lt (g := gb188) (o := .cells #[.int .i64 0, .int .i64 0, .int .i64 0, .int .i64 0] 25 (0, 0)) (by (with_reducible repeat (first | refine blk_drewN ?_ _ | refine blk_drew ?_ | refine blk_alloc ?_ _)); exact BK188.out)) : gb189 ≠ gb188)); clear BK188; clear HB; have BK188 := n0_; have HB := n1_; have BK189 := n2_; have GW189 := n3_; have GE189 := n4_; have NB188_189 := n5_; have NB189_188 := n6_; clear n0_ n1_ n2_ n3_ n4_ n5_ n6_; clear hb hbox hg; have hnb5 := NB189_188.out; have hnc5 := NB188_189.out; have hcz6_0 : w4.cell? ⟨gb189, 0, none⟩ = some (.int .i64 0) := (blk_cell BK189.out 0).trans rfl; have hcz6_1 : w4.cell? ⟨gb189, 1, none⟩ = some (.int .i64 0) := (blk_cell BK189.out 1).trans rfl; have hcz6_2 : w4.cell? ⟨gb189, 2, none⟩ = some (.int .i64 0) := (blk_cell BK189.out 2).trans rfl; have hcz6_3 : w4.cell? ⟨gb189, 3, none⟩ = some (.int .i64 0) := (blk_cell BK189.out 3).trans rfl; have hfz6_0 := blk_frozen BK189.out 0; have hfz6_1 := blk_frozen BK189.out 1; have hfz6_2 := blk_frozen BK189.out 2; have hfz6_3 := blk_frozen BK189.out 3))
  go_loopg [7, 8] k (fun kq v7 v8 w' => ∃ (x7_1 : Bool) (x8_1 : Int) (x190000_1 : Int) (x190001_1 : Int) (x190002_1 : Int) (x190003_1 : Int), v7 = .bool x7_1 ∧ v8 = .int .i64 x8_1 ∧ Aside0 (plenumref13_at.l0 kq l0 a1 x7_1 x8_1 x190000_1 x190001_1 x190002_1 x190003_1 = some (r1, r2, r3, r4, r5)) ∧ Aside0 (kq ≤ k) ∧ Aside0 (w'.heap[gb188]? = some (.cells #[.int .i64 0, .int .i64 0, .int .i64 0, .int .i64 0] 25 (0, 0))) ∧ Aside0 (w'.heap[gb189]? = some (.cells #[.int .i64 x190000_1, .int .i64 x190001_1, .int .i64 x190002_1, .int .i64 x190003_1] 25 (0, 0))) ∧ Aside0 (Below w.heap.size w w'))
  case atStart => exact ⟨(false), (0), (0), (0), (0), (0), (by first | rfl | (simp; done) | (simp [*]; done)), (by first | rfl | (simp; done) | (simp [*]; done)), H', ⟨Nat.le_refl _⟩, ⟨by (with_reducible repeat (first | refine blk_drewN ?_ _ | refine blk_drew ?_ | refine blk_alloc ?_ _)); refine blk_far ?_ NB188_189.out _; (with_reducible repeat (first | refine blk_drewN ?_ _ | refine blk_drew ?_ | refine blk_alloc ?_ _)); refine blk_far ?_ NB188_189.out _; (with_reducible repeat (first | refine blk_drewN ?_ _ | refine blk_drew ?_ | refine blk_alloc ?_ _)); refine blk_far ?_ NB188_189.out _; (with_reducible repeat (first | refine blk_drewN ?_ _ | refine blk_drew ?_ | refine blk_alloc ?_ _)); refine blk_far ?_ NB188_189.out _; (with_reducible repeat (first | refine blk_drewN ?_ _ | refine blk_drew ?_ | refine blk_alloc ?_ _)); exact BK188.out⟩, ⟨by (with_reducible repeat (first | refine blk_drewN ?_ _ | refine blk_drew ?_ | refine blk_alloc ?_ _)); refine blk_put (cs := #[.int .i64 0, .int .i64 0, .int .i64 0, .int .i64 0]) ?_ 3 _ rfl; (with_reducible repeat (first | refine blk_drewN ?_ _ | refine blk_drew ?_ | refine blk_alloc ?_ _)); refine blk_put (cs := #[.int .i64 0, .int .i64 0, .int .i64 0, .int .i64 0]) ?_ 2 _ rfl; (with_reducible repeat (first | refine blk_drewN ?_ _ | refine blk_drew ?_ | refine blk_alloc ?_ _)); refine blk_put (cs := #[.int .i64 0, .int .i64 0, .int .i64 0, .int .i64 0]) ?_ 1 _ rfl; (with_reducible repeat (first | refine blk_drewN ?_ _ | refine blk_drew ?_ | refine blk_alloc ?_ _)); refine blk_put (cs := #[.int .i64 0, .int .i64 0, .int .i64 0, .int .i64 0]) ?_ 0 _ rfl; (with_reducible repeat (first | refine blk_drewN ?_ _ | refine blk_drew ?_ | refine blk_alloc ?_ _)); exact BK189.out⟩, ⟨by repeat (first | (with_reducible first | exact HB.out | apply below_alloc | apply pw_below_drewN | apply below_drew1 | refine below_set ?_ GE188.out | refine below_set ?_ GE189.out) | exact HB.out)⟩⟩
  case round =>
    clear H'
    try clear p2
    try clear c3
    try clear c5
    try clear hcz6_0
    try clear hcz6_1
    try clear hcz6_2
    try clear hcz6_3
    try clear hfz6_0
    try clear hfz6_1
    try clear hfz6_2
    try clear hfz6_3
    obtain ⟨x7_1, x8_1, x190000_1, x190001_1, x190002_1, x190003_1, rfl, rfl, HA, HK1, BK188, BK189, HB⟩ := hrel
    cases gk with
    | zero => exact absurd HA.out (by simp [plenumref13_at.l0])
    | succ k1 =>
      have H := HA.out
      clear HA
      simp only [plenumref13_at.l0] at H
      by_cases c7 : x8_1 < (l0.length : Int)
      · rw [if_pos c7] at H
        have c7b0 : decide (x8_1 < (l0.length : Int)) = true := decide_eq_true c7
        clear c7
        by_cases c8 : 0 ≤ x8_1
        · rw [if_pos c8] at H
          have c8b0 : decide (0 ≤ x8_1) = true := decide_eq_true c8
          clear c8
          by_cases c9 : ((rd_T25 l0 x8_1).f0) = a1
          · rw [if_pos c9] at H
            have c9b0 : (((rd_T25 l0 x8_1).f0) == a1) = true := beq_iff_eq.mpr c9
            have c9b1 : (((rd_T25 l0 x8_1).f0) != a1) = false := bne_eq_false_iff_eq.mpr c9
            clear c9
            replace H := Option.bind_eq_some_iff.mp H
            obtain ⟨t192, A100, H⟩ := H
            replace H : (if t192 = 0 then (if x7_1 = true then ((plenumref13_less.f x190000_1 x190001_1 x190002_1 x190003_1 ((rd_T25 l0 x8_1).f0) ((rd_T25 l0 x8_1).f1) ((rd_T25 l0 x8_1).f2.f0) ((rd_T25 l0 x8_1).f2.f1)).bind fun t193 => (if t193 = true then (plenumref13_at.l0 k1 l0 a1 true (wrap64 (x8_1 + 1)) ((rd_T25 l0 x8_1).f0) ((rd_T25 l0 x8_1).f1) ((rd_T25 l0 x8_1).f2.f0) ((rd_T25 l0 x8_1).f2.f1)) else (plenumref13_at.l0 k1 l0 a1 x7_1 (wrap64 (x8_1 + 1)) x190000_1 x190001_1 x190002_1 x190003_1))) else (plenumref13_at.l0 k1 l0 a1 true (wrap64 (x8_1 + 1)) ((rd_T25 l0 x8_1).f0) ((rd_T25 l0 x8_1).f1) ((rd_T25 l0 x8_1).f2.f0) ((rd_T25 l0 x8_1).f2.f1))) else (plenumref13_at.l0 k1 l0 a1 x7_1 (wrap64 (x8_1 + 1)) x190000_1 x190001_1 x190002_1 x190003_1)) = some (r1, r2, r3, r4, r5) := H
            have A10 := Aside0.mk A100
            clear A100
            by_cases c11 : t192 = 0
            · rw [if_pos c11] at H
              have c11b0 : (t192 == 0) = true := beq_iff_eq.mpr c11
              have c11b1 : (t192 != 0) = false := bne_eq_false_iff_eq.mpr c11
              clear c11
              by_cases c12 : x7_1 = true
              · subst c12
                have H1 : ((plenumref13_less.f x190000_1 x190001_1 x190002_1 x190003_1 ((rd_T25 l0 x8_1).f0) ((rd_T25 l0 x8_1).f1) ((rd_T25 l0 x8_1).f2.f0) ((rd_T25 l0 x8_1).f2.f1)).bind fun t193 => (if t193 = true then (plenumref13_at.l0 k1 l0 a1 true (wrap64 (x8_1 + 1)) ((rd_T25 l0 x8_1).f0) ((rd_T25 l0 x8_1).f1) ((rd_T25 l0 x8_1).f2.f0) ((rd_T25 l0 x8_1).f2.f1)) else (plenumref13_at.l0 k1 l0 a1 true (wrap64 (x8_1 + 1)) x190000_1 x190001_1 x190002_1 x190003_1))) = some (r1, r2, r3, r4, r5) := by rw [if_pos rfl] at H; exact H
                clear H
                have H := H1
                clear H1
                replace H := Option.bind_eq_some_iff.mp H
                obtain ⟨t193, A130, H⟩ := H
                replace H : (if t193 = true then (plenumref13_at.l0 k1 l0 a1 true (wrap64 (x8_1 + 1)) ((rd_T25 l0 x8_1).f0) ((rd_T25 l0 x8_1).f1) ((rd_T25 l0 x8_1).f2.f0) ((rd_T25 l0 x8_1).f2.f1)) else (plenumref13_at.l0 k1 l0 a1 true (wrap64 (x8_1 + 1)) x190000_1 x190001_1 x190002_1 x190003_1)) = some (r1, r2, r3, r4, r5) := H
                have A13 := Aside0.mk A130
                clear A130
                by_cases c14 : t193 = true
                · subst c14
                  have H1 : (plenumref13_at.l0 k1 l0 a1 true (wrap64 (x8_1 + 1)) ((rd_T25 l0 x8_1).f0) ((rd_T25 l0 x8_1).f1) ((rd_T25 l0 x8_1).f2.f0) ((rd_T25 l0 x8_1).f2.f1)) = some (r1, r2, r3, r4, r5) := by rw [if_pos rfl] at H; exact H
                  clear H
                  have H := H1
                  clear H1
                  have H' := Aside0.mk H
                  clear H
                  have p190 : 0 ≤ (x8_1 : Int) := of_decide_eq_true (by first | (with_reducible assumption) | assumption)
                  have q190 : x8_1 < (l0.length : Int) := of_decide_eq_true (by first | (with_reducible assumption) | assumption)
                  obtain ⟨ad190, e190, hx190_0, hx190_1, hx190_2, hx190_3⟩ := at_T25 HR0.out x8_1 p190 q190
                  cases e190
                  replace hx190_0 := (HB.out.cell (World.block_lt_of_cell? w _ hx190_0)).trans hx190_0
                  replace hx190_1 := (HB.out.cell (World.block_lt_of_cell? w _ hx190_1)).trans hx190_1
                  replace hx190_2 := (HB.out.cell (World.block_lt_of_cell? w _ hx190_2)).trans hx190_2
                  replace hx190_3 := (HB.out.cell (World.block_lt_of_cell? w _ hx190_3)).trans hx190_3
                  replace p190 := eq_true p190
                  replace q190 := eq_true q190
                  go_wp2_with (first | ((with_reducible refine gate_dst (N := 9) rfl ?_); refine box_event ?hg (N := 9) ?hd (cs := #[.int .i64 0, .int .i64 0, .int .i64 0, .int .i64 0]) (t := 25) ?hr ?_; (case hd => rfl); (case hg => rfl); (case hr => first | (go_simp; done) | (go_simp; rfl)); intro gb191 hg w15 hbox hb; have n0_ := Aside0.mk (blk_below (g := gb188) (o := .cells #[.int .i64 0, .int .i64 0, .int .i64 0, .int .i64 0] 25 (0, 0)) (by (with_reducible repeat (first | refine blk_drewN ?_ _ | refine blk_drew ?_ | refine blk_alloc ?_ _)); exact BK188.out) hb); have n1_ := Aside0.mk (blk_below (g := gb189) (o := .cells #[.int .i64 x190000_1, .int .i64 x190001_1, .int .i64 x190002_1, .int .i64 x190003_1] 25 (0, 0)) (by (with_reducible repeat (first | refine blk_drewN ?_ _ | refine blk_drew ?_ | refine blk_alloc ?_ _)); exact BK189.out) hb); have n2_ := Aside0.mk (below_step (by repeat (first | (with_reducible first | exact HB.out | apply below_alloc | apply pw_below_drewN | apply below_drew1 | refine below_set ?_ GE188.out | refine below_set ?_ GE189.out) | exact HB.out)) hb); have n3_ := Aside0.mk (hbox); have n4_ := Aside0.mk ((by rw [hg]; exact (below_size (by repeat (first | (with_reducible first | exact HB.out | apply below_alloc | apply pw_below_drewN | apply below_drew1 | refine below_set ?_ GE188.out | refine below_set ?_ GE189.out) | exact HB.out))) : w.heap.size ≤ gb191)); have n5_ := Aside0.mk ((by rw [hg]; exact (below_size (by repeat (first | (with_reducible first | exact HB.out | apply below_alloc | apply pw_below_drewN | apply below_drew1 | refine below_set ?_ GE188.out | refine below_set ?_ GE189.out) | exact HB.out))) : w.heap.size ≤ gb191)); have n6_ := Aside0.mk ((by rw [hg]; exact Nat.ne_of_lt (blk_lt (g := gb188) (o := .cells #[.int .i64 0, .int .i64 0, .int .i64 0, .int .i64 0] 25 (0, 0)) (by (with_reducible repeat (first | refine blk_drewN ?_ _ | refine blk_drew ?_ | refine blk_alloc ?_ _)); exact BK188.out)) : gb188 ≠ gb191)); have n7_ := Aside0.mk ((by rw [hg]; exact Nat.ne_of_gt (blk_lt (g := gb188) (o := .cells #[.int .i64 0, .int .i64 0, .int .i64 0, .int .i64 0] 25 (0, 0)) (by (with_reducible repeat (first | refine blk_drewN ?_ _ | refine blk_drew ?_ | refine blk_alloc ?_ _)); exact BK188.out)) : gb191 ≠ gb188)); have n8_ := Aside0.mk ((by rw [hg]; exact Nat.ne_of_lt (blk_lt (g := gb189) (o := .cells #[.int .i64 x190000_1, .int .i64 x190001_1, .int .i64 x190002_1, .int .i64 x190003_1] 25 (0, 0)) (by (with_reducible repeat (first | refine blk_drewN ?_ _ | refine blk_drew ?_ | refine blk_alloc ?_ _)); exact BK189.out)) : gb189 ≠ gb191)); have n9_ := Aside0.mk ((by rw [hg]; exact Nat.ne_of_gt (blk_lt (g := gb189) (o := .cells #[.int .i64 x190000_1, .int .i64 x190001_1, .int .i64 x190002_1, .int .i64 x190003_1] 25 (0, 0)) (by (with_reducible repeat (first | refine blk_drewN ?_ _ | refine blk_drew ?_ | refine blk_alloc ?_ _)); exact BK189.out)) : gb191 ≠ gb189)); clear BK188; clear BK189; clear HB; have BK188 := n0_; have BK189 := n1_; have HB := n2_; have BK191 := n3_; have GW191 := n4_; have GE191 := n5_; have NB188_191 := n6_; have NB191_188 := n7_; have NB189_191 := n8_; have NB191_189 := n9_; clear n0_ n1_ n2_ n3_ n4_ n5_ n6_ n7_ n8_ n9_; clear hb hbox hg; have hnb16 := NB191_188.out; have hnc16 := NB188_191.out; have hnb17 := NB191_189.out; have hnc17 := NB189_191.out; have hcz18_0 : w15.cell? ⟨gb191, 0, none⟩ = some (.int .i64 0) := (blk_cell BK191.out 0).trans rfl; have hcz18_1 : w15.cell? ⟨gb191, 1, none⟩ = some (.int .i64 0) := (blk_cell BK191.out 1).trans rfl; have hcz18_2 : w15.cell? ⟨gb191, 2, none⟩ = some (.int .i64 0) := (blk_cell BK191.out 2).trans rfl; have hcz18_3 : w15.cell? ⟨gb191, 3, none⟩ = some (.int .i64 0) := (blk_cell BK191.out 3).trans rfl; have hfz18_0 := blk_frozen BK191.out 0; have hfz18_1 := blk_frozen BK191.out 1; have hfz18_2 := blk_frozen BK191.out 2; have hfz18_3 := blk_frozen BK191.out 3) | (go_at_call 13; (with_reducible refine (plenumref13_Check.calls k1 ((rd_T25 l0 x8_1).f0) ((rd_T25 l0 x8_1).f1) ((rd_T25 l0 x8_1).f2.f0) ((rd_T25 l0 x8_1).f2.f1) t192 _ A10.out).mono ?_); rintro e w19 ⟨rfl, hb⟩; have n0_ := Aside0.mk (blk_below (g := gb188) (o := .cells #[.int .i64 0, .int .i64 0, .int .i64 0, .int .i64 0] 25 (0, 0)) (by (with_reducible repeat (first | refine blk_drewN ?_ _ | refine blk_drew ?_ | refine blk_alloc ?_ _)); refine blk_far ?_ NB188_191.out _; (with_reducible repeat (first | refine blk_drewN ?_ _ | refine blk_drew ?_ | refine blk_alloc ?_ _)); refine blk_far ?_ NB188_191.out _; (with_reducible repeat (first | refine blk_drewN ?_ _ | refine blk_drew ?_ | refine blk_alloc ?_ _)); refine blk_far ?_ NB188_191.out _; (with_reducible repeat (first | refine blk_drewN ?_ _ | refine blk_drew ?_ | refine blk_alloc ?_ _)); refine blk_far ?_ NB188_191.out _; (with_reducible repeat (first | refine blk_drewN ?_ _ | refine blk_drew ?_ | refine blk_alloc ?_ _)); exact BK188.out) hb); have n1_ := Aside0.mk (blk_below (g := gb189) (o := .cells #[.int .i64 x190000_1, .int .i64 x190001_1, .int .i64 x190002_1, .int .i64 x190003_1] 25 (0, 0)) (by (with_reducible repeat (first | refine blk_drewN ?_ _ | refine blk_drew ?_ | refine blk_alloc ?_ _)); refine blk_far ?_ NB189_191.out _; (with_reducible repeat (first | refine blk_drewN ?_ _ | refine blk_drew ?_ | refine blk_alloc ?_ _)); refine blk_far ?_ NB189_191.out _; (with_reducible repeat (first | refine blk_drewN ?_ _ | refine blk_drew ?_ | refine blk_alloc ?_ _)); refine blk_far ?_ NB189_191.out _; (with_reducible repeat (first | refine blk_drewN ?_ _ | refine blk_drew ?_ | refine blk_alloc ?_ _)); refine blk_far ?_ NB189_191.out _; (with_reducible repeat (first | refine blk_drewN ?_ _ | refine blk_drew ?_ | refine blk_alloc ?_ _)); exact BK189.out) hb); have n2_ := Aside0.mk (blk_below (g := gb191) (o := .cells #[.int .i64 ((rd_T25 l0 x8_1).f0), .int .i64 ((rd_T25 l0 x8_1).f1), .int .i64 ((rd_T25 l0 x8_1).f2.f0), .int .i64 ((rd_T25 l0 x8_1).f2.f1)] 25 (0, 0)) (by (with_reducible repeat (first | refine blk_drewN ?_ _ | refine blk_drew ?_ | refine blk_alloc ?_ _)); refine blk_put (cs := #[.int .i64 ((rd_T25 l0 x8_1).f0), .int .i64 ((rd_T25 l0 x8_1).f1), .int .i64 ((rd_T25 l0 x8_1).f2.f0), .int .i64 0]) ?_ 3 _ rfl; (with_reducible repeat (first | refine blk_drewN ?_ _ | refine blk_drew ?_ | refine blk_alloc ?_ _)); refine blk_put (cs := #[.int .i64 ((rd_T25 l0 x8_1).f0), .int .i64 ((rd_T25 l0 x8_1).f1), .int .i64 0, .int .i64 0]) ?_ 2 _ rfl; (with_reducible repeat (first | refine blk_drewN ?_ _ | refine blk_drew ?_ | refine blk_alloc ?_ _)); refine blk_put (cs := #[.int .i64 ((rd_T25 l0 x8_1).f0), .int .i64 0, .int .i64 0, .int .i64 0]) ?_ 1 _ rfl; (with_reducible repeat (first | refine blk_drewN ?_ _ | refine blk_drew ?_ | refine blk_alloc ?_ _)); refine blk_put (cs := #[.int .i64 0, .int .i64 0, .int .i64 0, .int .i64 0]) ?_ 0 _ rfl; (with_reducible repeat (first | refine blk_drewN ?_ _ | refine blk_drew ?_ | refine blk_alloc ?_ _)); exact BK191.out) hb); have n3_ := Aside0.mk (below_step (by repeat (first | (with_reducible first | exact HB.out | apply below_alloc | apply pw_below_drewN | apply below_drew1 | refine below_set ?_ GE188.out | refine below_set ?_ GE189.out | refine below_set ?_ GE191.out) | exact HB.out)) hb); clear BK188; clear BK189; clear BK191; clear HB; have BK188 := n0_; have BK189 := n1_; have BK191 := n2_; have HB := n3_; clear n0_ n1_ n2_ n3_; (try clear hb); (try clear hb2); (try clear hk); (try clear hi); have hnb20 := NB189_188.out; have hnc20 := NB188_189.out; have hcz21_0 : w19.cell? ⟨gb189, 0, none⟩ = some (.int .i64 x190000_1) := (blk_cell BK189.out 0).trans rfl; have hcz21_1 : w19.cell? ⟨gb189, 1, none⟩ = some (.int .i64 x190001_1) := (blk_cell BK189.out 1).trans rfl; have hcz21_2 : w19.cell? ⟨gb189, 2, none⟩ = some (.int .i64 x190002_1) := (blk_cell BK189.out 2).trans rfl; have hcz21_3 : w19.cell? ⟨gb189, 3, none⟩ = some (.int .i64 x190003_1) := (blk_cell BK189.out 3).trans rfl; have hfz21_0 := blk_frozen BK189.out 0; have hfz21_1 := blk_frozen BK189.out 1; have hfz21_2 := blk_frozen BK189.out 2; have hfz21_3 := blk_frozen BK189.out 3; have hcz22_0 : w19.cell? ⟨gb191, 0, none⟩ = some (.int .i64 ((rd_T25 l0 x8_1).f0)) := (blk_cell BK191.out 0).trans rfl; have hcz22_1 : w19.cell? ⟨gb191, 1, none⟩ = some (.int .i64 ((rd_T25 l0 x8_1).f1)) := (blk_cell BK191.out 1).trans rfl; have hcz22_2 : w19.cell? ⟨gb191, 2, none⟩ = some (.int .i64 ((rd_T25 l0 x8_1).f2.f0)) := (blk_cell BK191.out 2).trans rfl; have hcz22_3 : w19.cell? ⟨gb191, 3, none⟩ = some (.int .i64 ((rd_T25 l0 x8_1).f2.f1)) := (blk_cell BK191.out 3).trans rfl; have hfz22_0 := blk_frozen BK191.out 0; have hfz22_1 := blk_frozen BK191.out 1; have hfz22_2 := blk_frozen BK191.out 2; have hfz22_3 := blk_frozen BK191.out 3) | (go_at_call 40; (with_reducible refine (plenumref13_less.calls x190000_1 x190001_1 x190002_1 x190003_1 ((rd_T25 l0 x8_1).f0) ((rd_T25 l0 x8_1).f1) ((rd_T25 l0 x8_1).f2.f0) ((rd_T25 l0 x8_1).f2.f1) true _ A13.out).mono ?_); rintro e w23 ⟨rfl, hb⟩; have n0_ := Aside0.mk (blk_below (g := gb188) (o := .cells #[.int .i64 0, .int .i64 0, .int .i64 0, .int .i64 0] 25 (0, 0)) (by (with_reducible repeat (first | refine blk_drewN ?_ _ | refine blk_drew ?_ | refine blk_alloc ?_ _)); exact BK188.out) hb); have n1_ := Aside0.mk (blk_below (g := gb189) (o := .cells #[.int .i64 x190000_1, .int .i64 x190001_1, .int .i64 x190002_1, .int .i64 x190003_1] 25 (0, 0)) (by (with_reducible repeat (first | refine blk_drewN ?_ _ | refine blk_drew ?_ | refine blk_alloc ?_ _)); exact BK189.out) hb); have n2_ := Aside0.mk (blk_below (g := gb191) (o := .cells #[.int .i64 ((rd_T25 l0 x8_1).f0), .int .i64 ((rd_T25 l0 x8_1).f1), .int .i64 ((rd_T25 l0 x8_1).f2.f0), .int .i64 ((rd_T25 l0 x8_1).f2.f1)] 25 (0, 0)) (by (with_reducible repeat (first | refine blk_drewN ?_ _ | refine blk_drew ?_ | refine blk_alloc ?_ _)); exact BK191.out) hb); have n3_ := Aside0.mk (below_step (by repeat (first | (with_reducible first | exact HB.out | apply below_alloc | apply pw_below_drewN | apply below_drew1 | refine below_set ?_ GE188.out | refine below_set ?_ GE189.out | refine below_set ?_ GE191.out) | exact HB.out)) hb); clear BK188; clear BK189; clear BK191; clear HB; have BK188 := n0_; have BK189 := n1_; have BK191 := n2_; have HB := n3_; clear n0_ n1_ n2_ n3_; (try clear hb); (try clear hb2); (try clear hk); (try clear hi); have hcz24_0 : w23.cell? ⟨gb191, 0, none⟩ = some (.int .i64 ((rd_T25 l0 x8_1).f0)) := (blk_cell BK191.out 0).trans rfl; have hcz24_1 : w23.cell? ⟨gb191, 1, none⟩ = some (.int .i64 ((rd_T25 l0 x8_1).f1)) := (blk_cell BK191.out 1).trans rfl; have hcz24_2 : w23.cell? ⟨gb191, 2, none⟩ = some (.int .i64 ((rd_T25 l0 x8_1).f2.f0)) := (blk_cell BK191.out 2).trans rfl; have hcz24_3 : w23.cell? ⟨gb191, 3, none⟩ = some (.int .i64 ((rd_T25 l0 x8_1).f2.f1)) := (blk_cell BK191.out 3).trans rfl; have hfz24_0 := blk_frozen BK191.out 0; have hfz24_1 := blk_frozen BK191.out 1; have hfz24_2 := blk_frozen BK191.out 2; have hfz24_3 := blk_frozen BK191.out 3; have hcz25_0 : w23.cell? ⟨gb189, 0, none⟩ = some (.int .i64 x190000_1) := (blk_cell BK189.out 0).trans rfl; have hcz25_1 : w23.cell? ⟨gb189, 1, none⟩ = some (.int .i64 x190001_1) := (blk_cell BK189.out 1).trans rfl; have hcz25_2 : w23.cell? ⟨gb189, 2, none⟩ = some (.int .i64 x190002_1) := (blk_cell BK189.out 2).trans rfl; have hcz25_3 : w23.cell? ⟨gb189, 3, none⟩ = some (.int .i64 x190003_1) := (blk_cell BK189.out 3).trans rfl; have hfz25_0 := blk_frozen BK189.out 0; have hfz25_1 := blk_frozen BK189.out 1; have hfz25_2 := blk_frozen BK189.out 2; have hfz25_3 := blk_frozen BK189.out 3))
                  go_roundg k1
                  case measure => have := HK1.out; omega
                  case rel => exact ⟨(true), (wrap64 (x8_1 + 1)), ((rd_T25 l0 x8_1).f0), ((rd_T25 l0 x8_1).f1), ((rd_T25 l0 x8_1).f2.f0), ((rd_T25 l0 x8_1).f2.f1), (by first | rfl | (simp; done) | (simp [*]; done)), (by first | rfl | (simp; done) | (simp [*]; done)), H', ⟨by have := HK1.out; omega⟩, ⟨by (with_reducible repeat (first | refine blk_drewN ?_ _ | refine blk_drew ?_ | refine blk_alloc ?_ _)); refine blk_far ?_ NB188_189.out _; (with_reducible repeat (first | refine blk_drewN ?_ _ | refine blk_drew ?_ | refine blk_alloc ?_ _)); refine blk_far ?_ NB188_189.out _; (with_reducible repeat (first | refine blk_drewN ?_ _ | refine blk_drew ?_ | refine blk_alloc ?_ _)); refine blk_far ?_ NB188_189.out _; (with_reducible repeat (first | refine blk_drewN ?_ _ | refine blk_drew ?_ | refine blk_alloc ?_ _)); refine blk_far ?_ NB188_189.out _; (with_reducible repeat (first | refine blk_drewN ?_ _ | refine blk_drew ?_ | refine blk_alloc ?_ _)); exact BK188.out⟩, ⟨by (with_reducible repeat (first | refine blk_drewN ?_ _ | refine blk_drew ?_ | refine blk_alloc ?_ _)); refine blk_put (cs := #[.int .i64 ((rd_T25 l0 x8_1).f0), .int .i64 ((rd_T25 l0 x8_1).f1), .int .i64 ((rd_T25 l0 x8_1).f2.f0), .int .i64 x190003_1]) ?_ 3 _ rfl; (with_reducible repeat (first | refine blk_drewN ?_ _ | refine blk_drew ?_ | refine blk_alloc ?_ _)); refine blk_put (cs := #[.int .i64 ((rd_T25 l0 x8_1).f0), .int .i64 ((rd_T25 l0 x8_1).f1), .int .i64 x190002_1, .int .i64 x190003_1]) ?_ 2 _ rfl; (with_reducible repeat (first | refine blk_drewN ?_ _ | refine blk_drew ?_ | refine blk_alloc ?_ _)); refine blk_put (cs := #[.int .i64 ((rd_T25 l0 x8_1).f0), .int .i64 x190001_1, .int .i64 x190002_1, .int .i64 x190003_1]) ?_ 1 _ rfl; (with_reducible repeat (first | refine blk_drewN ?_ _ | refine blk_drew ?_ | refine blk_alloc ?_ _)); refine blk_put (cs := #[.int .i64 x190000_1, .int .i64 x190001_1, .int .i64 x190002_1, .int .i64 x190003_1]) ?_ 0 _ rfl; (with_reducible repeat (first | refine blk_drewN ?_ _ | refine blk_drew ?_ | refine blk_alloc ?_ _)); exact BK189.out⟩, ⟨by repeat (first | (with_reducible first | exact HB.out | apply below_alloc | apply pw_below_drewN | apply below_drew1 | refine below_set ?_ GE188.out | refine below_set ?_ GE189.out | refine below_set ?_ GE191.out) | exact HB.out)⟩⟩
                · replace c14 := Bool.eq_false_iff.mpr c14
                  subst c14
                  have H1 : (plenumref13_at.l0 k1 l0 a1 true (wrap64 (x8_1 + 1)) x190000_1 x190001_1 x190002_1 x190003_1) = some (r1, r2, r3, r4, r5) := by rw [if_neg (show ¬ (false = true) by decide)] at H; exact H
                  clear H
                  have H := H1
                  clear H1
                  have H' := Aside0.mk H
                  clear H
                  have p190 : 0 ≤ (x8_1 : Int) := of_decide_eq_true (by first | (with_reducible assumption) | assumption)
                  have q190 : x8_1 < (l0.length : Int) := of_decide_eq_true (by first | (with_reducible assumption) | assumption)
                  obtain ⟨ad190, e190, hx190_0, hx190_1, hx190_2, hx190_3⟩ := at_T25 HR0.out x8_1 p190 q190
                  cases e190
                  replace hx190_0 := (HB.out.cell (World.block_lt_of_cell? w _ hx190_0)).trans hx190_0
                  replace hx190_1 := (HB.out.cell (World.block_lt_of_cell? w _ hx190_1)).trans hx190_1
                  replace hx190_2 := (HB.out.cell (World.block_lt_of_cell? w _ hx190_2)).trans hx190_2
                  replace hx190_3 := (HB.out.cell (World.block_lt_of_cell? w _ hx190_3)).trans hx190_3
                  replace p190 := eq_true p190
                  replace q190 := eq_true q190
                  go_wp2_with (first | ((with_reducible refine gate_dst (N := 9) rfl ?_); refine box_event ?hg (N := 9) ?hd (cs := #[.int .i64 0, .int .i64 0, .int .i64 0, .int .i64 0]) (t := 25) ?hr ?_; (case hd => rfl); (case hg => rfl); (case hr => first | (go_simp; done) | (go_simp; rfl)); intro gb191 hg w26 hbox hb; have n0_ := Aside0.mk (blk_below (g := gb188) (o := .cells #[.int .i64 0, .int .i64 0, .int .i64 0, .int .i64 0] 25 (0, 0)) (by (with_reducible repeat (first | refine blk_drewN ?_ _ | refine blk_drew ?_ | refine blk_alloc ?_ _)); exact BK188.out) hb); have n1_ := Aside0.mk (blk_below (g := gb189) (o := .cells #[.int .i64 x190000_1, .int .i64 x190001_1, .int .i64 x190002_1, .int .i64 x190003_1] 25 (0, 0)) (by (with_reducible repeat (first | refine blk_drewN ?_ _ | refine blk_drew ?_ | refine blk_alloc ?_ _)); exact BK189.out) hb); have n2_ := Aside0.mk (below_step (by repeat (first | (with_reducible first | exact HB.out | apply below_alloc | apply pw_below_drewN | apply below_drew1 | refine below_set ?_ GE188.out | refine below_set ?_ GE189.out) | exact HB.out)) hb); have n3_ := Aside0.mk (hbox); have n4_ := Aside0.mk ((by rw [hg]; exact (below_size (by repeat (first | (with_reducible first | exact HB.out | apply below_alloc | apply pw_below_drewN | apply below_drew1 | refine below_set ?_ GE188.out | refine below_set ?_ GE189.out) | exact HB.out))) : w.heap.size ≤ gb191)); have n5_ := Aside0.mk ((by rw [hg]; exact (below_size (by repeat (first | (with_reducible first | exact HB.out | apply below_alloc | apply pw_below_drewN | apply below_drew1 | refine below_set ?_ GE188.out | refine below_set ?_ GE189.out) | exact HB.out))) : w.heap.size ≤ gb191)); have n6_ := Aside0.mk ((by rw [hg]; exact Nat.ne_of_lt (blk_lt (g := gb188) (o := .cells #[.int .i64 0, .int .i64 0, .int .i64 0, .int .i64 0] 25 (0, 0)) (by (with_reducible repeat (first | refine blk_drewN ?_ _ | refine blk_drew ?_ | refine blk_alloc ?_ _)); exact BK188.out)) : gb188 ≠ gb191)); have n7_ := Aside0.mk ((by rw [hg]; exact Nat.ne_of_gt (blk_lt (g := gb188) (o := .cells #[.int .i64 0, .int .i64 0, .int .i64 0, .int .i64 0] 25 (0, 0)) (by (with_reducible repeat (first | refine blk_drewN ?_ _ | refine blk_drew ?_ | refine blk_alloc ?_ _)); exact BK188.out)) : gb191 ≠ gb188)); have n8_ := Aside0.mk ((by rw [hg]; exact Nat.ne_of_lt (blk_lt (g := gb189) (o := .cells #[.int .i64 x190000_1, .int .i64 x190001_1, .int .i64 x190002_1, .int .i64 x190003_1] 25 (0, 0)) (by (with_reducible repeat (first | refine blk_drewN ?_ _ | refine blk_drew ?_ | refine blk_alloc ?_ _)); exact BK189.out)) : gb189 ≠ gb191)); have n9_ := Aside0.mk ((by rw [hg]; exact Nat.ne_of_gt (blk_lt (g := gb189) (o := .cells #[.int .i64 x190000_1, .int .i64 x190001_1, .int .i64 x190002_1, .int .i64 x190003_1] 25 (0, 0)) (by (with_reducible repeat (first | refine blk_drewN ?_ _ | refine blk_drew ?_ | refine blk_alloc ?_ _)); exact BK189.out)) : gb191 ≠ gb189)); clear BK188; clear BK189; clear HB; have BK188 := n0_; have BK189 := n1_; have HB := n2_; have BK191 := n3_; have GW191 := n4_; have GE191 := n5_; have NB188_191 := n6_; have NB191_188 := n7_; have NB189_191 := n8_; have NB191_189 := n9_; clear n0_ n1_ n2_ n3_ n4_ n5_ n6_ n7_ n8_ n9_; clear hb hbox hg; have hnb27 := NB191_188.out; have hnc27 := NB188_191.out; have hnb28 := NB191_189.out; have hnc28 := NB189_191.out; have hcz29_0 : w26.cell? ⟨gb191, 0, none⟩ = some (.int .i64 0) := (blk_cell BK191.out 0).trans rfl; have hcz29_1 : w26.cell? ⟨gb191, 1, none⟩ = some (.int .i64 0) := (blk_cell BK191.out 1).trans rfl; have hcz29_2 : w26.cell? ⟨gb191, 2, none⟩ = some (.int .i64 0) := (blk_cell BK191.out 2).trans rfl; have hcz29_3 : w26.cell? ⟨gb191, 3, none⟩ = some (.int .i64 0) := (blk_cell BK191.out 3).trans rfl; have hfz29_0 := blk_frozen BK191.out 0; have hfz29_1 := blk_frozen BK191.out 1; have hfz29_2 := blk_frozen BK191.out 2; have hfz29_3 := blk_frozen BK191.out 3) | (go_at_call 13; (with_reducible refine (plenumref13_Check.calls k1 ((rd_T25 l0 x8_1).f0) ((rd_T25 l0 x8_1).f1) ((rd_T25 l0 x8_1).f2.f0) ((rd_T25 l0 x8_1).f2.f1) t192 _ A10.out).mono ?_); rintro e w30 ⟨rfl, hb⟩; have n0_ := Aside0.mk (blk_below (g := gb188) (o := .cells #[.int .i64 0, .int .i64 0, .int .i64 0, .int .i64 0] 25 (0, 0)) (by (with_reducible repeat (first | refine blk_drewN ?_ _ | refine blk_drew ?_ | refine blk_alloc ?_ _)); refine blk_far ?_ NB188_191.out _; (with_reducible repeat (first | refine blk_drewN ?_ _ | refine blk_drew ?_ | refine blk_alloc ?_ _)); refine blk_far ?_ NB188_191.out _; (with_reducible repeat (first | refine blk_drewN ?_ _ | refine blk_drew ?_ | refine blk_alloc ?_ _)); refine blk_far ?_ NB188_191.out _; (with_reducible repeat (first | refine blk_drewN ?_ _ | refine blk_drew ?_ | refine blk_alloc ?_ _)); refine blk_far ?_ NB188_191.out _; (with_reducible repeat (first | refine blk_drewN ?_ _ | refine blk_drew ?_ | refine blk_alloc ?_ _)); exact BK188.out) hb); have n1_ := Aside0.mk (blk_below (g := gb189) (o := .cells #[.int .i64 x190000_1, .int .i64 x190001_1, .int .i64 x190002_1, .int .i64 x190003_1] 25 (0, 0)) (by (with_reducible repeat (first | refine blk_drewN ?_ _ | refine blk_drew ?_ | refine blk_alloc ?_ _)); refine blk_far ?_ NB189_191.out _; (with_reducible repeat (first | refine blk_drewN ?_ _ | refine blk_drew ?_ | refine blk_alloc ?_ _)); refine blk_far ?_ NB189_191.out _; (with_reducible repeat (first | refine blk_drewN ?_ _ | refine blk_drew ?_ | refine blk_alloc ?_ _)); refine blk_far ?_ NB189_191.out _; (with_reducible repeat (first | refine blk_drewN ?_ _ | refine blk_drew ?_ | refine blk_alloc ?_ _)); refine blk_far ?_ NB189_191.out _; (with_reducible repeat (first | refine blk_drewN ?_ _ | refine blk_drew ?_ | refine blk_alloc ?_ _)); exact BK189.out) hb); have n2_ := Aside0.mk (blk_below (g := gb191) (o := .cells #[.int .i64 ((rd_T25 l0 x8_1).f0), .int .i64 ((rd_T25 l0 x8_1).f1), .int .i64 ((rd_T25 l0 x8_1).f2.f0), .int .i64 ((rd_T25 l0 x8_1).f2.f1)] 25 (0, 0)) (by (with_reducible repeat (first | refine blk_drewN ?_ _ | refine blk_drew ?_ | refine blk_alloc ?_ _)); refine blk_put (cs := #[.int .i64 ((rd_T25 l0 x8_1).f0), .int .i64 ((rd_T25 l0 x8_1).f1), .int .i64 ((rd_T25 l0 x8_1).f2.f0), .int .i64 0]) ?_ 3 _ rfl; (with_reducible repeat (first | refine blk_drewN ?_ _ | refine blk_drew ?_ | refine blk_alloc ?_ _)); refine blk_put (cs := #[.int .i64 ((rd_T25 l0 x8_1).f0), .int .i64 ((rd_T25 l0 x8_1).f1), .int .i64 0, .int .i64 0]) ?_ 2 _ rfl; (with_reducible repeat (first | refine blk_drewN ?_ _ | refine blk_drew ?_ | refine blk_alloc ?_ _)); refine blk_put (cs := #[.int .i64 ((rd_T25 l0 x8_1).f0), .int .i64 0, .int .i64 0, .int .i64 0]) ?_ 1 _ rfl; (with_reducible repeat (first | refine blk_drewN ?_ _ | refine blk_drew ?_ | refine blk_alloc ?_ _)); refine blk_put (cs := #[.int .i64 0, .int .i64 0, .int .i64 0, .int .i64 0]) ?_ 0 _ rfl; (with_reducible repeat (first | refine blk_drewN ?_ _ | refine blk_drew ?_ | refine blk_alloc ?_ _)); exact BK191.out) hb); have n3_ := Aside0.mk (below_step (by repeat (first | (with_reducible first | exact HB.out | apply below_alloc | apply pw_below_drewN | apply below_drew1 | refine below_set ?_ GE188.out | refine below_set ?_ GE189.out | refine below_set ?_ GE191.out) | exact HB.out)) hb); clear BK188; clear BK189; clear BK191; clear HB; have BK188 := n0_; have BK189 := n1_; have BK191 := n2_; have HB := n3_; clear n0_ n1_ n2_ n3_; (try clear hb); (try clear hb2); (try clear hk); (try clear hi); have hnb31 := NB189_188.out; have hnc31 := NB188_189.out; have hcz32_0 : w30.cell? ⟨gb189, 0, none⟩ = some (.int .i64 x190000_1) := (blk_cell BK189.out 0).trans rfl; have hcz32_1 : w30.cell? ⟨gb189, 1, none⟩ = some (.int .i64 x190001_1) := (blk_cell BK189.out 1).trans rfl; have hcz32_2 : w30.cell? ⟨gb189, 2, none⟩ = some (.int .i64 x190002_1) := (blk_cell BK189.out 2).trans rfl; have hcz32_3 : w30.cell? ⟨gb189, 3, none⟩ = some (.int .i64 x190003_1) := (blk_cell BK189.out 3).trans rfl; have hfz32_0 := blk_frozen BK189.out 0; have hfz32_1 := blk_frozen BK189.out 1; have hfz32_2 := blk_frozen BK189.out 2; have hfz32_3 := blk_frozen BK189.out 3; have hcz33_0 : w30.cell? ⟨gb191, 0, none⟩ = some (.int .i64 ((rd_T25 l0 x8_1).f0)) := (blk_cell BK191.out 0).trans rfl; have hcz33_1 : w30.cell? ⟨gb191, 1, none⟩ = some (.int .i64 ((rd_T25 l0 x8_1).f1)) := (blk_cell BK191.out 1).trans rfl; have hcz33_2 : w30.cell? ⟨gb191, 2, none⟩ = some (.int .i64 ((rd_T25 l0 x8_1).f2.f0)) := (blk_cell BK191.out 2).trans rfl; have hcz33_3 : w30.cell? ⟨gb191, 3, none⟩ = some (.int .i64 ((rd_T25 l0 x8_1).f2.f1)) := (blk_cell BK191.out 3).trans rfl; have hfz33_0 := blk_frozen BK191.out 0; have hfz33_1 := blk_frozen BK191.out 1; have hfz33_2 := blk_frozen BK191.out 2; have hfz33_3 := blk_frozen BK191.out 3) | (go_at_call 40; (with_reducible refine (plenumref13_less.calls x190000_1 x190001_1 x190002_1 x190003_1 ((rd_T25 l0 x8_1).f0) ((rd_T25 l0 x8_1).f1) ((rd_T25 l0 x8_1).f2.f0) ((rd_T25 l0 x8_1).f2.f1) false _ A13.out).mono ?_); rintro e w34 ⟨rfl, hb⟩; have n0_ := Aside0.mk (blk_below (g := gb188) (o := .cells #[.int .i64 0, .int .i64 0, .int .i64 0, .int .i64 0] 25 (0, 0)) (by (with_reducible repeat (first | refine blk_drewN ?_ _ | refine blk_drew ?_ | refine blk_alloc ?_ _)); exact BK188.out) hb); have n1_ := Aside0.mk (blk_below (g := gb189) (o := .cells #[.int .i64 x190000_1, .int .i64 x190001_1, .int .i64 x190002_1, .int .i64 x190003_1] 25 (0, 0)) (by (with_reducible repeat (first | refine blk_drewN ?_ _ | refine blk_drew ?_ | refine blk_alloc ?_ _)); exact BK189.out) hb); have n2_ := Aside0.mk (blk_below (g := gb191) (o := .cells #[.int .i64 ((rd_T25 l0 x8_1).f0), .int .i64 ((rd_T25 l0 x8_1).f1), .int .i64 ((rd_T25 l0 x8_1).f2.f0), .int .i64 ((rd_T25 l0 x8_1).f2.f1)] 25 (0, 0)) (by (with_reducible repeat (first | refine blk_drewN ?_ _ | refine blk_drew ?_ | refine blk_alloc ?_ _)); exact BK191.out) hb); have n3_ := Aside0.mk (below_step (by repeat (first | (with_reducible first | exact HB.out | apply below_alloc | apply pw_below_drewN | apply below_drew1 | refine below_set ?_ GE188.out | refine below_set ?_ GE189.out | refine below_set ?_ GE191.out) | exact HB.out)) hb); clear BK188; clear BK189; clear BK191; clear HB; have BK188 := n0_; have BK189 := n1_; have BK191 := n2_; have HB := n3_; clear n0_ n1_ n2_ n3_; (try clear hb); (try clear hb2); (try clear hk); (try clear hi)))
                  go_roundg k1
                  case measure => have := HK1.out; omega
                  case rel => exact ⟨(true), (wrap64 (x8_1 + 1)), (x190000_1), (x190001_1), (x190002_1), (x190003_1), (by first | rfl | (simp; done) | (simp [*]; done)), (by first | rfl | (simp; done) | (simp [*]; done)), H', ⟨by have := HK1.out; omega⟩, ⟨by (with_reducible repeat (first | refine blk_drewN ?_ _ | refine blk_drew ?_ | refine blk_alloc ?_ _)); exact BK188.out⟩, ⟨by (with_reducible repeat (first | refine blk_drewN ?_ _ | refine blk_drew ?_ | refine blk_alloc ?_ _)); exact BK189.out⟩, ⟨by repeat (first | (with_reducible first | exact HB.out | apply below_alloc | apply pw_below_drewN | apply below_drew1 | refine below_set ?_ GE188.out | refine below_set ?_ GE189.out | refine below_set ?_ GE191.out) | exact HB.out)⟩⟩
              · replace c12 := Bool.eq_false_iff.mpr c12
                subst c12
                have H1 : (plenumref13_at.l0 k1 l0 a1 true (wrap64 (x8_1 + 1)) ((rd_T25 l0 x8_1).f0) ((rd_T25 l0 x8_1).f1) ((rd_T25 l0 x8_1).f2.f0) ((rd_T25 l0 x8_1).f2.f1)) = some (r1, r2, r3, r4, r5) := by rw [if_neg (show ¬ (false = true) by decide)] at H; exact H
                clear H
                have H := H1
                clear H1
                have H' := Aside0.mk H
                clear H
                have p190 : 0 ≤ (x8_1 : Int) := of_decide_eq_true (by first | (with_reducible assumption) | assumption)
                have q190 : x8_1 < (l0.length : Int) := of_decide_eq_true (by first | (with_reducible assumption) | assumption)
                obtain ⟨ad190, e190, hx190_0, hx190_1, hx190_2, hx190_3⟩ := at_T25 HR0.out x8_1 p190 q190
                cases e190
                replace hx190_0 := (HB.out.cell (World.block_lt_of_cell? w _ hx190_0)).trans hx190_0
                replace hx190_1 := (HB.out.cell (World.block_lt_of_cell? w _ hx190_1)).trans hx190_1
                replace hx190_2 := (HB.out.cell (World.block_lt_of_cell? w _ hx190_2)).trans hx190_2
                replace hx190_3 := (HB.out.cell (World.block_lt_of_cell? w _ hx190_3)).trans hx190_3
                replace p190 := eq_true p190
                replace q190 := eq_true q190
                go_wp2_with (first | ((with_reducible refine gate_dst (N := 9) rfl ?_); refine box_event ?hg (N := 9) ?hd (cs := #[.int .i64 0, .int .i64 0, .int .i64 0, .int .i64 0]) (t := 25) ?hr ?_; (case hd => rfl); (case hg => rfl); (case hr => first | (go_simp; done) | (go_simp; rfl)); intro gb191 hg w35 hbox hb; have n0_ := Aside0.mk (blk_below (g := gb188) (o := .cells #[.int .i64 0, .int .i64 0, .int .i64 0, .int .i64 0] 25 (0, 0)) (by (with_reducible repeat (first | refine blk_drewN ?_ _ | refine blk_drew ?_ | refine blk_alloc ?_ _)); exact BK188.out) hb); have n1_ := Aside0.mk (blk_below (g := gb189) (o := .cells #[.int .i64 x190000_1, .int .i64 x190001_1, .int .i64 x190002_1, .int .i64 x190003_1] 25 (0, 0)) (by (with_reducible repeat (first | refine blk_drewN ?_ _ | refine blk_drew ?_ | refine blk_alloc ?_ _)); exact BK189.out) hb); have n2_ := Aside0.mk (below_step (by repeat (first | (with_reducible first | exact HB.out | apply below_alloc | apply pw_below_drewN | apply below_drew1 | refine below_set ?_ GE188.out | refine below_set ?_ GE189.out) | exact HB.out)) hb); have n3_ := Aside0.mk (hbox); have n4_ := Aside0.mk ((by rw [hg]; exact (below_size (by repeat (first | (with_reducible first | exact HB.out | apply below_alloc | apply pw_below_drewN | apply below_drew1 | refine below_set ?_ GE188.out | refine below_set ?_ GE189.out) | exact HB.out))) : w.heap.size ≤ gb191)); have n5_ := Aside0.mk ((by rw [hg]; exact (below_size (by repeat (first | (with_reducible first | exact HB.out | apply below_alloc | apply pw_below_drewN | apply below_drew1 | refine below_set ?_ GE188.out | refine below_set ?_ GE189.out) | exact HB.out))) : w.heap.size ≤ gb191)); have n6_ := Aside0.mk ((by rw [hg]; exact Nat.ne_of_lt (blk_lt (g := gb188) (o := .cells #[.int .i64 0, .int .i64 0, .int .i64 0, .int .i64 0] 25 (0, 0)) (by (with_reducible repeat (first | refine blk_drewN ?_ _ | refine blk_drew ?_ | refine blk_alloc ?_ _)); exact BK188.out)) : gb188 ≠ gb191)); have n7_ := Aside0.mk ((by rw [hg]; exact Nat.ne_of_gt (blk_lt (g := gb188) (o := .cells #[.int .i64 0, .int .i64 0, .int .i64 0, .int .i64 0] 25 (0, 0)) (by (with_reducible repeat (first | refine blk_drewN ?_ _ | refine blk_drew ?_ | refine blk_alloc ?_ _)); exact BK188.out)) : gb191 ≠ gb188)); have n8_ := Aside0.mk ((by rw [hg]; exact Nat.ne_of_lt (blk_lt (g := gb189) (o := .cells #[.int .i64 x190000_1, .int .i64 x190001_1, .int .i64 x190002_1, .int .i64 x190003_1] 25 (0, 0)) (by (with_reducible repeat (first | refine blk_drewN ?_ _ | refine blk_drew ?_ | refine blk_alloc ?_ _)); exact BK189.out)) : gb189 ≠ gb191)); have n9_ := Aside0.mk ((by rw [hg]; exact Nat.ne_of_gt (blk_lt (g := gb189) (o := .cells #[.int .i64 x190000_1, .int .i64 x190001_1, .int .i64 x190002_1, .int .i64 x190003_1] 25 (0, 0)) (by (with_reducible repeat (first | refine blk_drewN ?_ _ | refine blk_drew ?_ | refine blk_alloc ?_ _)); exact BK189.out)) : gb191 ≠ gb189)); clear BK188; clear BK189; clear HB; have BK188 := n0_; have BK189 := n1_; have HB := n2_; have BK191 := n3_; have GW191 := n4_; have GE191 := n5_; have NB188_191 := n6_; have NB191_188 := n7_; have NB189_191 := n8_; have NB191_189 := n9_; clear n0_ n1_ n2_ n3_ n4_ n5_ n6_ n7_ n8_ n9_; clear hb hbox hg; have hnb36 := NB191_188.out; have hnc36 := NB188_191.out; have hnb37 := NB191_189.out; have hnc37 := NB189_191.out; have hcz38_0 : w35.cell? ⟨gb191, 0, none⟩ = some (.int .i64 0) := (blk_cell BK191.out 0).trans rfl; have hcz38_1 : w35.cell? ⟨gb191, 1, none⟩ = some (.int .i64 0) := (blk_cell BK191.out 1).trans rfl; have hcz38_2 : w35.cell? ⟨gb191, 2, none⟩ = some (.int .i64 0) := (blk_cell BK191.out 2).trans rfl; have hcz38_3 : w35.cell? ⟨gb191, 3, none⟩ = some (.int .i64 0) := (blk_cell BK191.out 3).trans rfl; have hfz38_0 := blk_frozen BK191.out 0; have hfz38_1 := blk_frozen BK191.out 1; have hfz38_2 := blk_frozen BK191.out 2; have hfz38_3 := blk_frozen BK191.out 3) | (go_at_call 13; (with_reducible refine (plenumref13_Check.calls k1 ((rd_T25 l0 x8_1).f0) ((rd_T25 l0 x8_1).f1) ((rd_T25 l0 x8_1).f2.f0) ((rd_T25 l0 x8_1).f2.f1) t192 _ A10.out).mono ?_); rintro e w39 ⟨rfl, hb⟩; have n0_ := Aside0.mk (blk_below (g := gb188) (o := .cells #[.int .i64 0, .int .i64 0, .int .i64 0, .int .i64 0] 25 (0, 0)) (by (with_reducible repeat (first | refine blk_drewN ?_ _ | refine blk_drew ?_ | refine blk_alloc ?_ _)); refine blk_far ?_ NB188_191.out _; (with_reducible repeat (first | refine blk_drewN ?_ _ | refine blk_drew ?_ | refine blk_alloc ?_ _)); refine blk_far ?_ NB188_191.out _; (with_reducible repeat (first | refine blk_drewN ?_ _ | refine blk_drew ?_ | refine blk_alloc ?_ _)); refine blk_far ?_ NB188_191.out _; (with_reducible repeat (first | refine blk_drewN ?_ _ | refine blk_drew ?_ | refine blk_alloc ?_ _)); refine blk_far ?_ NB188_191.out _; (with_reducible repeat (first | refine blk_drewN ?_ _ | refine blk_drew ?_ | refine blk_alloc ?_ _)); exact BK188.out) hb); have n1_ := Aside0.mk (blk_below (g := gb189) (o := .cells #[.int .i64 x190000_1, .int .i64 x190001_1, .int .i64 x190002_1, .int .i64 x190003_1] 25 (0, 0)) (by (with_reducible repeat (first | refine blk_drewN ?_ _ | refine blk_drew ?_ | refine blk_alloc ?_ _)); refine blk_far ?_ NB189_191.out _; (with_reducible repeat (first | refine blk_drewN ?_ _ | refine blk_drew ?_ | refine blk_alloc ?_ _)); refine blk_far ?_ NB189_191.out _; (with_reducible repeat (first | refine blk_drewN ?_ _ | refine blk_drew ?_ | refine blk_alloc ?_ _)); refine blk_far ?_ NB189_191.out _; (with_reducible repeat (first | refine blk_drewN ?_ _ | refine blk_drew ?_ | refine blk_alloc ?_ _)); refine blk_far ?_ NB189_191.out _; (with_reducible repeat (first | refine blk_drewN ?_ _ | refine blk_drew ?_ | refine blk_alloc ?_ _)); exact BK189.out) hb); have n2_ := Aside0.mk (blk_below (g := gb191) (o := .cells #[.int .i64 ((rd_T25 l0 x8_1).f0), .int .i64 ((rd_T25 l0 x8_1).f1), .int .i64 ((rd_T25 l0 x8_1).f2.f0), .int .i64 ((rd_T25 l0 x8_1).f2.f1)] 25 (0, 0)) (by (with_reducible repeat (first | refine blk_drewN ?_ _ | refine blk_drew ?_ | refine blk_alloc ?_ _)); refine blk_put (cs := #[.int .i64 ((rd_T25 l0 x8_1).f0), .int .i64 ((rd_T25 l0 x8_1).f1), .int .i64 ((rd_T25 l0 x8_1).f2.f0), .int .i64 0]) ?_ 3 _ rfl; (with_reducible repeat (first | refine blk_drewN ?_ _ | refine blk_drew ?_ | refine blk_alloc ?_ _)); refine blk_put (cs := #[.int .i64 ((rd_T25 l0 x8_1).f0), .int .i64 ((rd_T25 l0 x8_1).f1), .int .i64 0, .int .i64 0]) ?_ 2 _ rfl; (with_reducible repeat (first | refine blk_drewN ?_ _ | refine blk_drew ?_ | refine blk_alloc ?_ _)); refine blk_put (cs := #[.int .i64 ((rd_T25 l0 x8_1).f0), .int .i64 0, .int .i64 0, .int .i64 0]) ?_ 1 _ rfl; (with_reducible repeat (first | refine blk_drewN ?_ _ | refine blk_drew ?_ | refine blk_alloc ?_ _)); refine blk_put (cs := #[.int .i64 0, .int .i64 0, .int .i64 0, .int .i64 0]) ?_ 0 _ rfl; (with_reducible repeat (first | refine blk_drewN ?_ _ | refine blk_drew ?_ | refine blk_alloc ?_ _)); exact BK191.out) hb); have n3_ := Aside0.mk (below_step (by repeat (first | (with_reducible first | exact HB.out | apply below_alloc | apply pw_below_drewN | apply below_drew1 | refine below_set ?_ GE188.out | refine below_set ?_ GE189.out | refine below_set ?_ GE191.out) | exact HB.out)) hb); clear BK188; clear BK189; clear BK191; clear HB; have BK188 := n0_; have BK189 := n1_; have BK191 := n2_; have HB := n3_; clear n0_ n1_ n2_ n3_; (try clear hb); (try clear hb2); (try clear hk); (try clear hi); have hcz40_0 : w39.cell? ⟨gb191, 0, none⟩ = some (.int .i64 ((rd_T25 l0 x8_1).f0)) := (blk_cell BK191.out 0).trans rfl; have hcz40_1 : w39.cell? ⟨gb191, 1, none⟩ = some (.int .i64 ((rd_T25 l0 x8_1).f1)) := (blk_cell BK191.out 1).trans rfl; have hcz40_2 : w39.cell? ⟨gb191, 2, none⟩ = some (.int .i64 ((rd_T25 l0 x8_1).f2.f0)) := (blk_cell BK191.out 2).trans rfl; have hcz40_3 : w39.cell? ⟨gb191, 3, none⟩ = some (.int .i64 ((rd_T25 l0 x8_1).f2.f1)) := (blk_cell BK191.out 3).trans rfl; have hfz40_0 := blk_frozen BK191.out 0; have hfz40_1 := blk_frozen BK191.out 1; have hfz40_2 := blk_frozen BK191.out 2; have hfz40_3 := blk_frozen BK191.out 3; have hnb41 := NB189_188.out; have hnc41 := NB188_189.out; have hcz42_0 : w39.cell? ⟨gb189, 0, none⟩ = some (.int .i64 x190000_1) := (blk_cell BK189.out 0).trans rfl; have hcz42_1 : w39.cell? ⟨gb189, 1, none⟩ = some (.int .i64 x190001_1) := (blk_cell BK189.out 1).trans rfl; have hcz42_2 : w39.cell? ⟨gb189, 2, none⟩ = some (.int .i64 x190002_1) := (blk_cell BK189.out 2).trans rfl; have hcz42_3 : w39.cell? ⟨gb189, 3, none⟩ = some (.int .i64 x190003_1) := (blk_cell BK189.out 3).trans rfl; have hfz42_0 := blk_frozen BK189.out 0; have hfz42_1 := blk_frozen BK189.out 1; have hfz42_2 := blk_frozen BK189.out 2; have hfz42_3 := blk_frozen BK189.out 3))
                go_roundg k1
                case measure => have := HK1.out; omega
                case rel => exact ⟨(true), (wrap64 (x8_1 + 1)), ((rd_T25 l0 x8_1).f0), ((rd_T25 l0 x8_1).f1), ((rd_T25 l0 x8_1).f2.f0), ((rd_T25 l0 x8_1).f2.f1), (by first | rfl | (simp; done) | (simp [*]; done)), (by first | rfl | (simp; done) | (simp [*]; done)), H', ⟨by have := HK1.out; omega⟩, ⟨by (with_reducible repeat (first | refine blk_drewN ?_ _ | refine blk_drew ?_ | refine blk_alloc ?_ _)); refine blk_far ?_ NB188_189.out _; (with_reducible repeat (first | refine blk_drewN ?_ _ | refine blk_drew ?_ | refine blk_alloc ?_ _)); refine blk_far ?_ NB188_189.out _; (with_reducible repeat (first | refine blk_drewN ?_ _ | refine blk_drew ?_ | refine blk_alloc ?_ _)); refine blk_far ?_ NB188_189.out _; (with_reducible repeat (first | refine blk_drewN ?_ _ | refine blk_drew ?_ | refine blk_alloc ?_ _)); refine blk_far ?_ NB188_189.out _; (with_reducible repeat (first | refine blk_drewN ?_ _ | refine blk_drew ?_ | refine blk_alloc ?_ _)); exact BK188.out⟩, ⟨by (with_reducible repeat (first | refine blk_drewN ?_ _ | refine blk_drew ?_ | refine blk_alloc ?_ _)); refine blk_put (cs := #[.int .i64 ((rd_T25 l0 x8_1).f0), .int .i64 ((rd_T25 l0 x8_1).f1), .int .i64 ((rd_T25 l0 x8_1).f2.f0), .int .i64 x190003_1]) ?_ 3 _ rfl; (with_reducible repeat (first | refine blk_drewN ?_ _ | refine blk_drew ?_ | refine blk_alloc ?_ _)); refine blk_put (cs := #[.int .i64 ((rd_T25 l0 x8_1).f0), .int .i64 ((rd_T25 l0 x8_1).f1), .int .i64 x190002_1, .int .i64 x190003_1]) ?_ 2 _ rfl; (with_reducible repeat (first | refine blk_drewN ?_ _ | refine blk_drew ?_ | refine blk_alloc ?_ _)); refine blk_put (cs := #[.int .i64 ((rd_T25 l0 x8_1).f0), .int .i64 x190001_1, .int .i64 x190002_1, .int .i64 x190003_1]) ?_ 1 _ rfl; (with_reducible repeat (first | refine blk_drewN ?_ _ | refine blk_drew ?_ | refine blk_alloc ?_ _)); refine blk_put (cs := #[.int .i64 x190000_1, .int .i64 x190001_1, .int .i64 x190002_1, .int .i64 x190003_1]) ?_ 0 _ rfl; (with_reducible repeat (first | refine blk_drewN ?_ _ | refine blk_drew ?_ | refine blk_alloc ?_ _)); exact BK189.out⟩, ⟨by repeat (first | (with_reducible first | exact HB.out | apply below_alloc | apply pw_below_drewN | apply below_drew1 | refine below_set ?_ GE188.out | refine below_set ?_ GE189.out | refine below_set ?_ GE191.out) | exact HB.out)⟩⟩
            · rw [if_neg c11] at H
              have c11b0 : (t192 == 0) = false := beq_eq_false_iff_ne.mpr c11
              have c11b1 : (t192 != 0) = true := bne_iff_ne.mpr c11
              have H' := Aside0.mk H
              clear H
              have p190 : 0 ≤ (x8_1 : Int) := of_decide_eq_true (by first | (with_reducible assumption) | assumption)
              have q190 : x8_1 < (l0.length : Int) := of_decide_eq_true (by first | (with_reducible assumption) | assumption)
              obtain ⟨ad190, e190, hx190_0, hx190_1, hx190_2, hx190_3⟩ := at_T25 HR0.out x8_1 p190 q190
              cases e190
              replace hx190_0 := (HB.out.cell (World.block_lt_of_cell? w _ hx190_0)).trans hx190_0
              replace hx190_1 := (HB.out.cell (World.block_lt_of_cell? w _ hx190_1)).trans hx190_1
              replace hx190_2 := (HB.out.cell (World.block_lt_of_cell? w _ hx190_2)).trans hx190_2
              replace hx190_3 := (HB.out.cell (World.block_lt_of_cell? w _ hx190_3)).trans hx190_3
              replace p190 := eq_true p190
              replace q190 := eq_true q190
              go_wp2_with (first | ((with_reducible refine gate_dst (N := 9) rfl ?_); refine box_event ?hg (N := 9) ?hd (cs := #[.int .i64 0, .int .i64 0, .int .i64 0, .int .i64 0]) (t := 25) ?hr ?_; (case hd => rfl); (case hg => rfl); (case hr => first | (go_simp; done) | (go_simp; rfl)); intro gb191 hg w43 hbox hb; have n0_ := Aside0.mk (blk_below (g := gb188) (o := .cells #[.int .i64 0, .int .i64 0, .int .i64 0, .int .i64 0] 25 (0, 0)) (by (with_reducible repeat (first | refine blk_drewN ?_ _ | refine blk_drew ?_ | refine blk_alloc ?_ _)); exact BK188.out) hb); have n1_ := Aside0.mk (blk_below (g := gb189) (o := .cells #[.int .i64 x190000_1, .int .i64 x190001_1, .int .i64 x190002_1, .int .i64 x190003_1] 25 (0, 0)) (by (with_reducible repeat (first | refine blk_drewN ?_ _ | refine blk_drew ?_ | refine blk_alloc ?_ _)); exact BK189.out) hb); have n2_ := Aside0.mk (below_step (by repeat (first | (with_reducible first | exact HB.out | apply below_alloc | apply pw_below_drewN | apply below_drew1 | refine below_set ?_ GE188.out | refine below_set ?_ GE189.out) | exact HB.out)) hb); have n3_ := Aside0.mk (hbox); have n4_ := Aside0.mk ((by rw [hg]; exact (below_size (by repeat (first | (with_reducible first | exact HB.out | apply below_alloc | apply pw_below_drewN | apply below_drew1 | refine below_set ?_ GE188.out | refine below_set ?_ GE189.out) | exact HB.out))) : w.heap.size ≤ gb191)); have n5_ := Aside0.mk ((by rw [hg]; exact (below_size (by repeat (first | (with_reducible first | exact HB.out | apply below_alloc | apply pw_below_drewN | apply below_drew1 | refine below_set ?_ GE188.out | refine below_set ?_ GE189.out) | exact HB.out))) : w.heap.size ≤ gb191)); have n6_ := Aside0.mk ((by rw [hg]; exact Nat.ne_of_lt (blk_lt (g := gb188) (o := .cells #[.int .i64 0, .int .i64 0, .int .i64 0, .int .i64 0] 25 (0, 0)) (by (with_reducible repeat (first | refine blk_drewN ?_ _ | refine blk_drew ?_ | refine blk_alloc ?_ _)); exact BK188.out)) : gb188 ≠ gb191)); have n7_ := Aside0.mk ((by rw [hg]; exact Nat.ne_of_gt (blk_lt (g := gb188) (o := .cells #[.int .i64 0, .int .i64 0, .int .i64 0, .int .i64 0] 25 (0, 0)) (by (with_reducible repeat (first | refine blk_drewN ?_ _ | refine blk_drew ?_ | refine blk_alloc ?_ _)); exact BK188.out)) : gb191 ≠ gb188)); have n8_ := Aside0.mk ((by rw [hg]; exact Nat.ne_of_lt (blk_lt (g := gb189) (o := .cells #[.int .i64 x190000_1, .int .i64 x190001_1, .int .i64 x190002_1, .int .i64 x190003_1] 25 (0, 0)) (by (with_reducible repeat (first | refine blk_drewN ?_ _ | refine blk_drew ?_ | refine blk_alloc ?_ _)); exact BK189.out)) : gb189 ≠ gb191)); have n9_ := Aside0.mk ((by rw [hg]; exact Nat.ne_of_gt (blk_lt (g := gb189) (o := .cells #[.int .i64 x190000_1, .int .i64 x190001_1, .int .i64 x190002_1, .int .i64 x190003_1] 25 (0, 0)) (by (with_reducible repeat (first | refine blk_drewN ?_ _ | refine blk_drew ?_ | refine blk_alloc ?_ _)); exact BK189.out)) : gb191 ≠ gb189)); clear BK188; clear BK189; clear HB; have BK188 := n0_; have BK189 := n1_; have HB := n2_; have BK191 := n3_; have GW191 := n4_; have GE191 := n5_; have NB188_191 := n6_; have NB191_188 := n7_; have NB189_191 := n8_; have NB191_189 := n9_; clear n0_ n1_ n2_ n3_ n4_ n5_ n6_ n7_ n8_ n9_; clear hb hbox hg; have hnb44 := NB191_188.out; have hnc44 := NB188_191.out; have hnb45 := NB191_189.out; have hnc45 := NB189_191.out; have hcz46_0 : w43.cell? ⟨gb191, 0, none⟩ = some (.int .i64 0) := (blk_cell BK191.out 0).trans rfl; have hcz46_1 : w43.cell? ⟨gb191, 1, none⟩ = some (.int .i64 0) := (blk_cell BK191.out 1).trans rfl; have hcz46_2 : w43.cell? ⟨gb191, 2, none⟩ = some (.int .i64 0) := (blk_cell BK191.out 2).trans rfl; have hcz46_3 : w43.cell? ⟨gb191, 3, none⟩ = some (.int .i64 0) := (blk_cell BK191.out 3).trans rfl; have hfz46_0 := blk_frozen BK191.out 0; have hfz46_1 := blk_frozen BK191.out 1; have hfz46_2 := blk_frozen BK191.out 2; have hfz46_3 := blk_frozen BK191.out 3) | (go_at_call 13; (with_reducible refine (plenumref13_Check.calls k1 ((rd_T25 l0 x8_1).f0) ((rd_T25 l0 x8_1).f1) ((rd_T25 l0 x8_1).f2.f0) ((rd_T25 l0 x8_1).f2.f1) t192 _ A10.out).mono ?_); rintro e w47 ⟨rfl, hb⟩; have n0_ := Aside0.mk (blk_below (g := gb188) (o := .cells #[.int .i64 0, .int .i64 0, .int .i64 0, .int .i64 0] 25 (0, 0)) (by (with_reducible repeat (first | refine blk_drewN ?_ _ | refine blk_drew ?_ | refine blk_alloc ?_ _)); refine blk_far ?_ NB188_191.out _; (with_reducible repeat (first | refine blk_drewN ?_ _ | refine blk_drew ?_ | refine blk_alloc ?_ _)); refine blk_far ?_ NB188_191.out _; (with_reducible repeat (first | refine blk_drewN ?_ _ | refine blk_drew ?_ | refine blk_alloc ?_ _)); refine blk_far ?_ NB188_191.out _; (with_reducible repeat (first | refine blk_drewN ?_ _ | refine blk_drew ?_ | refine blk_alloc ?_ _)); refine blk_far ?_ NB188_191.out _; (with_reducible repeat (first | refine blk_drewN ?_ _ | refine blk_drew ?_ | refine blk_alloc ?_ _)); exact BK188.out) hb); have n1_ := Aside0.mk (blk_below (g := gb189) (o := .cells #[.int .i64 x190000_1, .int .i64 x190001_1, .int .i64 x190002_1, .int .i64 x190003_1] 25 (0, 0)) (by (with_reducible repeat (first | refine blk_drewN ?_ _ | refine blk_drew ?_ | refine blk_alloc ?_ _)); refine blk_far ?_ NB189_191.out _; (with_reducible repeat (first | refine blk_drewN ?_ _ | refine blk_drew ?_ | refine blk_alloc ?_ _)); refine blk_far ?_ NB189_191.out _; (with_reducible repeat (first | refine blk_drewN ?_ _ | refine blk_drew ?_ | refine blk_alloc ?_ _)); refine blk_far ?_ NB189_191.out _; (with_reducible repeat (first | refine blk_drewN ?_ _ | refine blk_drew ?_ | refine blk_alloc ?_ _)); refine blk_far ?_ NB189_191.out _; (with_reducible repeat (first | refine blk_drewN ?_ _ | refine blk_drew ?_ | refine blk_alloc ?_ _)); exact BK189.out) hb); have n2_ := Aside0.mk (blk_below (g := gb191) (o := .cells #[.int .i64 ((rd_T25 l0 x8_1).f0), .int .i64 ((rd_T25 l0 x8_1).f1), .int .i64 ((rd_T25 l0 x8_1).f2.f0), .int .i64 ((rd_T25 l0 x8_1).f2.f1)] 25 (0, 0)) (by (with_reducible repeat (first | refine blk_drewN ?_ _ | refine blk_drew ?_ | refine blk_alloc ?_ _)); refine blk_put (cs := #[.int .i64 ((rd_T25 l0 x8_1).f0), .int .i64 ((rd_T25 l0 x8_1).f1), .int .i64 ((rd_T25 l0 x8_1).f2.f0), .int .i64 0]) ?_ 3 _ rfl; (with_reducible repeat (first | refine blk_drewN ?_ _ | refine blk_drew ?_ | refine blk_alloc ?_ _)); refine blk_put (cs := #[.int .i64 ((rd_T25 l0 x8_1).f0), .int .i64 ((rd_T25 l0 x8_1).f1), .int .i64 0, .int .i64 0]) ?_ 2 _ rfl; (with_reducible repeat (first | refine blk_drewN ?_ _ | refine blk_drew ?_ | refine blk_alloc ?_ _)); refine blk_put (cs := #[.int .i64 ((rd_T25 l0 x8_1).f0), .int .i64 0, .int .i64 0, .int .i64 0]) ?_ 1 _ rfl; (with_reducible repeat (first | refine blk_drewN ?_ _ | refine blk_drew ?_ | refine blk_alloc ?_ _)); refine blk_put (cs := #[.int .i64 0, .int .i64 0, .int .i64 0, .int .i64 0]) ?_ 0 _ rfl; (with_reducible repeat (first | refine blk_drewN ?_ _ | refine blk_drew ?_ | refine blk_alloc ?_ _)); exact BK191.out) hb); have n3_ := Aside0.mk (below_step (by repeat (first | (with_reducible first | exact HB.out | apply below_alloc | apply pw_below_drewN | apply below_drew1 | refine below_set ?_ GE188.out | refine below_set ?_ GE189.out | refine below_set ?_ GE191.out) | exact HB.out)) hb); clear BK188; clear BK189; clear BK191; clear HB; have BK188 := n0_; have BK189 := n1_; have BK191 := n2_; have HB := n3_; clear n0_ n1_ n2_ n3_; (try clear hb); (try clear hb2); (try clear hk); (try clear hi)))
              go_roundg k1
              case measure => have := HK1.out; omega
              case rel => exact ⟨(x7_1), (wrap64 (x8_1 + 1)), (x190000_1), (x190001_1), (x190002_1), (x190003_1), (by first | rfl | (simp; done) | (simp [*]; done)), (by first | rfl | (simp; done) | (simp [*]; done)), H', ⟨by have := HK1.out; omega⟩, ⟨by (with_reducible repeat (first | refine blk_drewN ?_ _ | refine blk_drew ?_ | refine blk_alloc ?_ _)); exact BK188.out⟩, ⟨by (with_reducible repeat (first | refine blk_drewN ?_ _ | refine blk_drew ?_ | refine blk_alloc ?_ _)); exact BK189.out⟩, ⟨by repeat (first | (with_reducible first | exact HB.out | apply below_alloc | apply pw_below_drewN | apply below_drew1 | refine below_set ?_ GE188.out | refine below_set ?_ GE189.out | refine below_set ?_ GE191.out) | exact HB.out)⟩⟩
          · rw [if_neg c9] at H
            have c9b0 : (((rd_T25 l0 x8_1).f0) == a1) = false := beq_eq_false_iff_ne.mpr c9
            have c9b1 : (((rd_T25 l0 x8_1).f0) != a1) = true := bne_iff_ne.mpr c9
            have H' := Aside0.mk H
            clear H
            have p190 : 0 ≤ (x8_1 : Int) := of_decide_eq_true (by first | (with_reducible assumption) | assumption)
            have q190 : x8_1 < (l0.length : Int) := of_decide_eq_true (by first | (with_reducible assumption) | assumption)
            obtain ⟨ad190, e190, hx190_0, hx190_1, hx190_2, hx190_3⟩ := at_T25 HR0.out x8_1 p190 q190
            cases e190
            replace hx190_0 := (HB.out.cell (World.block_lt_of_cell? w _ hx190_0)).trans hx190_0
            replace hx190_1 := (HB.out.cell (World.block_lt_of_cell? w _ hx190_1)).trans hx190_1
            replace hx190_2 := (HB.out.cell (World.block_lt_of_cell? w _ hx190_2)).trans hx190_2
            replace hx190_3 := (HB.out.cell (World.block_lt_of_cell? w _ hx190_3)).trans hx190_3
            replace p190 := eq_true p190
            replace q190 := eq_true q190
            go_wp2_with (first | ((with_reducible refine gate_dst (N := 9) rfl ?_); refine box_event ?hg (N := 9) ?hd (cs := #[.int .i64 0, .int .i64 0, .int .i64 0, .int .i64 0]) (t := 25) ?hr ?_; (case hd => rfl); (case hg => rfl); (case hr => first | (go_simp; done) | (go_simp; rfl)); intro gb191 hg w48 hbox hb; have n0_ := Aside0.mk (blk_below (g := gb188) (o := .cells #[.int .i64 0, .int .i64 0, .int .i64 0, .int .i64 0] 25 (0, 0)) (by (with_reducible repeat (first | refine blk_drewN ?_ _ | refine blk_drew ?_ | refine blk_alloc ?_ _)); exact BK188.out) hb); have n1_ := Aside0.mk (blk_below (g := gb189) (o := .cells #[.int .i64 x190000_1, .int .i64 x190001_1, .int .i64 x190002_1, .int .i64 x190003_1] 25 (0, 0)) (by (with_reducible repeat (first | refine blk_drewN ?_ _ | refine blk_drew ?_ | refine blk_alloc ?_ _)); exact BK189.out) hb); have n2_ := Aside0.mk (below_step (by repeat (first | (with_reducible first | exact HB.out | apply below_alloc | apply pw_below_drewN | apply below_drew1 | refine below_set ?_ GE188.out | refine below_set ?_ GE189.out) | exact HB.out)) hb); have n3_ := Aside0.mk (hbox); have n4_ := Aside0.mk ((by rw [hg]; exact (below_size (by repeat (first | (with_reducible first | exact HB.out | apply below_alloc | apply pw_below_drewN | apply below_drew1 | refine below_set ?_ GE188.out | refine below_set ?_ GE189.out) | exact HB.out))) : w.heap.size ≤ gb191)); have n5_ := Aside0.mk ((by rw [hg]; exact (below_size (by repeat (first | (with_reducible first | exact HB.out | apply below_alloc | apply pw_below_drewN | apply below_drew1 | refine below_set ?_ GE188.out | refine below_set ?_ GE189.out) | exact HB.out))) : w.heap.size ≤ gb191)); have n6_ := Aside0.mk ((by rw [hg]; exact Nat.ne_of_lt (blk_lt (g := gb188) (o := .cells #[.int .i64 0, .int .i64 0, .int .i64 0, .int .i64 0] 25 (0, 0)) (by (with_reducible repeat (first | refine blk_drewN ?_ _ | refine blk_drew ?_ | refine blk_alloc ?_ _)); exact BK188.out)) : gb188 ≠ gb191)); have n7_ := Aside0.mk ((by rw [hg]; exact Nat.ne_of_gt (blk_lt (g := gb188) (o := .cells #[.int .i64 0, .int .i64 0, .int .i64 0, .int .i64 0] 25 (0, 0)) (by (with_reducible repeat (first | refine blk_drewN ?_ _ | refine blk_drew ?_ | refine blk_alloc ?_ _)); exact BK188.out)) : gb191 ≠ gb188)); have n8_ := Aside0.mk ((by rw [hg]; exact Nat.ne_of_lt (blk_lt (g := gb189) (o := .cells #[.int .i64 x190000_1, .int .i64 x190001_1, .int .i64 x190002_1, .int .i64 x190003_1] 25 (0, 0)) (by (with_reducible repeat (first | refine blk_drewN ?_ _ | refine blk_drew ?_ | refine blk_alloc ?_ _)); exact BK189.out)) : gb189 ≠ gb191)); have n9_ := Aside0.mk ((by rw [hg]; exact Nat.ne_of_gt (blk_lt (g := gb189) (o := .cells #[.int .i64 x190000_1, .int .i64 x190001_1, .int .i64 x190002_1, .int .i64 x190003_1] 25 (0, 0)) (by (with_reducible repeat (first | refine blk_drewN ?_ _ | refine blk_drew ?_ | refine blk_alloc ?_ _)); exact BK189.out)) : gb191 ≠ gb189)); clear BK188; clear BK189; clear HB; have BK188 := n0_; have BK189 := n1_; have HB := n2_; have BK191 := n3_; have GW191 := n4_; have GE191 := n5_; have NB188_191 := n6_; have NB191_188 := n7_; have NB189_191 := n8_; have NB191_189 := n9_; clear n0_ n1_ n2_ n3_ n4_ n5_ n6_ n7_ n8_ n9_; clear hb hbox hg; have hnb49 := NB191_188.out; have hnc49 := NB188_191.out; have hnb50 := NB191_189.out; have hnc50 := NB189_191.out; have hcz51_0 : w48.cell? ⟨gb191, 0, none⟩ = some (.int .i64 0) := (blk_cell BK191.out 0).trans rfl; have hcz51_1 : w48.cell? ⟨gb191, 1, none⟩ = some (.int .i64 0) := (blk_cell BK191.out 1).trans rfl; have hcz51_2 : w48.cell? ⟨gb191, 2, none⟩ = some (.int .i64 0) := (blk_cell BK191.out 2).trans rfl; have hcz51_3 : w48.cell? ⟨gb191, 3, none⟩ = some (.int .i64 0) := (blk_cell BK191.out 3).trans rfl; have hfz51_0 := blk_frozen BK191.out 0; have hfz51_1 := blk_frozen BK191.out 1; have hfz51_2 := blk_frozen BK191.out 2; have hfz51_3 := blk_frozen BK191.out 3))
            go_roundg k1
            case measure => have := HK1.out; omega
            case rel => exact ⟨(x7_1), (wrap64 (x8_1 + 1)), (x190000_1), (x190001_1), (x190002_1), (x190003_1), (by first | rfl | (simp; done) | (simp [*]; done)), (by first | rfl | (simp; done) | (simp [*]; done)), H', ⟨by have := HK1.out; omega⟩, ⟨by (with_reducible repeat (first | refine blk_drewN ?_ _ | refine blk_drew ?_ | refine blk_alloc ?_ _)); refine blk_far ?_ NB188_191.out _; (with_reducible repeat (first | refine blk_drewN ?_ _ | refine blk_drew ?_ | refine blk_alloc ?_ _)); refine blk_far ?_ NB188_191.out _; (with_reducible repeat (first | refine blk_drewN ?_ _ | refine blk_drew ?_ | refine blk_alloc ?_ _)); refine blk_far ?_ NB188_191.out _; (with_reducible repeat (first | refine blk_drewN ?_ _ | refine blk_drew ?_ | refine blk_alloc ?_ _)); refine blk_far ?_ NB188_191.out _; (with_reducible repeat (first | refine blk_drewN ?_ _ | refine blk_drew ?_ | refine blk_alloc ?_ _)); exact BK188.out⟩, ⟨by (with_reducible repeat (first | refine blk_drewN ?_ _ | refine blk_drew ?_ | refine blk_alloc ?_ _)); refine blk_far ?_ NB189_191.out _; (with_reducible repeat (first | refine blk_drewN ?_ _ | refine blk_drew ?_ | refine blk_alloc ?_ _)); refine blk_far ?_ NB189_191.out _; (with_reducible repeat (first | refine blk_drewN ?_ _ | refine blk_drew ?_ | refine blk_alloc ?_ _)); refine blk_far ?_ NB189_191.out _; (with_reducible repeat (first | refine blk_drewN ?_ _ | refine blk_drew ?_ | refine blk_alloc ?_ _)); refine blk_far ?_ NB189_191.out _; (with_reducible repeat (first | refine blk_drewN ?_ _ | refine blk_drew ?_ | refine blk_alloc ?_ _)); exact BK189.out⟩, ⟨by repeat (first | (with_reducible first | exact HB.out | apply below_alloc | apply pw_below_drewN | apply below_drew1 | refine below_set ?_ GE188.out | refine below_set ?_ GE189.out | refine below_set ?_ GE191.out) | exact HB.out)⟩⟩
        · rw [if_neg c8] at H
          exact absurd H (by simp)
      · rw [if_neg c7] at H
        have c7b0 : decide (x8_1 < (l0.length : Int)) = false := decide_eq_false c7
        clear c7
        simp only [Option.some.injEq, Prod.mk.injEq] at H
        obtain ⟨rfl, rfl, rfl, rfl, rfl⟩ := H
        have hnb52 := NB189_188.out
        have hnc52 := NB188_189.out
        have hcz53_0 : wr.cell? ⟨gb189, 0, none⟩ = some (.int .i64 x190000_1) := (blk_cell BK189.out 0).trans rfl
        have hcz53_1 : wr.cell? ⟨gb189, 1, none⟩ = some (.int .i64 x190001_1) := (blk_cell BK189.out 1).trans rfl
        have hcz53_2 : wr.cell? ⟨gb189, 2, none⟩ = some (.int .i64 x190002_1) := (blk_cell BK189.out 2).trans rfl
        have hcz53_3 : wr.cell? ⟨gb189, 3, none⟩ = some (.int .i64 x190003_1) := (blk_cell BK189.out 3).trans rfl
        have hfz53_0 := blk_frozen BK189.out 0
        have hfz53_1 := blk_frozen BK189.out 1
        have hfz53_2 := blk_frozen BK189.out 2
        have hfz53_3 := blk_frozen BK189.out 3
        have hcz54_0 : wr.cell? ⟨gb188, 0, none⟩ = some (.int .i64 0) := (blk_cell BK188.out 0).trans rfl
        have hcz54_1 : wr.cell? ⟨gb188, 1, none⟩ = some (.int .i64 0) := (blk_cell BK188.out 1).trans rfl
        have hcz54_2 : wr.cell? ⟨gb188, 2, none⟩ = some (.int .i64 0) := (blk_cell BK188.out 2).trans rfl
        have hcz54_3 : wr.cell? ⟨gb188, 3, none⟩ = some (.int .i64 0) := (blk_cell BK188.out 3).trans rfl
        have hfz54_0 := blk_frozen BK188.out 0
        have hfz54_1 := blk_frozen BK188.out 1
        have hfz54_2 := blk_frozen BK188.out 2
        have hfz54_3 := blk_frozen BK188.out 3
        go_wp2
        refine bodyPost_ret (results_ct rfl _ _ gb188 25 #[.int .i64 x190000_1, .int .i64 x190001_1, .int .i64 x190002_1, .int .i64 x190003_1] (0, 0) _ rfl (by (with_reducible repeat (first | refine blk_drewN ?_ _ | refine blk_drew ?_ | refine blk_alloc ?_ _)); refine blk_put (cs := #[.int .i64 x190000_1, .int .i64 x190001_1, .int .i64 x190002_1, .int .i64 0]) ?_ 3 _ rfl; (with_reducible repeat (first | refine blk_drewN ?_ _ | refine blk_drew ?_ | refine blk_alloc ?_ _)); refine blk_put (cs := #[.int .i64 x190000_1, .int .i64 x190001_1, .int .i64 0, .int .i64 0]) ?_ 2 _ rfl; (with_reducible repeat (first | refine blk_drewN ?_ _ | refine blk_drew ?_ | refine blk_alloc ?_ _)); refine blk_put (cs := #[.int .i64 x190000_1, .int .i64 0, .int .i64 0, .int .i64 0]) ?_ 1 _ rfl; (with_reducible repeat (first | refine blk_drewN ?_ _ | refine blk_drew ?_ | refine blk_alloc ?_ _)); refine blk_put (cs := #[.int .i64 0, .int .i64 0, .int .i64 0, .int .i64 0]) ?_ 0 _ rfl; (with_reducible repeat (first | refine blk_drewN ?_ _ | refine blk_drew ?_ | refine blk_alloc ?_ _)); exact BK188.out) Try.underlying25 rfl (by kernel_rfl)) rfl ?_
        exact ⟨by first | rfl | (simp [errW_none, errW_some] <;> rfl) | (simp [*, errW_none, errW_some] <;> rfl), by repeat (first | (with_reducible first | exact HB.out | apply below_alloc | apply pw_below_drewN | apply below_drew1 | refine below_set ?_ GE188.out | refine below_set ?_ GE189.out) | exact HB.out)⟩
end Go.Proofs.Ytejidnmgjccidaa.R
end
section
namespace Go.Proofs.Ytejidnmgjccidaa.R
open Go.RowKit Go.Proofs.YtejidnmgjccidaaW.PrintWords Go.Proofs.YtejidnmgjccidaaW.PrintLast Go.Proofs.YtejidnmgjccidaaW.PrintMore
attribute [local go_sem] max2_int min2_int max_two min_two max_three min_three max_four min_four
set_option linter.unusedVariables false
set_option linter.unusedSimpArgs false
def plenumref13_Of.l0 : Nat → List (S25) → List (S25) → Int → Option ((List (S25)))
  | 0, _, _, _ => none
  | k + 1, x0, x3, x4 => if x4 ≤ 16 then ((plenumref13_at.f k x0 x4).bind fun bt194 => (if bt194.2.2.2.2 = true then (if x3.length < 4398046511104 then (plenumref13_Of.l0 k x0 (x3 ++ [(⟨bt194.1, bt194.2.1, (⟨bt194.2.2.1, bt194.2.2.2.1⟩ : S23)⟩ : S25)]) (wrap64 (x4 + 1))) else (none)) else (plenumref13_Of.l0 k x0 x3 (wrap64 (x4 + 1))))) else (some x3)
def plenumref13_Of.f (k : Nat) (l0 : List (S25)) : Option ((List (S25))) := plenumref13_Of.l0 k l0 ([] : List (S25)) 1
set_option maxHeartbeats 8000000 in
set_option maxRecDepth 100000 in
theorem plenumref13_Of.calls (k : Nat) (A0 : Option Addr) (c0 : Nat) (l0 : List (S25)) (r : List (S25)) (w : World) (hr0 : Kd.C k25 w A0 l0.length l0) (hc0 : l0.length ≤ c0) (h : plenumref13_Of.f k l0 = some r) :
    Calls Try.prog 16 #[.slice A0 l0.length c0] w fun e w' => ∃ v0_ : Value, e = .returned (v0_) ∧ Kd.R k25 25 w' w.heap.size (fun _ => True) v0_ r ∧ Below w.heap.size w w' := by
  have hu25 := Try.underlying25
  have HR0 := Aside0.mk hr0
  have HC0 := Aside0.mk hc0
  clear hr0 hc0
  have HB := Aside0.mk (Below.refl w.heap.size w)
  have H : (plenumref13_Of.l0 k l0 ([] : List (S25)) 1) = some r := h
  clear h
  have H' := Aside0.mk H
  clear H
  go_enter Try.func16, Try.ntmps16
  go_wp2
  go_loopg [3, 4] k (fun kq v3 v4 w' => ∃ (x3_1 : List (S25)) (x4_1 : Int), v4 = .int .i64 x4_1 ∧ Aside0 (plenumref13_Of.l0 kq l0 x3_1 x4_1 = some r) ∧ Aside0 (kq ≤ k) ∧ Aside0 (Kd.R k25 25 w' w.heap.size (fun _ => True) v3 x3_1) ∧ Aside0 (Below w.heap.size w w'))
  case atStart => exact ⟨(([] : List (S25))), (1), (by first | rfl | (simp; done) | (simp [*]; done)), H', ⟨Nat.le_refl _⟩, ⟨by first | exact Kd.R_nil _ _ _ _ _ | exact Kd.N_nil _ _ _ _ _ | exact Kd.V_nil _ _ _ _ _ | exact Kd.Q_nil _ _ _ _ _ | exact Kd.S_nil _ _ _ _ _⟩, ⟨by repeat (first | (with_reducible first | exact HB.out | apply below_alloc | apply pw_below_drewN | apply below_drew1) | exact HB.out)⟩⟩
  case round =>
    clear H'
    try clear c1
    obtain ⟨x3_1, x4_1, rfl, HA, HK1, HO_3, HB⟩ := hrel
    cases gk with
    | zero => exact absurd HA.out (by simp [plenumref13_Of.l0])
    | succ k1 =>
      have H := HA.out
      clear HA
      simp only [plenumref13_Of.l0] at H
      by_cases c2 : x4_1 ≤ 16
      · rw [if_pos c2] at H
        have c2b0 : decide (x4_1 ≤ 16) = true := decide_eq_true c2
        clear c2
        replace H := Option.bind_eq_some_iff.mp H
        obtain ⟨⟨t194, t195, t196, t197, t198⟩, A30, H⟩ := H
        replace H : (if t198 = true then (if x3_1.length < 4398046511104 then (plenumref13_Of.l0 k1 l0 (x3_1 ++ [(⟨t194, t195, (⟨t196, t197⟩ : S23)⟩ : S25)]) (wrap64 (x4_1 + 1))) else (none)) else (plenumref13_Of.l0 k1 l0 x3_1 (wrap64 (x4_1 + 1)))) = some r := H
        have A3 := Aside0.mk A30
        clear A30
        by_cases c4 : t198 = true
        · subst c4
          have H1 : (if x3_1.length < 4398046511104 then (plenumref13_Of.l0 k1 l0 (x3_1 ++ [(⟨t194, t195, (⟨t196, t197⟩ : S23)⟩ : S25)]) (wrap64 (x4_1 + 1))) else (none)) = some r := by rw [if_pos rfl] at H; exact H
          clear H
          have H := H1
          clear H1
          by_cases c5 : x3_1.length < 4398046511104
          · rw [if_pos c5] at H
            have LMc5 := Aside0.mk c5
            clear c5
            obtain ⟨y200, hy200⟩ : ∃ y_ : List (S25), y_ = (x3_1 ++ [(⟨t194, t195, (⟨t196, t197⟩ : S23)⟩ : S25)]) := ⟨_, rfl⟩
            replace H : (plenumref13_Of.l0 k1 l0 y200 (wrap64 (x4_1 + 1))) = some r := by first | (rw [hy200]; with_reducible exact H) | (have H2_ := (Option.bind_some _ _).symm.trans H; rw [hy200]; with_reducible exact H2_) | (have H2_ := (Option.bind_some _ _).symm.trans H; with_reducible exact H2_) | with_reducible exact H | (rw [hy200]; exact H) | exact H
            have Ny200 := Aside0.mk hy200
            clear hy200
            have H' := Aside0.mk H
            clear H
            go_wp2_with (first | ((with_reducible refine gate_callee (f := 35) rfl ?_); refine goesL_ (some 14) rfl rfl Try.func35 (by kernel_rfl) rfl #[.slice A0 l0.length c0, .int .i64 x4_1] rfl (by (try simp only [List.map_toArray, List.map_cons, List.map_nil]); first | done | rfl | (simp only [List.length_drop, List.length_take]; rfl)) ?_; (with_reducible refine (plenumref13_at.calls k1 _ _ l0 x4_1 t194 t195 t196 t197 true _ ?side1 ?side2 A3.out).mono ?_); (case side1 => repeat (first | exact (Kd.C_below HR0.out HB.out) | (with_reducible refine Kd.C_alloc ?_ _) | (with_reducible refine Kd.C_drewN ?_ _) | (with_reducible refine Kd.C_drew ?_))); (case side2 => exact HC0.out); rintro e w6 ⟨rfl, hb⟩; refine ⟨_, rfl, ?_⟩; have n0_ := Aside0.mk (Kd.R_below (by (with_reducible repeat (first | apply Kd.R_alloc | apply Kd.R_drewN | apply Kd.R_drew)); exact HO_3.out) hb); have n1_ := Aside0.mk (below_step (by repeat (first | (with_reducible first | exact HB.out | apply below_alloc | apply pw_below_drewN | apply below_drew1) | exact HB.out)) hb); clear HO_3; clear HB; have HO_3 := n0_; have HB := n1_; clear n0_ n1_; (try clear hb); (try clear hb2); (try clear hk); (try clear hi)) | ((with_reducible refine gate_dst (N := 5) rfl ?_); refine box_event ?hg (N := 5) ?hd (cs := #[.int .i64 0, .int .i64 0, .int .i64 0, .int .i64 0]) (t := 25) ?hr ?_; (case hd => rfl); (case hg => rfl); (case hr => first | (go_simp; done) | (go_simp; rfl)); intro gb199 hg w7 hbox hb; have n0_ := Aside0.mk (Kd.R_below (Kd.R_elderB (by (with_reducible repeat (first | apply Kd.R_alloc | apply Kd.R_drewN | apply Kd.R_drew)); exact HO_3.out) gb199 (Nat.le_of_eq hg.symm)) hb); have n1_ := Aside0.mk (below_step (by repeat (first | (with_reducible first | exact HB.out | apply below_alloc | apply pw_below_drewN | apply below_drew1) | exact HB.out)) hb); have n2_ := Aside0.mk (hbox); have n3_ := Aside0.mk ((by rw [hg]; exact (below_size (by repeat (first | (with_reducible first | exact HB.out | apply below_alloc | apply pw_below_drewN | apply below_drew1) | exact HB.out))) : w.heap.size ≤ gb199)); have n4_ := Aside0.mk ((by rw [hg]; exact (below_size (by repeat (first | (with_reducible first | exact HB.out | apply below_alloc | apply pw_below_drewN | apply below_drew1) | exact HB.out))) : w.heap.size ≤ gb199)); clear HO_3; clear HB; have HO_3 := n0_; have HB := n1_; have BK199 := n2_; have GW199 := n3_; have GE199 := n4_; clear n0_ n1_ n2_ n3_ n4_; clear hb hbox hg; have hcz8_0 : w7.cell? ⟨gb199, 0, none⟩ = some (.int .i64 0) := (blk_cell BK199.out 0).trans rfl; have hcz8_1 : w7.cell? ⟨gb199, 1, none⟩ = some (.int .i64 0) := (blk_cell BK199.out 1).trans rfl; have hcz8_2 : w7.cell? ⟨gb199, 2, none⟩ = some (.int .i64 0) := (blk_cell BK199.out 2).trans rfl; have hcz8_3 : w7.cell? ⟨gb199, 3, none⟩ = some (.int .i64 0) := (blk_cell BK199.out 3).trans rfl; have hfz8_0 := blk_frozen BK199.out 0; have hfz8_1 := blk_frozen BK199.out 1; have hfz8_2 := blk_frozen BK199.out 2; have hfz8_3 := blk_frozen BK199.out 3) | ((with_reducible refine gate_builtin (b := .append) (xs := #[.tmp 18, .tmp 20]) rfl ?_); at_builtin; refine Kd.R_append k25 (w0 := w) w.heap.size rfl (.tmp 18) (.tmp 20) 26 25 (.agg #[(.int .i64 0), (.int .i64 0), (.int .i64 0), (.int .i64 0)]) 32 rfl Try.underlying26 info25 rfl (by decide) (by omega) u3 x3_1 (⟨t194, t195, (⟨t196, t197⟩ : S23)⟩ : S25) [.int .i64 t194, .int .i64 t195, .int .i64 t196, .int .i64 t197] (fun k_ => k_ ≠ gb199) (fun _ => False) rfl (by first | (go_simp; done) | (go_simp; rfl)) ?aP (fun _ hk => hk.elim) ?aF ?aO ?aB ?aS ?aL ?_; (case aP => exact k25_mkM _ _ _ (⟨t194, t195, (⟨t196, t197⟩ : S23)⟩ : S25)); (case aB => exact (by repeat (first | (with_reducible first | exact HB.out | apply below_alloc | apply pw_below_drewN | apply below_drew1 | refine below_set ?_ GE199.out) | exact HB.out))); (case aF => exact (fun k_ hk => Kd.freshB (g := gb199) (o := .cells #[.int .i64 t194, .int .i64 t195, .int .i64 t196, .int .i64 t197] 25 (0, 0)) (by (with_reducible repeat (first | refine blk_drewN ?_ _ | refine blk_drew ?_ | refine blk_alloc ?_ _)); refine blk_put (cs := #[.int .i64 t194, .int .i64 t195, .int .i64 t196, .int .i64 0]) ?_ 3 _ rfl; (with_reducible repeat (first | refine blk_drewN ?_ _ | refine blk_drew ?_ | refine blk_alloc ?_ _)); refine blk_put (cs := #[.int .i64 t194, .int .i64 t195, .int .i64 0, .int .i64 0]) ?_ 2 _ rfl; (with_reducible repeat (first | refine blk_drewN ?_ _ | refine blk_drew ?_ | refine blk_alloc ?_ _)); refine blk_put (cs := #[.int .i64 t194, .int .i64 0, .int .i64 0, .int .i64 0]) ?_ 1 _ rfl; (with_reducible repeat (first | refine blk_drewN ?_ _ | refine blk_drew ?_ | refine blk_alloc ?_ _)); refine blk_put (cs := #[.int .i64 0, .int .i64 0, .int .i64 0, .int .i64 0]) ?_ 0 _ rfl; (with_reducible repeat (first | refine blk_drewN ?_ _ | refine blk_drew ?_ | refine blk_alloc ?_ _)); exact BK199.out) k_ hk)); (case aO => exact (by (with_reducible repeat (first | apply Kd.R_alloc | apply Kd.R_drewN | apply Kd.R_drew)); exact Kd.R_mono (Kd.R_far (p := ⟨gb199, 3, none⟩) (Kd.R_far (p := ⟨gb199, 2, none⟩) (Kd.R_far (p := ⟨gb199, 1, none⟩) (Kd.R_far (p := ⟨gb199, 0, none⟩) (Kd.R_mono HO_3.out (fun k_ hk => (⟨hk, hk.2⟩ : _ ∧ k_ ≠ gb199))) (fun _ hk => hk.2) (.int .i64 t194)) (fun _ hk => hk.2) (.int .i64 t195)) (fun _ hk => hk.2) (.int .i64 t196)) (fun _ hk => hk.2) (.int .i64 t197)) (fun _ hk => hk.1.2))); (case aS => exact (below_size (by repeat (first | (with_reducible first | exact HB.out | apply below_alloc | apply pw_below_drewN | apply below_drew1 | refine below_set ?_ GE199.out) | exact HB.out)))); (case aL => have := LMc5.out; first | omega | (simp only [ByteArray.size, List.size_toArray, List.length_cons, List.length_nil] at this ⊢; omega)); intro v201 w9 ho hb hg hat; rw [← Ny200.out] at ho; have n0_ := Aside0.mk (blk_grown (g := gb199) (o := .cells #[.int .i64 t194, .int .i64 t195, .int .i64 t196, .int .i64 t197] 25 (0, 0)) (by (with_reducible repeat (first | refine blk_drewN ?_ _ | refine blk_drew ?_ | refine blk_alloc ?_ _)); refine blk_put (cs := #[.int .i64 t194, .int .i64 t195, .int .i64 t196, .int .i64 0]) ?_ 3 _ rfl; (with_reducible repeat (first | refine blk_drewN ?_ _ | refine blk_drew ?_ | refine blk_alloc ?_ _)); refine blk_put (cs := #[.int .i64 t194, .int .i64 t195, .int .i64 0, .int .i64 0]) ?_ 2 _ rfl; (with_reducible repeat (first | refine blk_drewN ?_ _ | refine blk_drew ?_ | refine blk_alloc ?_ _)); refine blk_put (cs := #[.int .i64 t194, .int .i64 0, .int .i64 0, .int .i64 0]) ?_ 1 _ rfl; (with_reducible repeat (first | refine blk_drewN ?_ _ | refine blk_drew ?_ | refine blk_alloc ?_ _)); refine blk_put (cs := #[.int .i64 0, .int .i64 0, .int .i64 0, .int .i64 0]) ?_ 0 _ rfl; (with_reducible repeat (first | refine blk_drewN ?_ _ | refine blk_drew ?_ | refine blk_alloc ?_ _)); exact BK199.out) hg (Kd.R_away HO_3.out (fun _ hk => hk.2))); have n1_ := Aside0.mk (hb); have n2_ := Aside0.mk (ho); clear BK199; clear HB; clear HO_3; have BK199 := n0_; have HB := n1_; have HO202 := n2_; clear n0_ n1_ n2_; clear ho hb hg hat))
            go_roundg k1
            case measure => have := HK1.out; omega
            case rel => exact ⟨(y200), (wrap64 (x4_1 + 1)), (by first | rfl | (simp; done) | (simp [*]; done)), H', ⟨by have := HK1.out; omega⟩, ⟨by (with_reducible repeat (first | apply Kd.R_alloc | apply Kd.R_drewN | apply Kd.R_drew)); exact Kd.R_mono HO202.out (fun _ hk => trivial)⟩, ⟨by repeat (first | (with_reducible first | exact HB.out | apply below_alloc | apply pw_below_drewN | apply below_drew1 | refine below_set ?_ GE199.out) | exact HB.out)⟩⟩
          · rw [if_neg c5] at H
            exact absurd H (by simp)
        · replace c4 := Bool.eq_false_iff.mpr c4
          subst c4
          have H1 : (plenumref13_Of.l0 k1 l0 x3_1 (wrap64 (x4_1 + 1))) = some r := by rw [if_neg (show ¬ (false = true) by decide)] at H; exact H
          clear H
          have H := H1
          clear H1
          have H' := Aside0.mk H
          clear H
          go_wp2_with (first | ((with_reducible refine gate_callee (f := 35) rfl ?_); refine goesL_ (some 14) rfl rfl Try.func35 (by kernel_rfl) rfl #[.slice A0 l0.length c0, .int .i64 x4_1] rfl (by (try simp only [List.map_toArray, List.map_cons, List.map_nil]); first | done | rfl | (simp only [List.length_drop, List.length_take]; rfl)) ?_; (with_reducible refine (plenumref13_at.calls k1 _ _ l0 x4_1 t194 t195 t196 t197 false _ ?side1 ?side2 A3.out).mono ?_); (case side1 => repeat (first | exact (Kd.C_below HR0.out HB.out) | (with_reducible refine Kd.C_alloc ?_ _) | (with_reducible refine Kd.C_drewN ?_ _) | (with_reducible refine Kd.C_drew ?_))); (case side2 => exact HC0.out); rintro e w10 ⟨rfl, hb⟩; refine ⟨_, rfl, ?_⟩; have n0_ := Aside0.mk (Kd.R_below (by (with_reducible repeat (first | apply Kd.R_alloc | apply Kd.R_drewN | apply Kd.R_drew)); exact HO_3.out) hb); have n1_ := Aside0.mk (below_step (by repeat (first | (with_reducible first | exact HB.out | apply below_alloc | apply pw_below_drewN | apply below_drew1) | exact HB.out)) hb); clear HO_3; clear HB; have HO_3 := n0_; have HB := n1_; clear n0_ n1_; (try clear hb); (try clear hb2); (try clear hk); (try clear hi)) | ((with_reducible refine gate_dst (N := 5) rfl ?_); refine box_event ?hg (N := 5) ?hd (cs := #[.int .i64 0, .int .i64 0, .int .i64 0, .int .i64 0]) (t := 25) ?hr ?_; (case hd => rfl); (case hg => rfl); (case hr => first | (go_simp; done) | (go_simp; rfl)); intro gb199 hg w11 hbox hb; have n0_ := Aside0.mk (Kd.R_below (Kd.R_elderB (by (with_reducible repeat (first | apply Kd.R_alloc | apply Kd.R_drewN | apply Kd.R_drew)); exact HO_3.out) gb199 (Nat.le_of_eq hg.symm)) hb); have n1_ := Aside0.mk (below_step (by repeat (first | (with_reducible first | exact HB.out | apply below_alloc | apply pw_below_drewN | apply below_drew1) | exact HB.out)) hb); have n2_ := Aside0.mk (hbox); have n3_ := Aside0.mk ((by rw [hg]; exact (below_size (by repeat (first | (with_reducible first | exact HB.out | apply below_alloc | apply pw_below_drewN | apply below_drew1) | exact HB.out))) : w.heap.size ≤ gb199)); have n4_ := Aside0.mk ((by rw [hg]; exact (below_size (by repeat (first | (with_reducible first | exact HB.out | apply below_alloc | apply pw_below_drewN | apply below_drew1) | exact HB.out))) : w.heap.size ≤ gb199)); clear HO_3; clear HB; have HO_3 := n0_; have HB := n1_; have BK199 := n2_; have GW199 := n3_; have GE199 := n4_; clear n0_ n1_ n2_ n3_ n4_; clear hb hbox hg; have hcz12_0 : w11.cell? ⟨gb199, 0, none⟩ = some (.int .i64 0) := (blk_cell BK199.out 0).trans rfl; have hcz12_1 : w11.cell? ⟨gb199, 1, none⟩ = some (.int .i64 0) := (blk_cell BK199.out 1).trans rfl; have hcz12_2 : w11.cell? ⟨gb199, 2, none⟩ = some (.int .i64 0) := (blk_cell BK199.out 2).trans rfl; have hcz12_3 : w11.cell? ⟨gb199, 3, none⟩ = some (.int .i64 0) := (blk_cell BK199.out 3).trans rfl; have hfz12_0 := blk_frozen BK199.out 0; have hfz12_1 := blk_frozen BK199.out 1; have hfz12_2 := blk_frozen BK199.out 2; have hfz12_3 := blk_frozen BK199.out 3))
          go_roundg k1
          case measure => have := HK1.out; omega
          case rel => exact ⟨(x3_1), (wrap64 (x4_1 + 1)), (by first | rfl | (simp; done) | (simp [*]; done)), H', ⟨by have := HK1.out; omega⟩, ⟨by (with_reducible repeat (first | apply Kd.R_alloc | apply Kd.R_drewN | apply Kd.R_drew)); exact Kd.R_mono (Kd.R_far (p := ⟨gb199, 3, none⟩) (Kd.R_far (p := ⟨gb199, 2, none⟩) (Kd.R_far (p := ⟨gb199, 1, none⟩) (Kd.R_far (p := ⟨gb199, 0, none⟩) (Kd.R_mono HO_3.out (fun k_ hk => (⟨hk, hk.2⟩ : _ ∧ k_ ≠ gb199))) (fun _ hk => hk.2) (.int .i64 t194)) (fun _ hk => hk.2) (.int .i64 t195)) (fun _ hk => hk.2) (.int .i64 t196)) (fun _ hk => hk.2) (.int .i64 t197)) (fun _ hk => trivial)⟩, ⟨by repeat (first | (with_reducible first | exact HB.out | apply below_alloc | apply pw_below_drewN | apply below_drew1 | refine below_set ?_ GE199.out) | exact HB.out)⟩⟩
      · rw [if_neg c2] at H
        have c2b0 : decide (x4_1 ≤ 16) = false := decide_eq_false c2
        clear c2
        obtain rfl := Option.some.inj H
        go_wp2
        go_ret
        exact ⟨_, by first | rfl | (simp [errW_none, errW_some] <;> rfl) | (simp [*, errW_none, errW_some] <;> rfl), by (with_reducible repeat (first | apply Kd.R_alloc | apply Kd.R_drewN | apply Kd.R_drew)); exact HO_3.out, by repeat (first | (with_reducible first | exact HB.out | apply below_alloc | apply pw_below_drewN | apply below_drew1) | exact HB.out)⟩
end Go.Proofs.Ytejidnmgjccidaa.R
end
section
namespace Go.Proofs.Ytejidnmgjccidaa.R
open Go.RowKit Go.Proofs.YtejidnmgjccidaaW.PrintWords Go.Proofs.YtejidnmgjccidaaW.PrintLast Go.Proofs.YtejidnmgjccidaaW.PrintMore
attribute [local go_sem] max2_int min2_int max_two min_two max_three min_three max_four min_four
set_option linter.unusedVariables false
set_option linter.unusedSimpArgs false
def plenumref13_Join.f (k : Nat) (l0 : List (S25)) (l1 : List (S25)) : Option ((List (S25))) := (some (([] : List (S25)) : List (S25))).bind fun y203 => (if y203.length + l0.length < 4398046511104 then ((some (y203 ++ l0 : List (S25))).bind fun y206 => (if y206.length + l1.length < 4398046511104 then ((plenumref13_Of.f k (y206 ++ l1)).bind fun t212 => (some t212)) else (none))) else (none))
set_option maxHeartbeats 8000000 in
set_option maxRecDepth 100000 in
theorem plenumref13_Join.calls (k : Nat) (A0 : Option Addr) (c0 : Nat) (l0 : List (S25)) (A1 : Option Addr) (c1 : Nat) (l1 : List (S25)) (r : List (S25)) (w : World) (hr0 : Kd.C k25 w A0 l0.length l0) (hc0 : l0.length ≤ c0) (hr1 : Kd.C k25 w A1 l1.length l1) (hc1 : l1.length ≤ c1) (h : plenumref13_Join.f k l0 l1 = some r) :
    Calls Try.prog 18 #[.slice A0 l0.length c0, .slice A1 l1.length c1] w fun e w' => ∃ v0_ : Value, e = .returned (v0_) ∧ Kd.R k25 25 w' w.heap.size (fun _ => True) v0_ r ∧ Below w.heap.size w w' := by
  have HR0 := Aside0.mk hr0
  have HC0 := Aside0.mk hc0
  clear hr0 hc0
  have HR1 := Aside0.mk hr1
  have HC1 := Aside0.mk hc1
  clear hr1 hc1
  have HB := Aside0.mk (Below.refl w.heap.size w)
  have H : ((some (([] : List (S25)) : List (S25))).bind fun y203 => (if y203.length + l0.length < 4398046511104 then ((some (y203 ++ l0 : List (S25))).bind fun y206 => (if y206.length + l1.length < 4398046511104 then ((plenumref13_Of.f k (y206 ++ l1)).bind fun t212 => (some t212)) else (none))) else (none))) = some r := h
  clear h
  obtain ⟨y203, hy203⟩ : ∃ y_ : List (S25), y_ = (([] : List (S25))) := ⟨_, rfl⟩
  replace H : (if y203.length + l0.length < 4398046511104 then ((some (y203 ++ l0 : List (S25))).bind fun y206 => (if y206.length + l1.length < 4398046511104 then ((plenumref13_Of.f k (y206 ++ l1)).bind fun t212 => (some t212)) else (none))) else (none)) = some r := by first | (rw [hy203]; with_reducible exact H) | (have H2_ := (Option.bind_some _ _).symm.trans H; rw [hy203]; with_reducible exact H2_) | (have H2_ := (Option.bind_some _ _).symm.trans H; with_reducible exact H2_) | with_reducible exact H | (rw [hy203]; exact H) | exact H
  have Ny203 := Aside0.mk hy203
  clear hy203
  by_cases c3 : y203.length + l0.length < 4398046511104
  · rw [if_pos c3] at H
    have LMc3 := Aside0.mk c3
    clear c3
    obtain ⟨y206, hy206⟩ : ∃ y_ : List (S25), y_ = (y203 ++ l0) := ⟨_, rfl⟩
    replace H : (if y206.length + l1.length < 4398046511104 then ((plenumref13_Of.f k (y206 ++ l1)).bind fun t212 => (some t212)) else (none)) = some r := by first | (rw [hy206]; with_reducible exact H) | (have H2_ := (Option.bind_some _ _).symm.trans H; rw [hy206]; with_reducible exact H2_) | (have H2_ := (Option.bind_some _ _).symm.trans H; with_reducible exact H2_) | with_reducible exact H | (rw [hy206]; exact H) | exact H
    have Ny206 := Aside0.mk hy206
    clear hy206
    by_cases c4 : y206.length + l1.length < 4398046511104
    · rw [if_pos c4] at H
      have LMc4 := Aside0.mk c4
      clear c4
      obtain ⟨y209, hy209⟩ : ∃ y_ : List (S25), y_ = (y206 ++ l1) := ⟨_, rfl⟩
      replace H : ((plenumref13_Of.f k y209).bind fun t212 => (some t212)) = some r := by first | (rw [hy209]; with_reducible exact H) | (have H2_ := (Option.bind_some _ _).symm.trans H; rw [hy209]; with_reducible exact H2_) | (have H2_ := (Option.bind_some _ _).symm.trans H; with_reducible exact H2_) | with_reducible exact H | (rw [hy209]; exact H) | exact H
      have Ny209 := Aside0.mk hy209
      clear hy209
      replace H := Option.bind_eq_some_iff.mp H
      obtain ⟨t212, A50, H⟩ := H
      replace H : (some t212) = some r := H
      have A5 := Aside0.mk A50
      clear A50
      obtain rfl := Option.some.inj H
      go_enter Try.func18, Try.ntmps18
      go_wp2_with (first | ((with_reducible refine gate_dst (N := 5) rfl ?_); refine Kd.R_lit k25 _ 25 ?hg (N := 5) ?hd (xs := ([] : List (S25))) (inner := []) (ok := fun _ => True) (okp := fun _ => True) ?hr ?hp (fun _ hk => hk) trivial (Below.refl _ _) (Nat.le_refl _) (by simp) ?_; (case hd => rfl); (case hg => rfl); (case hr => first | (go_simp; done) | (go_simp; rfl)); (case hp => exact (Reps.none _ _)); intro v204 w6 ho7 hb hg_ hnew_; clear hg_ hnew_; (first | rw [← Ny203.out] at ho7 | (simp only [Int.reduceToNat] at ho7; rw [← Ny203.out] at ho7)); have n0_ := Aside0.mk (Kd.R_lower ho7 (below_size (by repeat (first | (with_reducible first | exact HB.out | apply below_alloc | apply pw_below_drewN | apply below_drew1) | exact HB.out)))); have n1_ := Aside0.mk (below_step (by repeat (first | (with_reducible first | exact HB.out | apply below_alloc | apply pw_below_drewN | apply below_drew1) | exact HB.out)) hb); clear HB; have HO205 := n0_; have HB := n1_; clear n0_ n1_; clear hb ho7) | ((with_reducible refine gate_builtin (b := .append) (xs := #[.tmp 5, .tmp 6]) rfl ?_); at_builtin; refine Kd.R_append_rows k25 (w0 := w) w.heap.size rfl (.tmp 5) (.tmp 6) 26 25 (.agg #[(.int .i64 0), (.int .i64 0), (.int .i64 0), (.int .i64 0)]) 32 rfl Try.underlying26 info25 rfl (by decide) (by omega) v204 y203 l0 _ _ _ (fun _ => True) (fun _ => False) rfl rfl ?aO ?aR (fun _ _ h => h) (fun _ h => h.elim) ?aF ?aB ?aS ?aL ?_; (case aR => repeat (first | exact (Kd.C_below HR0.out HB.out) | (with_reducible refine Kd.C_alloc ?_ _) | (with_reducible refine Kd.C_drewN ?_ _) | (with_reducible refine Kd.C_drew ?_))); (case aB => exact (by repeat (first | (with_reducible first | exact HB.out | apply below_alloc | apply pw_below_drewN | apply below_drew1) | exact HB.out))); (case aF => exact (fun _ _ => trivial)); (case aO => exact (by (with_reducible repeat (first | apply Kd.R_alloc | apply Kd.R_drewN | apply Kd.R_drew)); exact HO205.out)); (case aS => exact (below_size (by repeat (first | (with_reducible first | exact HB.out | apply below_alloc | apply pw_below_drewN | apply below_drew1) | exact HB.out)))); (case aL => have := LMc3.out; first | omega | (simp only [ByteArray.size, List.size_toArray, List.length_cons, List.length_nil] at this ⊢; omega)); intro v207 w8 ho hb hg hat; rw [← Ny206.out] at ho; have n0_ := Aside0.mk (hb); have n1_ := Aside0.mk (ho); clear HB; clear HO205; have HB := n0_; have HO208 := n1_; clear n0_ n1_; clear ho hb hg hat) | ((with_reducible refine gate_builtin (b := .append) (xs := #[.tmp 7, .tmp 8]) rfl ?_); at_builtin; refine Kd.R_append_rows k25 (w0 := w) w.heap.size rfl (.tmp 7) (.tmp 8) 26 25 (.agg #[(.int .i64 0), (.int .i64 0), (.int .i64 0), (.int .i64 0)]) 32 rfl Try.underlying26 info25 rfl (by decide) (by omega) v207 y206 l1 _ _ _ (fun _ => True) (fun _ => False) rfl rfl ?aO ?aR (fun _ _ h => h) (fun _ h => h.elim) ?aF ?aB ?aS ?aL ?_; (case aR => repeat (first | exact (Kd.C_below HR1.out HB.out) | (with_reducible refine Kd.C_alloc ?_ _) | (with_reducible refine Kd.C_drewN ?_ _) | (with_reducible refine Kd.C_drew ?_))); (case aB => exact (by repeat (first | (with_reducible first | exact HB.out | apply below_alloc | apply pw_below_drewN | apply below_drew1) | exact HB.out))); (case aF => exact (fun _ _ => trivial)); (case aO => exact (by (with_reducible repeat (first | apply Kd.R_alloc | apply Kd.R_drewN | apply Kd.R_drew)); exact HO208.out)); (case aS => exact (below_size (by repeat (first | (with_reducible first | exact HB.out | apply below_alloc | apply pw_below_drewN | apply below_drew1) | exact HB.out)))); (case aL => have := LMc4.out; first | omega | (simp only [ByteArray.size, List.size_toArray, List.length_cons, List.length_nil] at this ⊢; omega)); intro v210 w9 ho hb hg hat; rw [← Ny209.out] at ho; have n0_ := Aside0.mk (hb); have n1_ := Aside0.mk (ho); clear HB; clear HO208; have HB := n0_; have HO211 := n1_; clear n0_ n1_; clear ho hb hg hat; obtain ⟨Ao10, co10, eo10⟩ := Kd.R_slice HO211.out; subst eo10) | ((with_reducible refine gate_callee (f := 16) rfl ?_); refine goesL_ (some 10) rfl rfl Try.func16 (by kernel_rfl) rfl #[.slice Ao10 y209.length co10] rfl (by (try simp only [List.map_toArray, List.map_cons, List.map_nil]); first | done | rfl | (simp only [List.length_drop, List.length_take]; rfl)) ?_; (with_reducible refine (plenumref13_Of.calls k _ _ y209 t212 _ ?side1 ?side2 A5.out).mono ?_); (case side1 => repeat (first | exact (Kd.R_reads' HO211.out).2.2 | (with_reducible refine Kd.C_alloc ?_ _) | (with_reducible refine Kd.C_drewN ?_ _) | (with_reducible refine Kd.C_drew ?_))); (case side2 => exact (Kd.R_reads' HO211.out).2.1); rintro e w11 ⟨v213, rfl, ho0, hb⟩; refine ⟨_, rfl, ?_⟩; have n0_ := Aside0.mk (Kd.R_elder' (by (with_reducible repeat (first | apply Kd.R_alloc | apply Kd.R_drewN | apply Kd.R_drew)); exact HO211.out) (Kd.R_base ho0) hb); have n1_ := Aside0.mk (Kd.R_lower (Kd.R_new' ho0 (Kd.R_lt (by (with_reducible repeat (first | apply Kd.R_alloc | apply Kd.R_drewN | apply Kd.R_drew)); exact HO211.out))) (below_size (by repeat (first | (with_reducible first | exact HB.out | apply below_alloc | apply pw_below_drewN | apply below_drew1) | exact HB.out)))); have n2_ := Aside0.mk (below_step (by repeat (first | (with_reducible first | exact HB.out | apply below_alloc | apply pw_below_drewN | apply below_drew1) | exact HB.out)) hb); clear HO211; clear HB; have HO211 := n0_; have HO214 := n1_; have HB := n2_; clear n0_ n1_ n2_; (try clear hb); (try clear hb2); (try clear hk); (try clear hi); (try clear ho0)))
      go_ret
      exact ⟨_, by first | rfl | (simp [errW_none, errW_some] <;> rfl) | (simp [*, errW_none, errW_some] <;> rfl), by (with_reducible repeat (first | apply Kd.R_alloc | apply Kd.R_drewN | apply Kd.R_drew)); exact Kd.R_mono HO214.out (fun _ hk => trivial), by repeat (first | (with_reducible first | exact HB.out | apply below_alloc | apply pw_below_drewN | apply below_drew1) | exact HB.out)⟩
    · rw [if_neg c4] at H
      exact absurd H (by simp)
  · rw [if_neg c3] at H
    exact absurd H (by simp)
end Go.Proofs.Ytejidnmgjccidaa.R
end
section
namespace Go.Proofs.Ytejidnmgjccidaa.R
open Go.RowKit Go.Proofs.YtejidnmgjccidaaW.PrintWords Go.Proofs.YtejidnmgjccidaaW.PrintLast Go.Proofs.YtejidnmgjccidaaW.PrintMore
attribute [local go_sem] max2_int min2_int max_two min_two max_three min_three max_four min_four
set_option linter.unusedVariables false
set_option linter.unusedSimpArgs false
def plenumref13_Put.j0 : Nat → List (S25) → Int → Bool → Int → Int → Option ((List (S25)) × Int)
  | 0, _, _, _, _, _ => none
  | k + 1, x0, x1, x15, x295000, x295001 => if x15 = true then (some (([] : List (S25)), 1)) else ((plenumref13_Possible.f x295000 x295001).bind fun t295 => (if t295 = true then ((plenumref13_at.f k x0 x1).bind fun bt296 => (if bt296.2.1 = 1000000000 then (some (([] : List (S25)), 7)) else ((plenumref13_Join.f k x0 (([(⟨x1, wrap64 (bt296.2.1 + 1), (⟨x295000, x295001⟩ : S23)⟩ : S25)] : List (S25)))).bind fun t305 => (some (t305, 0))))) else (some (([] : List (S25)), 11))))
def plenumref13_Put.f (k : Nat) (l0 : List (S25)) (a1 : Int) (a2_0 : Int) (a2_1 : Int) : Option ((List (S25)) × Int) := if a1 < 1 then (plenumref13_Put.j0 k l0 a1 true a2_0 a2_1) else (plenumref13_Put.j0 k l0 a1 (decide (a1 > 16)) a2_0 a2_1)
set_option maxHeartbeats 8000000 in
set_option maxRecDepth 100000 in
theorem plenumref13_Put.calls (k : Nat) (A0 : Option Addr) (c0 : Nat) (l0 : List (S25)) (a1 : Int) (a2_0 : Int) (a2_1 : Int) (r1 : List (S25)) (r2 : Int) (w : World) (hr0 : Kd.C k25 w A0 l0.length l0) (hc0 : l0.length ≤ c0) (h : plenumref13_Put.f k l0 a1 a2_0 a2_1 = some (r1, r2)) :
    Calls Try.prog 28 #[.slice A0 l0.length c0, .int .i64 a1, .agg #[.int .i64 a2_0, .int .i64 a2_1]] w fun e w' => ∃ v0_ : Value, e = .returned (.tuple #[v0_, .int .i64 r2]) ∧ Kd.R k25 25 w' w.heap.size (fun _ => True) v0_ r1 ∧ Below w.heap.size w w' := by
  have hu23 := Try.underlying23
  have hu25 := Try.underlying25
  have HR0 := Aside0.mk hr0
  have HC0 := Aside0.mk hc0
  clear hr0 hc0
  have HB := Aside0.mk (Below.refl w.heap.size w)
  have H : (if a1 < 1 then (plenumref13_Put.j0 k l0 a1 true a2_0 a2_1) else (plenumref13_Put.j0 k l0 a1 (decide (a1 > 16)) a2_0 a2_1)) = some (r1, r2) := h
  clear h
  have HC4 := Aside0.mk H
  clear H
  go_enter Try.func28, Try.ntmps28
  go_upto_region 1 with (first | ((with_reducible refine gate_dst (N := 5) rfl ?_); refine box_event ?hg (N := 5) ?hd (cs := #[.int .i64 a2_0, .int .i64 a2_1]) (t := 23) ?hr ?_; (case hd => rfl); (case hg => rfl); (case hr => first | (go_simp; done) | (go_simp; rfl)); intro gb294 hg w5 hbox hb; have n0_ := Aside0.mk (below_step (by repeat (first | (with_reducible first | exact HB.out | apply below_alloc | apply pw_below_drewN | apply below_drew1) | exact HB.out)) hb); have n1_ := Aside0.mk (hbox); have n2_ := Aside0.mk ((by rw [hg]; exact (below_size (by repeat (first | (with_reducible first | exact HB.out | apply below_alloc | apply pw_below_drewN | apply below_drew1) | exact HB.out))) : w.heap.size ≤ gb294)); have n3_ := Aside0.mk ((by rw [hg]; exact (below_size (by repeat (first | (with_reducible first | exact HB.out | apply below_alloc | apply pw_below_drewN | apply below_drew1) | exact HB.out))) : w.heap.size ≤ gb294)); clear HB; have HB := n0_; have BK294 := n1_; have GW294 := n2_; have GE294 := n3_; clear n0_ n1_ n2_ n3_; clear hb hbox hg))
  (try simp only [Act.put, List.setIfInBounds_toArray, List.set_cons_zero, List.set_cons_succ])
  go_cut [15] (fun v15 wc => ∃ (kq : Nat) (x15_3 : Bool), v15 = .bool x15_3 ∧ Aside0 (plenumref13_Put.j0 kq l0 a1 x15_3 a2_0 a2_1 = some (r1, r2)) ∧ Aside0 (kq ≤ k) ∧ Aside0 (wc.heap[gb294]? = some (.cells #[.int .i64 a2_0, .int .i64 a2_1] 23 (0, 0))) ∧ Aside0 (Below w.heap.size w wc))
  case first =>
    have H := HC4.out
    clear HC4
    by_cases c6 : a1 < 1
    · rw [if_pos c6] at H
      have c6b0 : decide (a1 < 1) = true := decide_eq_true c6
      clear c6
      (first | rw [c6b0] | (simp only [i64_w, i32_w]; rw [c6b0]) | skip)
      have H' := Aside0.mk H
      clear H
      go_wp2
      go_meet
      case rel => exact ⟨_, (true), (by first | rfl | (simp; done) | (simp [*]; done)), H', ⟨by first | omega | exact Nat.le_refl _⟩, ⟨by (with_reducible repeat (first | refine blk_drewN ?_ _ | refine blk_drew ?_ | refine blk_alloc ?_ _)); exact BK294.out⟩, ⟨by repeat (first | (with_reducible first | exact HB.out | apply below_alloc | apply pw_below_drewN | apply below_drew1 | refine below_set ?_ GE294.out) | exact HB.out)⟩⟩
    · rw [if_neg c6] at H
      have c6b0 : decide (a1 < 1) = false := decide_eq_false c6
      clear c6
      (first | rw [c6b0] | (simp only [i64_w, i32_w]; rw [c6b0]) | skip)
      have H' := Aside0.mk H
      clear H
      go_wp2
      go_meet
      case rel => exact ⟨_, (decide (a1 > 16)), (by first | rfl | (simp; done) | (simp [*]; done)), H', ⟨by first | omega | exact Nat.le_refl _⟩, ⟨by (with_reducible repeat (first | refine blk_drewN ?_ _ | refine blk_drew ?_ | refine blk_alloc ?_ _)); exact BK294.out⟩, ⟨by repeat (first | (with_reducible first | exact HB.out | apply below_alloc | apply pw_below_drewN | apply below_drew1 | refine below_set ?_ GE294.out) | exact HB.out)⟩⟩
  case rest =>
    clear HC4
    try clear c2
    try clear p2
    try clear c6
    try clear c6b0
    obtain ⟨kq, x15_3, rfl, HA, HJ3, BK294, HB⟩ := hcut
    cases kq with
    | zero => exact absurd HA.out (by simp [plenumref13_Put.j0])
    | succ kj3 =>
      have H := HA.out
      clear HA
      simp only [plenumref13_Put.j0] at H
      by_cases c7 : x15_3 = true
      · subst c7
        have H1 : (some (([] : List (S25)), 1)) = some (r1, r2) := by rw [if_pos rfl] at H; exact H
        clear H
        have H := H1
        clear H1
        simp only [Option.some.injEq, Prod.mk.injEq] at H
        obtain ⟨rfl, rfl⟩ := H
        go_wp2
        go_ret2
        exact ⟨_, by first | rfl | (simp [errW_none, errW_some] <;> rfl) | (simp [*, errW_none, errW_some] <;> rfl), by first | exact Kd.R_nil _ _ _ _ _ | exact Kd.N_nil _ _ _ _ _ | exact Kd.V_nil _ _ _ _ _ | exact Kd.Q_nil _ _ _ _ _ | exact Kd.S_nil _ _ _ _ _, by repeat (first | (with_reducible first | exact HB.out | apply below_alloc | apply pw_below_drewN | apply below_drew1 | refine below_set ?_ GE294.out) | exact HB.out)⟩
      · replace c7 := Bool.eq_false_iff.mpr c7
        subst c7
        have H1 : ((plenumref13_Possible.f a2_0 a2_1).bind fun t295 => (if t295 = true then ((plenumref13_at.f kj3 l0 a1).bind fun bt296 => (if bt296.2.1 = 1000000000 then (some (([] : List (S25)), 7)) else ((plenumref13_Join.f kj3 l0 (([(⟨a1, wrap64 (bt296.2.1 + 1), (⟨a2_0, a2_1⟩ : S23)⟩ : S25)] : List (S25)))).bind fun t305 => (some (t305, 0))))) else (some (([] : List (S25)), 11)))) = some (r1, r2) := by rw [if_neg (show ¬ (false = true) by decide)] at H; exact H
        clear H
        have H := H1
        clear H1
        replace H := Option.bind_eq_some_iff.mp H
        obtain ⟨t295, A80, H⟩ := H
        replace H : (if t295 = true then ((plenumref13_at.f kj3 l0 a1).bind fun bt296 => (if bt296.2.1 = 1000000000 then (some (([] : List (S25)), 7)) else ((plenumref13_Join.f kj3 l0 (([(⟨a1, wrap64 (bt296.2.1 + 1), (⟨a2_0, a2_1⟩ : S23)⟩ : S25)] : List (S25)))).bind fun t305 => (some (t305, 0))))) else (some (([] : List (S25)), 11))) = some (r1, r2) := H
        have A8 := Aside0.mk A80
        clear A80
        by_cases c9 : t295 = true
        · subst c9
          have H1 : ((plenumref13_at.f kj3 l0 a1).bind fun bt296 => (if bt296.2.1 = 1000000000 then (some (([] : List (S25)), 7)) else ((plenumref13_Join.f kj3 l0 (([(⟨a1, wrap64 (bt296.2.1 + 1), (⟨a2_0, a2_1⟩ : S23)⟩ : S25)] : List (S25)))).bind fun t305 => (some (t305, 0))))) = some (r1, r2) := by rw [if_pos rfl] at H; exact H
          clear H
          have H := H1
          clear H1
          replace H := Option.bind_eq_some_iff.mp H
          obtain ⟨⟨t296, t297, t298, t299, t300⟩, A100, H⟩ := H
          replace H : (if t297 = 1000000000 then (some (([] : List (S25)), 7)) else ((plenumref13_Join.f kj3 l0 (([(⟨a1, wrap64 (t297 + 1), (⟨a2_0, a2_1⟩ : S23)⟩ : S25)] : List (S25)))).bind fun t305 => (some (t305, 0)))) = some (r1, r2) := H
          have A10 := Aside0.mk A100
          clear A100
          by_cases c11 : t297 = 1000000000
          · rw [if_pos c11] at H
            have c11b0 : (t297 == 1000000000) = true := beq_iff_eq.mpr c11
            have c11b1 : (t297 != 1000000000) = false := bne_eq_false_iff_eq.mpr c11
            clear c11
            simp only [Option.some.injEq, Prod.mk.injEq] at H
            obtain ⟨rfl, rfl⟩ := H
            have hcz12_0 : wc.cell? ⟨gb294, 0, none⟩ = some (.int .i64 a2_0) := (blk_cell BK294.out 0).trans rfl
            have hcz12_1 : wc.cell? ⟨gb294, 1, none⟩ = some (.int .i64 a2_1) := (blk_cell BK294.out 1).trans rfl
            have hfz12_0 := blk_frozen BK294.out 0
            have hfz12_1 := blk_frozen BK294.out 1
            go_wp2_with (first | ((with_reducible refine gate_callee (f := 32) rfl ?_); refine goesL_ (some 17) rfl rfl Try.func32 (by kernel_rfl) rfl #[.agg #[.int .i64 a2_0, .int .i64 a2_1]] rfl (by (try simp only [List.map_toArray, List.map_cons, List.map_nil]); first | done | rfl | (simp only [List.length_drop, List.length_take]; rfl)) ?_; (with_reducible refine (plenumref13_Possible.calls a2_0 a2_1 true _ A8.out).mono ?_); rintro e w13 ⟨rfl, hb⟩; refine ⟨_, rfl, ?_⟩; have n0_ := Aside0.mk (blk_below (g := gb294) (o := .cells #[.int .i64 a2_0, .int .i64 a2_1] 23 (0, 0)) (by (with_reducible repeat (first | refine blk_drewN ?_ _ | refine blk_drew ?_ | refine blk_alloc ?_ _)); exact BK294.out) hb); have n1_ := Aside0.mk (below_step (by repeat (first | (with_reducible first | exact HB.out | apply below_alloc | apply pw_below_drewN | apply below_drew1 | refine below_set ?_ GE294.out) | exact HB.out)) hb); clear BK294; clear HB; have BK294 := n0_; have HB := n1_; clear n0_ n1_; (try clear hb); (try clear hb2); (try clear hk); (try clear hi)) | ((with_reducible refine gate_callee (f := 35) rfl ?_); refine goesL_ (some 22) rfl rfl Try.func35 (by kernel_rfl) rfl #[.slice A0 l0.length c0, .int .i64 a1] rfl (by (try simp only [List.map_toArray, List.map_cons, List.map_nil]); first | done | rfl | (simp only [List.length_drop, List.length_take]; rfl)) ?_; (with_reducible refine (plenumref13_at.calls kj3 _ _ l0 a1 t296 t297 t298 t299 t300 _ ?side1 ?side2 A10.out).mono ?_); (case side1 => repeat (first | exact (Kd.C_below HR0.out HB.out) | (with_reducible refine Kd.C_alloc ?_ _) | (with_reducible refine Kd.C_drewN ?_ _) | (with_reducible refine Kd.C_drew ?_))); (case side2 => exact HC0.out); rintro e w14 ⟨rfl, hb⟩; refine ⟨_, rfl, ?_⟩; have n0_ := Aside0.mk (blk_below (g := gb294) (o := .cells #[.int .i64 a2_0, .int .i64 a2_1] 23 (0, 0)) (by (with_reducible repeat (first | refine blk_drewN ?_ _ | refine blk_drew ?_ | refine blk_alloc ?_ _)); exact BK294.out) hb); have n1_ := Aside0.mk (below_step (by repeat (first | (with_reducible first | exact HB.out | apply below_alloc | apply pw_below_drewN | apply below_drew1 | refine below_set ?_ GE294.out) | exact HB.out)) hb); clear BK294; clear HB; have BK294 := n0_; have HB := n1_; clear n0_ n1_; (try clear hb); (try clear hb2); (try clear hk); (try clear hi)) | ((with_reducible refine gate_dst (N := 8) rfl ?_); refine box_event ?hg (N := 8) ?hd (cs := #[.int .i64 0, .int .i64 0, .int .i64 0, .int .i64 0]) (t := 25) ?hr ?_; (case hd => rfl); (case hg => rfl); (case hr => first | (go_simp; done) | (go_simp; rfl)); intro gb301 hg w15 hbox hb; have n0_ := Aside0.mk (blk_below (g := gb294) (o := .cells #[.int .i64 a2_0, .int .i64 a2_1] 23 (0, 0)) (by (with_reducible repeat (first | refine blk_drewN ?_ _ | refine blk_drew ?_ | refine blk_alloc ?_ _)); exact BK294.out) hb); have n1_ := Aside0.mk (below_step (by repeat (first | (with_reducible first | exact HB.out | apply below_alloc | apply pw_below_drewN | apply below_drew1 | refine below_set ?_ GE294.out) | exact HB.out)) hb); have n2_ := Aside0.mk (hbox); have n3_ := Aside0.mk ((by rw [hg]; exact (below_size (by repeat (first | (with_reducible first | exact HB.out | apply below_alloc | apply pw_below_drewN | apply below_drew1 | refine below_set ?_ GE294.out) | exact HB.out))) : w.heap.size ≤ gb301)); have n4_ := Aside0.mk ((by rw [hg]; exact (below_size (by repeat (first | (with_reducible first | exact HB.out | apply below_alloc | apply pw_below_drewN | apply below_drew1 | refine below_set ?_ GE294.out) | exact HB.out))) : w.heap.size ≤ gb301)); have n5_ := Aside0.mk ((by rw [hg]; exact Nat.ne_of_lt (blk_lt (g := gb294) (o := .cells #[.int .i64 a2_0, .int .i64 a2_1] 23 (0, 0)) (by (with_reducible repeat (first | refine blk_drewN ?_ _ | refine blk_drew ?_ | refine blk_alloc ?_ _)); exact BK294.out)) : gb294 ≠ gb301)); have n6_ := Aside0.mk ((by rw [hg]; exact Nat.ne_of_gt (blk_lt (g := gb294) (o := .cells #[.int .i64 a2_0, .int .i64 a2_1] 23 (0, 0)) (by (with_reducible repeat (first | refine blk_drewN ?_ _ | refine blk_drew ?_ | refine blk_alloc ?_ _)); exact BK294.out)) : gb301 ≠ gb294)); clear BK294; clear HB; have BK294 := n0_; have HB := n1_; have BK301 := n2_; have GW301 := n3_; have GE301 := n4_; have NB294_301 := n5_; have NB301_294 := n6_; clear n0_ n1_ n2_ n3_ n4_ n5_ n6_; clear hb hbox hg; have hnb16 := NB301_294.out; have hnc16 := NB294_301.out; have hcz17_0 : w15.cell? ⟨gb301, 0, none⟩ = some (.int .i64 0) := (blk_cell BK301.out 0).trans rfl; have hcz17_1 : w15.cell? ⟨gb301, 1, none⟩ = some (.int .i64 0) := (blk_cell BK301.out 1).trans rfl; have hcz17_2 : w15.cell? ⟨gb301, 2, none⟩ = some (.int .i64 0) := (blk_cell BK301.out 2).trans rfl; have hcz17_3 : w15.cell? ⟨gb301, 3, none⟩ = some (.int .i64 0) := (blk_cell BK301.out 3).trans rfl; have hfz17_0 := blk_frozen BK301.out 0; have hfz17_1 := blk_frozen BK301.out 1; have hfz17_2 := blk_frozen BK301.out 2; have hfz17_3 := blk_frozen BK301.out 3))
            go_ret2
            exact ⟨_, by first | rfl | (simp [errW_none, errW_some] <;> rfl) | (simp [*, errW_none, errW_some] <;> rfl), by first | exact Kd.R_nil _ _ _ _ _ | exact Kd.N_nil _ _ _ _ _ | exact Kd.V_nil _ _ _ _ _ | exact Kd.Q_nil _ _ _ _ _ | exact Kd.S_nil _ _ _ _ _, by repeat (first | (with_reducible first | exact HB.out | apply below_alloc | apply pw_below_drewN | apply below_drew1 | refine below_set ?_ GE294.out | refine below_set ?_ GE301.out) | exact HB.out)⟩
          · rw [if_neg c11] at H
            have c11b0 : (t297 == 1000000000) = false := beq_eq_false_iff_ne.mpr c11
            have c11b1 : (t297 != 1000000000) = true := bne_iff_ne.mpr c11
            obtain ⟨y302, hy302⟩ : ∃ y_ : List (S25), y_ = (([(⟨a1, wrap64 (t297 + 1), (⟨a2_0, a2_1⟩ : S23)⟩ : S25)] : List (S25))) := ⟨_, rfl⟩
            replace H : ((plenumref13_Join.f kj3 l0 y302).bind fun t305 => (some (t305, 0))) = some (r1, r2) := by first | (rw [hy302]; with_reducible exact H) | (have H2_ := (Option.bind_some _ _).symm.trans H; rw [hy302]; with_reducible exact H2_) | (have H2_ := (Option.bind_some _ _).symm.trans H; with_reducible exact H2_) | with_reducible exact H | (rw [hy302]; exact H) | exact H
            have Ny302 := Aside0.mk hy302
            clear hy302
            replace H := Option.bind_eq_some_iff.mp H
            obtain ⟨t305, A180, H⟩ := H
            replace H : (some (t305, 0)) = some (r1, r2) := H
            have A18 := Aside0.mk A180
            clear A180
            simp only [Option.some.injEq, Prod.mk.injEq] at H
            obtain ⟨rfl, rfl⟩ := H
            have hcz19_0 : wc.cell? ⟨gb294, 0, none⟩ = some (.int .i64 a2_0) := (blk_cell BK294.out 0).trans rfl
            have hcz19_1 : wc.cell? ⟨gb294, 1, none⟩ = some (.int .i64 a2_1) := (blk_cell BK294.out 1).trans rfl
            have hfz19_0 := blk_frozen BK294.out 0
            have hfz19_1 := blk_frozen BK294.out 1
            go_wp2_with (first | ((with_reducible refine gate_callee (f := 32) rfl ?_); refine goesL_ (some 17) rfl rfl Try.func32 (by kernel_rfl) rfl #[.agg #[.int .i64 a2_0, .int .i64 a2_1]] rfl (by (try simp only [List.map_toArray, List.map_cons, List.map_nil]); first | done | rfl | (simp only [List.length_drop, List.length_take]; rfl)) ?_; (with_reducible refine (plenumref13_Possible.calls a2_0 a2_1 true _ A8.out).mono ?_); rintro e w20 ⟨rfl, hb⟩; refine ⟨_, rfl, ?_⟩; have n0_ := Aside0.mk (blk_below (g := gb294) (o := .cells #[.int .i64 a2_0, .int .i64 a2_1] 23 (0, 0)) (by (with_reducible repeat (first | refine blk_drewN ?_ _ | refine blk_drew ?_ | refine blk_alloc ?_ _)); exact BK294.out) hb); have n1_ := Aside0.mk (below_step (by repeat (first | (with_reducible first | exact HB.out | apply below_alloc | apply pw_below_drewN | apply below_drew1 | refine below_set ?_ GE294.out) | exact HB.out)) hb); clear BK294; clear HB; have BK294 := n0_; have HB := n1_; clear n0_ n1_; (try clear hb); (try clear hb2); (try clear hk); (try clear hi)) | ((with_reducible refine gate_callee (f := 35) rfl ?_); refine goesL_ (some 22) rfl rfl Try.func35 (by kernel_rfl) rfl #[.slice A0 l0.length c0, .int .i64 a1] rfl (by (try simp only [List.map_toArray, List.map_cons, List.map_nil]); first | done | rfl | (simp only [List.length_drop, List.length_take]; rfl)) ?_; (with_reducible refine (plenumref13_at.calls kj3 _ _ l0 a1 t296 t297 t298 t299 t300 _ ?side1 ?side2 A10.out).mono ?_); (case side1 => repeat (first | exact (Kd.C_below HR0.out HB.out) | (with_reducible refine Kd.C_alloc ?_ _) | (with_reducible refine Kd.C_drewN ?_ _) | (with_reducible refine Kd.C_drew ?_))); (case side2 => exact HC0.out); rintro e w21 ⟨rfl, hb⟩; refine ⟨_, rfl, ?_⟩; have n0_ := Aside0.mk (blk_below (g := gb294) (o := .cells #[.int .i64 a2_0, .int .i64 a2_1] 23 (0, 0)) (by (with_reducible repeat (first | refine blk_drewN ?_ _ | refine blk_drew ?_ | refine blk_alloc ?_ _)); exact BK294.out) hb); have n1_ := Aside0.mk (below_step (by repeat (first | (with_reducible first | exact HB.out | apply below_alloc | apply pw_below_drewN | apply below_drew1 | refine below_set ?_ GE294.out) | exact HB.out)) hb); clear BK294; clear HB; have BK294 := n0_; have HB := n1_; clear n0_ n1_; (try clear hb); (try clear hb2); (try clear hk); (try clear hi)) | ((with_reducible refine gate_dst (N := 8) rfl ?_); refine box_event ?hg (N := 8) ?hd (cs := #[.int .i64 0, .int .i64 0, .int .i64 0, .int .i64 0]) (t := 25) ?hr ?_; (case hd => rfl); (case hg => rfl); (case hr => first | (go_simp; done) | (go_simp; rfl)); intro gb301 hg w22 hbox hb; have n0_ := Aside0.mk (blk_below (g := gb294) (o := .cells #[.int .i64 a2_0, .int .i64 a2_1] 23 (0, 0)) (by (with_reducible repeat (first | refine blk_drewN ?_ _ | refine blk_drew ?_ | refine blk_alloc ?_ _)); exact BK294.out) hb); have n1_ := Aside0.mk (below_step (by repeat (first | (with_reducible first | exact HB.out | apply below_alloc | apply pw_below_drewN | apply below_drew1 | refine below_set ?_ GE294.out) | exact HB.out)) hb); have n2_ := Aside0.mk (hbox); have n3_ := Aside0.mk ((by rw [hg]; exact (below_size (by repeat (first | (with_reducible first | exact HB.out | apply below_alloc | apply pw_below_drewN | apply below_drew1 | refine below_set ?_ GE294.out) | exact HB.out))) : w.heap.size ≤ gb301)); have n4_ := Aside0.mk ((by rw [hg]; exact (below_size (by repeat (first | (with_reducible first | exact HB.out | apply below_alloc | apply pw_below_drewN | apply below_drew1 | refine below_set ?_ GE294.out) | exact HB.out))) : w.heap.size ≤ gb301)); have n5_ := Aside0.mk ((by rw [hg]; exact Nat.ne_of_lt (blk_lt (g := gb294) (o := .cells #[.int .i64 a2_0, .int .i64 a2_1] 23 (0, 0)) (by (with_reducible repeat (first | refine blk_drewN ?_ _ | refine blk_drew ?_ | refine blk_alloc ?_ _)); exact BK294.out)) : gb294 ≠ gb301)); have n6_ := Aside0.mk ((by rw [hg]; exact Nat.ne_of_gt (blk_lt (g := gb294) (o := .cells #[.int .i64 a2_0, .int .i64 a2_1] 23 (0, 0)) (by (with_reducible repeat (first | refine blk_drewN ?_ _ | refine blk_drew ?_ | refine blk_alloc ?_ _)); exact BK294.out)) : gb301 ≠ gb294)); clear BK294; clear HB; have BK294 := n0_; have HB := n1_; have BK301 := n2_; have GW301 := n3_; have GE301 := n4_; have NB294_301 := n5_; have NB301_294 := n6_; clear n0_ n1_ n2_ n3_ n4_ n5_ n6_; clear hb hbox hg; have hnb23 := NB301_294.out; have hnc23 := NB294_301.out; have hcz24_0 : w22.cell? ⟨gb301, 0, none⟩ = some (.int .i64 0) := (blk_cell BK301.out 0).trans rfl; have hcz24_1 : w22.cell? ⟨gb301, 1, none⟩ = some (.int .i64 0) := (blk_cell BK301.out 1).trans rfl; have hcz24_2 : w22.cell? ⟨gb301, 2, none⟩ = some (.int .i64 0) := (blk_cell BK301.out 2).trans rfl; have hcz24_3 : w22.cell? ⟨gb301, 3, none⟩ = some (.int .i64 0) := (blk_cell BK301.out 3).trans rfl; have hfz24_0 := blk_frozen BK301.out 0; have hfz24_1 := blk_frozen BK301.out 1; have hfz24_2 := blk_frozen BK301.out 2; have hfz24_3 := blk_frozen BK301.out 3; have hcz25_0 : w22.cell? ⟨gb294, 0, none⟩ = some (.int .i64 a2_0) := (blk_cell BK294.out 0).trans rfl; have hcz25_1 : w22.cell? ⟨gb294, 1, none⟩ = some (.int .i64 a2_1) := (blk_cell BK294.out 1).trans rfl; have hfz25_0 := blk_frozen BK294.out 0; have hfz25_1 := blk_frozen BK294.out 1) | ((with_reducible refine gate_dst (N := 35) rfl ?_); refine Kd.R_lit k25 _ 25 ?hg (N := 35) ?hd (xs := ([(⟨a1, wrap64 (t297 + 1), (⟨a2_0, a2_1⟩ : S23)⟩ : S25)] : List (S25))) (inner := [.int .i64 a1, .int .i64 (wrap64 (t297 + 1)), .int .i64 a2_0, .int .i64 a2_1]) (ok := fun _ => True) (okp := fun _ => True) ?hr ?hp (fun _ hk => hk) trivial (Below.refl _ _) (Nat.le_refl _) (by simp) ?_; (case hd => rfl); (case hg => rfl); (case hr => first | (go_simp; done) | (go_simp; rfl)); (case hp => exact (Reps.c4 (show Kd.M k25 _ _ _ (⟨a1, wrap64 (t297 + 1), (⟨a2_0, a2_1⟩ : S23)⟩ : S25) [.int .i64 a1, .int .i64 (wrap64 (t297 + 1)), .int .i64 a2_0, .int .i64 a2_1] from (k25_mkM _ _ _ (⟨a1, wrap64 (t297 + 1), (⟨a2_0, a2_1⟩ : S23)⟩ : S25) )) (Reps.none _ _))); intro v303 w26 ho27 hb hg_ hnew_; clear hg_ hnew_; (first | rw [← Ny302.out] at ho27 | (simp only [Int.reduceToNat] at ho27; rw [← Ny302.out] at ho27)); have n0_ := Aside0.mk (Kd.R_lower (Kd.R_newB ho27 (g := gb301) (o := .cells #[.int .i64 t296, .int .i64 t297, .int .i64 t298, .int .i64 t299] 25 (0, 0)) (by (with_reducible repeat (first | refine blk_drewN ?_ _ | refine blk_drew ?_ | refine blk_alloc ?_ _)); refine blk_put (cs := #[.int .i64 t296, .int .i64 t297, .int .i64 t298, .int .i64 0]) ?_ 3 _ rfl; (with_reducible repeat (first | refine blk_drewN ?_ _ | refine blk_drew ?_ | refine blk_alloc ?_ _)); refine blk_put (cs := #[.int .i64 t296, .int .i64 t297, .int .i64 0, .int .i64 0]) ?_ 2 _ rfl; (with_reducible repeat (first | refine blk_drewN ?_ _ | refine blk_drew ?_ | refine blk_alloc ?_ _)); refine blk_put (cs := #[.int .i64 t296, .int .i64 0, .int .i64 0, .int .i64 0]) ?_ 1 _ rfl; (with_reducible repeat (first | refine blk_drewN ?_ _ | refine blk_drew ?_ | refine blk_alloc ?_ _)); refine blk_put (cs := #[.int .i64 0, .int .i64 0, .int .i64 0, .int .i64 0]) ?_ 0 _ rfl; (with_reducible repeat (first | refine blk_drewN ?_ _ | refine blk_drew ?_ | refine blk_alloc ?_ _)); exact BK301.out)) (below_size (by repeat (first | (with_reducible first | exact HB.out | apply below_alloc | apply pw_below_drewN | apply below_drew1 | refine below_set ?_ GE294.out | refine below_set ?_ GE301.out) | exact HB.out)))); have n1_ := Aside0.mk (blk_below (g := gb294) (o := .cells #[.int .i64 a2_0, .int .i64 a2_1] 23 (0, 0)) (by (with_reducible repeat (first | refine blk_drewN ?_ _ | refine blk_drew ?_ | refine blk_alloc ?_ _)); refine blk_far ?_ NB294_301.out _; (with_reducible repeat (first | refine blk_drewN ?_ _ | refine blk_drew ?_ | refine blk_alloc ?_ _)); refine blk_far ?_ NB294_301.out _; (with_reducible repeat (first | refine blk_drewN ?_ _ | refine blk_drew ?_ | refine blk_alloc ?_ _)); refine blk_far ?_ NB294_301.out _; (with_reducible repeat (first | refine blk_drewN ?_ _ | refine blk_drew ?_ | refine blk_alloc ?_ _)); refine blk_far ?_ NB294_301.out _; (with_reducible repeat (first | refine blk_drewN ?_ _ | refine blk_drew ?_ | refine blk_alloc ?_ _)); exact BK294.out) hb); have n2_ := Aside0.mk (blk_below (g := gb301) (o := .cells #[.int .i64 t296, .int .i64 t297, .int .i64 t298, .int .i64 t299] 25 (0, 0)) (by (with_reducible repeat (first | refine blk_drewN ?_ _ | refine blk_drew ?_ | refine blk_alloc ?_ _)); refine blk_put (cs := #[.int .i64 t296, .int .i64 t297, .int .i64 t298, .int .i64 0]) ?_ 3 _ rfl; (with_reducible repeat (first | refine blk_drewN ?_ _ | refine blk_drew ?_ | refine blk_alloc ?_ _)); refine blk_put (cs := #[.int .i64 t296, .int .i64 t297, .int .i64 0, .int .i64 0]) ?_ 2 _ rfl; (with_reducible repeat (first | refine blk_drewN ?_ _ | refine blk_drew ?_ | refine blk_alloc ?_ _)); refine blk_put (cs := #[.int .i64 t296, .int .i64 0, .int .i64 0, .int .i64 0]) ?_ 1 _ rfl; (with_reducible repeat (first | refine blk_drewN ?_ _ | refine blk_drew ?_ | refine blk_alloc ?_ _)); refine blk_put (cs := #[.int .i64 0, .int .i64 0, .int .i64 0, .int .i64 0]) ?_ 0 _ rfl; (with_reducible repeat (first | refine blk_drewN ?_ _ | refine blk_drew ?_ | refine blk_alloc ?_ _)); exact BK301.out) hb); have n3_ := Aside0.mk (below_step (by repeat (first | (with_reducible first | exact HB.out | apply below_alloc | apply pw_below_drewN | apply below_drew1 | refine below_set ?_ GE294.out | refine below_set ?_ GE301.out) | exact HB.out)) hb); clear BK294; clear BK301; clear HB; have HO304 := n0_; have BK294 := n1_; have BK301 := n2_; have HB := n3_; clear n0_ n1_ n2_ n3_; clear hb ho27; obtain ⟨Ao28, co28, eo28⟩ := Kd.R_slice HO304.out; subst eo28) | ((with_reducible refine gate_callee (f := 18) rfl ?_); refine goesL_ (some 36) rfl rfl Try.func18 (by kernel_rfl) rfl #[.slice A0 l0.length c0, .slice Ao28 y302.length co28] rfl (by (try simp only [List.map_toArray, List.map_cons, List.map_nil]); first | done | rfl | (simp only [List.length_drop, List.length_take]; rfl)) ?_; (with_reducible refine (plenumref13_Join.calls kj3 _ _ l0 _ _ y302 t305 _ ?side1 ?side2 ?side3 ?side4 A18.out).mono ?_); (case side1 => repeat (first | exact (Kd.C_below HR0.out HB.out) | (with_reducible refine Kd.C_alloc ?_ _) | (with_reducible refine Kd.C_drewN ?_ _) | (with_reducible refine Kd.C_drew ?_))); (case side2 => exact HC0.out); (case side3 => repeat (first | exact (Kd.R_reads' HO304.out).2.2 | (with_reducible refine Kd.C_alloc ?_ _) | (with_reducible refine Kd.C_drewN ?_ _) | (with_reducible refine Kd.C_drew ?_))); (case side4 => exact (Kd.R_reads' HO304.out).2.1); rintro e w29 ⟨v306, rfl, ho0, hb⟩; refine ⟨_, rfl, ?_⟩; have n0_ := Aside0.mk (Kd.R_elder' (by (with_reducible repeat (first | apply Kd.R_alloc | apply Kd.R_drewN | apply Kd.R_drew)); exact HO304.out) (Kd.R_base ho0) hb); have n1_ := Aside0.mk (Kd.R_lower (Kd.R_newB (Kd.R_new' ho0 (Kd.R_lt (by (with_reducible repeat (first | apply Kd.R_alloc | apply Kd.R_drewN | apply Kd.R_drew)); exact HO304.out))) (g := gb301) (o := .cells #[.int .i64 t296, .int .i64 t297, .int .i64 t298, .int .i64 t299] 25 (0, 0)) (by (with_reducible repeat (first | refine blk_drewN ?_ _ | refine blk_drew ?_ | refine blk_alloc ?_ _)); exact BK301.out)) (below_size (by repeat (first | (with_reducible first | exact HB.out | apply below_alloc | apply pw_below_drewN | apply below_drew1 | refine below_set ?_ GE294.out | refine below_set ?_ GE301.out) | exact HB.out)))); have n2_ := Aside0.mk (blk_below (g := gb294) (o := .cells #[.int .i64 a2_0, .int .i64 a2_1] 23 (0, 0)) (by (with_reducible repeat (first | refine blk_drewN ?_ _ | refine blk_drew ?_ | refine blk_alloc ?_ _)); exact BK294.out) hb); have n3_ := Aside0.mk (blk_below (g := gb301) (o := .cells #[.int .i64 t296, .int .i64 t297, .int .i64 t298, .int .i64 t299] 25 (0, 0)) (by (with_reducible repeat (first | refine blk_drewN ?_ _ | refine blk_drew ?_ | refine blk_alloc ?_ _)); exact BK301.out) hb); have n4_ := Aside0.mk (below_step (by repeat (first | (with_reducible first | exact HB.out | apply below_alloc | apply pw_below_drewN | apply below_drew1 | refine below_set ?_ GE294.out | refine below_set ?_ GE301.out) | exact HB.out)) hb); clear HO304; clear BK294; clear BK301; clear HB; have HO304 := n0_; have HO307 := n1_; have BK294 := n2_; have BK301 := n3_; have HB := n4_; clear n0_ n1_ n2_ n3_ n4_; (try clear hb); (try clear hb2); (try clear hk); (try clear hi); (try clear ho0)))
            go_ret2
            exact ⟨_, by first | rfl | (simp [errW_none, errW_some] <;> rfl) | (simp [*, errW_none, errW_some] <;> rfl), by (with_reducible repeat (first | apply Kd.R_alloc | apply Kd.R_drewN | apply Kd.R_drew)); exact Kd.R_mono HO307.out (fun _ hk => trivial), by repeat (first | (with_reducible first | exact HB.out | apply below_alloc | apply pw_below_drewN | apply below_drew1 | refine below_set ?_ GE294.out | refine below_set ?_ GE301.out) | exact HB.out)⟩
        · replace c9 := Bool.eq_false_iff.mpr c9
          subst c9
          have H1 : (some (([] : List (S25)), 11)) = some (r1, r2) := by rw [if_neg (show ¬ (false = true) by decide)] at H; exact H
          clear H
          have H := H1
          clear H1
          simp only [Option.some.injEq, Prod.mk.injEq] at H
          obtain ⟨rfl, rfl⟩ := H
          have hcz30_0 : wc.cell? ⟨gb294, 0, none⟩ = some (.int .i64 a2_0) := (blk_cell BK294.out 0).trans rfl
          have hcz30_1 : wc.cell? ⟨gb294, 1, none⟩ = some (.int .i64 a2_1) := (blk_cell BK294.out 1).trans rfl
          have hfz30_0 := blk_frozen BK294.out 0
          have hfz30_1 := blk_frozen BK294.out 1
          go_wp2_with (first | ((with_reducible refine gate_callee (f := 32) rfl ?_); refine goesL_ (some 17) rfl rfl Try.func32 (by kernel_rfl) rfl #[.agg #[.int .i64 a2_0, .int .i64 a2_1]] rfl (by (try simp only [List.map_toArray, List.map_cons, List.map_nil]); first | done | rfl | (simp only [List.length_drop, List.length_take]; rfl)) ?_; (with_reducible refine (plenumref13_Possible.calls a2_0 a2_1 false _ A8.out).mono ?_); rintro e w31 ⟨rfl, hb⟩; refine ⟨_, rfl, ?_⟩; have n0_ := Aside0.mk (blk_below (g := gb294) (o := .cells #[.int .i64 a2_0, .int .i64 a2_1] 23 (0, 0)) (by (with_reducible repeat (first | refine blk_drewN ?_ _ | refine blk_drew ?_ | refine blk_alloc ?_ _)); exact BK294.out) hb); have n1_ := Aside0.mk (below_step (by repeat (first | (with_reducible first | exact HB.out | apply below_alloc | apply pw_below_drewN | apply below_drew1 | refine below_set ?_ GE294.out) | exact HB.out)) hb); clear BK294; clear HB; have BK294 := n0_; have HB := n1_; clear n0_ n1_; (try clear hb); (try clear hb2); (try clear hk); (try clear hi)))
          go_ret2
          exact ⟨_, by first | rfl | (simp [errW_none, errW_some] <;> rfl) | (simp [*, errW_none, errW_some] <;> rfl), by first | exact Kd.R_nil _ _ _ _ _ | exact Kd.N_nil _ _ _ _ _ | exact Kd.V_nil _ _ _ _ _ | exact Kd.Q_nil _ _ _ _ _ | exact Kd.S_nil _ _ _ _ _, by repeat (first | (with_reducible first | exact HB.out | apply below_alloc | apply pw_below_drewN | apply below_drew1 | refine below_set ?_ GE294.out) | exact HB.out)⟩
end Go.Proofs.Ytejidnmgjccidaa.R
end
section
namespace Go.Proofs.Ytejidnmgjccidaa.R
open Go.RowKit Go.Proofs.YtejidnmgjccidaaW.PrintWords Go.Proofs.YtejidnmgjccidaaW.PrintLast Go.Proofs.YtejidnmgjccidaaW.PrintMore
attribute [local go_sem] max2_int min2_int max_two min_two max_three min_three max_four min_four
set_option linter.unusedVariables false
set_option linter.unusedSimpArgs false
def plenumlaw13_PriorityPuts.f (k : Nat) (l0 : List (S25)) (a1 : Int) (a2_0 : Int) (a2_1 : Int) : Option (Bool) := (plenumlaw13_awake.f k).bind fun t309 => (if t309 = true then ((plenumlaw13_few.f l0).bind fun t310 => (if t310 = true then ((priority_Put.f l0 a1 a2_0 a2_1).bind fun bt311 => ((plenumref13_Put.f k l0 a1 a2_0 a2_1).bind fun bt315 => (if bt311.2 = bt315.2 then ((plenumref13_Same.f k bt311.1 bt315.1).bind fun t319 => (some t319)) else (none)))) else (some true))) else (none))
set_option maxHeartbeats 8000000 in
set_option maxRecDepth 100000 in
theorem plenumlaw13_PriorityPuts.calls (k : Nat) (A0 : Option Addr) (c0 : Nat) (l0 : List (S25)) (a1 : Int) (a2_0 : Int) (a2_1 : Int) (r : Bool) (w : World) (hr0 : Kd.C k25 w A0 l0.length l0) (hc0 : l0.length ≤ c0) (h : plenumlaw13_PriorityPuts.f k l0 a1 a2_0 a2_1 = some r) :
    Calls Try.prog 5 #[.slice A0 l0.length c0, .int .i64 a1, .agg #[.int .i64 a2_0, .int .i64 a2_1]] w fun e w' => e = .returned (.bool r) ∧ Below w.heap.size w w' := by
  have hu23 := Try.underlying23
  have HR0 := Aside0.mk hr0
  have HC0 := Aside0.mk hc0
  clear hr0 hc0
  have HB := Aside0.mk (Below.refl w.heap.size w)
  have H : ((plenumlaw13_awake.f k).bind fun t309 => (if t309 = true then ((plenumlaw13_few.f l0).bind fun t310 => (if t310 = true then ((priority_Put.f l0 a1 a2_0 a2_1).bind fun bt311 => ((plenumref13_Put.f k l0 a1 a2_0 a2_1).bind fun bt315 => (if bt311.2 = bt315.2 then ((plenumref13_Same.f k bt311.1 bt315.1).bind fun t319 => (some t319)) else (none)))) else (some true))) else (none))) = some r := h
  clear h
  replace H := Option.bind_eq_some_iff.mp H
  obtain ⟨t309, A40, H⟩ := H
  replace H : (if t309 = true then ((plenumlaw13_few.f l0).bind fun t310 => (if t310 = true then ((priority_Put.f l0 a1 a2_0 a2_1).bind fun bt311 => ((plenumref13_Put.f k l0 a1 a2_0 a2_1).bind fun bt315 => (if bt311.2 = bt315.2 then ((plenumref13_Same.f k bt311.1 bt315.1).bind fun t319 => (some t319)) else (none)))) else (some true))) else (none)) = some r := H
  have A4 := Aside0.mk A40
  clear A40
  by_cases c5 : t309 = true
  · subst c5
    have H1 : ((plenumlaw13_few.f l0).bind fun t310 => (if t310 = true then ((priority_Put.f l0 a1 a2_0 a2_1).bind fun bt311 => ((plenumref13_Put.f k l0 a1 a2_0 a2_1).bind fun bt315 => (if bt311.2 = bt315.2 then ((plenumref13_Same.f k bt311.1 bt315.1).bind fun t319 => (some t319)) else (none)))) else (some true))) = some r := by rw [if_pos rfl] at H; exact H
    clear H
    have H := H1
    clear H1
    replace H := Option.bind_eq_some_iff.mp H
    obtain ⟨t310, A60, H⟩ := H
    replace H : (if t310 = true then ((priority_Put.f l0 a1 a2_0 a2_1).bind fun bt311 => ((plenumref13_Put.f k l0 a1 a2_0 a2_1).bind fun bt315 => (if bt311.2 = bt315.2 then ((plenumref13_Same.f k bt311.1 bt315.1).bind fun t319 => (some t319)) else (none)))) else (some true)) = some r := H
    have A6 := Aside0.mk A60
    clear A60
    by_cases c7 : t310 = true
    · subst c7
      have H1 : ((priority_Put.f l0 a1 a2_0 a2_1).bind fun bt311 => ((plenumref13_Put.f k l0 a1 a2_0 a2_1).bind fun bt315 => (if bt311.2 = bt315.2 then ((plenumref13_Same.f k bt311.1 bt315.1).bind fun t319 => (some t319)) else (none)))) = some r := by rw [if_pos rfl] at H; exact H
      clear H
      have H := H1
      clear H1
      replace H := Option.bind_eq_some_iff.mp H
      obtain ⟨⟨t311, t314⟩, A80, H⟩ := H
      replace H : ((plenumref13_Put.f k l0 a1 a2_0 a2_1).bind fun bt315 => (if t314 = bt315.2 then ((plenumref13_Same.f k t311 bt315.1).bind fun t319 => (some t319)) else (none))) = some r := H
      have A8 := Aside0.mk A80
      clear A80
      replace H := Option.bind_eq_some_iff.mp H
      obtain ⟨⟨t315, t318⟩, A90, H⟩ := H
      replace H : (if t314 = t318 then ((plenumref13_Same.f k t311 t315).bind fun t319 => (some t319)) else (none)) = some r := H
      have A9 := Aside0.mk A90
      clear A90
      by_cases c10 : t314 = t318
      · rw [if_pos c10] at H
        have c10b0 : (t314 == t318) = true := beq_iff_eq.mpr c10
        have c10b1 : (t314 != t318) = false := bne_eq_false_iff_eq.mpr c10
        clear c10
        replace H := Option.bind_eq_some_iff.mp H
        obtain ⟨t319, A110, H⟩ := H
        replace H : (some t319) = some r := H
        have A11 := Aside0.mk A110
        clear A110
        obtain rfl := Option.some.inj H
        go_enter Try.func5, Try.ntmps5
        go_wp2_with (first | ((with_reducible refine gate_dst (N := 5) rfl ?_); refine box_event ?hg (N := 5) ?hd (cs := #[.int .i64 a2_0, .int .i64 a2_1]) (t := 23) ?hr ?_; (case hd => rfl); (case hg => rfl); (case hr => first | (go_simp; done) | (go_simp; rfl)); intro gb308 hg w12 hbox hb; have n0_ := Aside0.mk (below_step (by repeat (first | (with_reducible first | exact HB.out | apply below_alloc | apply pw_below_drewN | apply below_drew1) | exact HB.out)) hb); have n1_ := Aside0.mk (hbox); have n2_ := Aside0.mk ((by rw [hg]; exact (below_size (by repeat (first | (with_reducible first | exact HB.out | apply below_alloc | apply pw_below_drewN | apply below_drew1) | exact HB.out))) : w.heap.size ≤ gb308)); have n3_ := Aside0.mk ((by rw [hg]; exact (below_size (by repeat (first | (with_reducible first | exact HB.out | apply below_alloc | apply pw_below_drewN | apply below_drew1) | exact HB.out))) : w.heap.size ≤ gb308)); clear HB; have HB := n0_; have BK308 := n1_; have GW308 := n2_; have GE308 := n3_; clear n0_ n1_ n2_ n3_; clear hb hbox hg) | ((with_reducible refine gate_callee (f := 10) rfl ?_); refine goesL_ (some 11) rfl rfl Try.func10 (by kernel_rfl) rfl #[] rfl (by (try simp only [List.map_toArray, List.map_cons, List.map_nil]); first | done | rfl | (simp only [List.length_drop, List.length_take]; rfl)) ?_; (with_reducible refine (plenumlaw13_awake.calls k  true _ A4.out).mono ?_); rintro e w13 ⟨rfl, hb⟩; refine ⟨_, rfl, ?_⟩; have n0_ := Aside0.mk (blk_below (g := gb308) (o := .cells #[.int .i64 a2_0, .int .i64 a2_1] 23 (0, 0)) (by (with_reducible repeat (first | refine blk_drewN ?_ _ | refine blk_drew ?_ | refine blk_alloc ?_ _)); exact BK308.out) hb); have n1_ := Aside0.mk (below_step (by repeat (first | (with_reducible first | exact HB.out | apply below_alloc | apply pw_below_drewN | apply below_drew1 | refine below_set ?_ GE308.out) | exact HB.out)) hb); clear BK308; clear HB; have BK308 := n0_; have HB := n1_; clear n0_ n1_; (try clear hb); (try clear hb2); (try clear hk); (try clear hi)) | ((with_reducible refine gate_callee (f := 11) rfl ?_); refine goesL_ (some 14) rfl rfl Try.func11 (by kernel_rfl) rfl #[.slice A0 l0.length c0] rfl (by (try simp only [List.map_toArray, List.map_cons, List.map_nil]); first | done | rfl | (simp only [List.length_drop, List.length_take]; rfl)) ?_; (with_reducible refine (plenumlaw13_few.calls _ _ l0 true _ ?side1 ?side2 A6.out).mono ?_); (case side1 => repeat (first | exact (Kd.C_below HR0.out HB.out) | (with_reducible refine Kd.C_alloc ?_ _) | (with_reducible refine Kd.C_drewN ?_ _) | (with_reducible refine Kd.C_drew ?_))); (case side2 => exact HC0.out); rintro e w' ⟨rfl, ⟨nd, rfl⟩⟩; refine ⟨_, rfl, ?_⟩; have hcz14_0 : w13.cell? ⟨gb308, 0, none⟩ = some (.int .i64 a2_0) := (blk_cell BK308.out 0).trans rfl; have hcz14_1 : w13.cell? ⟨gb308, 1, none⟩ = some (.int .i64 a2_1) := (blk_cell BK308.out 1).trans rfl; have hfz14_0 := blk_frozen BK308.out 0; have hfz14_1 := blk_frozen BK308.out 1) | ((with_reducible refine gate_callee (f := 27) rfl ?_); refine goesL_ (some 20) rfl rfl Try.func27 (by kernel_rfl) rfl #[.slice A0 l0.length c0, .int .i64 a1, .agg #[.int .i64 a2_0, .int .i64 a2_1]] rfl (by (try simp only [List.map_toArray, List.map_cons, List.map_nil]); first | done | rfl | (simp only [List.length_drop, List.length_take]; rfl)) ?_; (with_reducible refine (priority_Put.calls _ _ l0 a1 a2_0 a2_1 t311 t314 _ ?side1 ?side2 A8.out).mono ?_); (case side1 => repeat (first | exact (Kd.C_below HR0.out (by repeat (first | (with_reducible first | exact HB.out | apply below_alloc | apply pw_below_drewN | apply below_drew1 | refine below_set ?_ GE308.out) | exact HB.out))) | (with_reducible refine Kd.C_alloc ?_ _) | (with_reducible refine Kd.C_drewN ?_ _) | (with_reducible refine Kd.C_drew ?_))); (case side2 => exact HC0.out); rintro e w15 ⟨v312, rfl, ho0, hb⟩; refine ⟨_, rfl, ?_⟩; have n0_ := Aside0.mk (Kd.R_lower ho0 (below_size (by repeat (first | (with_reducible first | exact HB.out | apply below_alloc | apply pw_below_drewN | apply below_drew1 | refine below_set ?_ GE308.out) | exact HB.out)))); have n1_ := Aside0.mk (blk_below (g := gb308) (o := .cells #[.int .i64 a2_0, .int .i64 a2_1] 23 (0, 0)) (by (with_reducible repeat (first | refine blk_drewN ?_ _ | refine blk_drew ?_ | refine blk_alloc ?_ _)); exact BK308.out) hb); have n2_ := Aside0.mk (below_step (by repeat (first | (with_reducible first | exact HB.out | apply below_alloc | apply pw_below_drewN | apply below_drew1 | refine below_set ?_ GE308.out) | exact HB.out)) hb); clear BK308; clear HB; have HO313 := n0_; have BK308 := n1_; have HB := n2_; clear n0_ n1_ n2_; (try clear hb); (try clear hb2); (try clear hk); (try clear hi); (try clear ho0); have hcz16_0 : w15.cell? ⟨gb308, 0, none⟩ = some (.int .i64 a2_0) := (blk_cell BK308.out 0).trans rfl; have hcz16_1 : w15.cell? ⟨gb308, 1, none⟩ = some (.int .i64 a2_1) := (blk_cell BK308.out 1).trans rfl; have hfz16_0 := blk_frozen BK308.out 0; have hfz16_1 := blk_frozen BK308.out 1) | ((with_reducible refine gate_callee (f := 28) rfl ?_); refine goesL_ (some 27) rfl rfl Try.func28 (by kernel_rfl) rfl #[.slice A0 l0.length c0, .int .i64 a1, .agg #[.int .i64 a2_0, .int .i64 a2_1]] rfl (by (try simp only [List.map_toArray, List.map_cons, List.map_nil]); first | done | rfl | (simp only [List.length_drop, List.length_take]; rfl)) ?_; (with_reducible refine (plenumref13_Put.calls k _ _ l0 a1 a2_0 a2_1 t315 t318 _ ?side1 ?side2 A9.out).mono ?_); (case side1 => repeat (first | exact (Kd.C_below HR0.out HB.out) | (with_reducible refine Kd.C_alloc ?_ _) | (with_reducible refine Kd.C_drewN ?_ _) | (with_reducible refine Kd.C_drew ?_))); (case side2 => exact HC0.out); rintro e w17 ⟨v316, rfl, ho0, hb⟩; refine ⟨_, rfl, ?_⟩; have n0_ := Aside0.mk (Kd.R_elder' (by (with_reducible repeat (first | apply Kd.R_alloc | apply Kd.R_drewN | apply Kd.R_drew)); exact HO313.out) (Kd.R_base ho0) hb); have n1_ := Aside0.mk (Kd.R_lower (Kd.R_new' ho0 (Kd.R_lt (by (with_reducible repeat (first | apply Kd.R_alloc | apply Kd.R_drewN | apply Kd.R_drew)); exact HO313.out))) (below_size (by repeat (first | (with_reducible first | exact HB.out | apply below_alloc | apply pw_below_drewN | apply below_drew1 | refine below_set ?_ GE308.out) | exact HB.out)))); have n2_ := Aside0.mk (blk_below (g := gb308) (o := .cells #[.int .i64 a2_0, .int .i64 a2_1] 23 (0, 0)) (by (with_reducible repeat (first | refine blk_drewN ?_ _ | refine blk_drew ?_ | refine blk_alloc ?_ _)); exact BK308.out) hb); have n3_ := Aside0.mk (below_step (by repeat (first | (with_reducible first | exact HB.out | apply below_alloc | apply pw_below_drewN | apply below_drew1 | refine below_set ?_ GE308.out) | exact HB.out)) hb); clear HO313; clear BK308; clear HB; have HO313 := n0_; have HO317 := n1_; have BK308 := n2_; have HB := n3_; clear n0_ n1_ n2_ n3_; (try clear hb); (try clear hb2); (try clear hk); (try clear hi); (try clear ho0); obtain ⟨Ao18, co18, eo18⟩ := Kd.R_slice HO313.out; subst eo18; obtain ⟨Ao19, co19, eo19⟩ := Kd.R_slice HO317.out; subst eo19) | (go_at_call 14; (with_reducible refine (plenumref13_Same.calls k _ _ t311 _ _ t315 t319 _ ?side1 ?side2 ?side3 ?side4 A11.out).mono ?_); (case side1 => repeat (first | exact (Kd.R_reads' HO313.out).2.2 | (with_reducible refine Kd.C_alloc ?_ _) | (with_reducible refine Kd.C_drewN ?_ _) | (with_reducible refine Kd.C_drew ?_))); (case side2 => exact (Kd.R_reads' HO313.out).2.1); (case side3 => repeat (first | exact (Kd.R_reads' HO317.out).2.2 | (with_reducible refine Kd.C_alloc ?_ _) | (with_reducible refine Kd.C_drewN ?_ _) | (with_reducible refine Kd.C_drew ?_))); (case side4 => exact (Kd.R_reads' HO317.out).2.1); rintro e w' ⟨rfl, ⟨nd, rfl⟩⟩))
        go_ret
        exact ⟨by first | rfl | (simp [errW_none, errW_some] <;> rfl) | (simp [*, errW_none, errW_some] <;> rfl), by repeat (first | (with_reducible first | exact HB.out | apply below_alloc | apply pw_below_drewN | apply below_drew1 | refine below_set ?_ GE308.out) | exact HB.out)⟩
      · rw [if_neg c10] at H
        exact absurd H (by simp)
    · replace c7 := Bool.eq_false_iff.mpr c7
      subst c7
      have H1 : (some true) = some r := by rw [if_neg (show ¬ (false = true) by decide)] at H; exact H
      clear H
      have H := H1
      clear H1
      obtain rfl := Option.some.inj H
      go_enter Try.func5, Try.ntmps5
      go_wp2_with (first | ((with_reducible refine gate_dst (N := 5) rfl ?_); refine box_event ?hg (N := 5) ?hd (cs := #[.int .i64 a2_0, .int .i64 a2_1]) (t := 23) ?hr ?_; (case hd => rfl); (case hg => rfl); (case hr => first | (go_simp; done) | (go_simp; rfl)); intro gb308 hg w20 hbox hb; have n0_ := Aside0.mk (below_step (by repeat (first | (with_reducible first | exact HB.out | apply below_alloc | apply pw_below_drewN | apply below_drew1) | exact HB.out)) hb); have n1_ := Aside0.mk (hbox); have n2_ := Aside0.mk ((by rw [hg]; exact (below_size (by repeat (first | (with_reducible first | exact HB.out | apply below_alloc | apply pw_below_drewN | apply below_drew1) | exact HB.out))) : w.heap.size ≤ gb308)); have n3_ := Aside0.mk ((by rw [hg]; exact (below_size (by repeat (first | (with_reducible first | exact HB.out | apply below_alloc | apply pw_below_drewN | apply below_drew1) | exact HB.out))) : w.heap.size ≤ gb308)); clear HB; have HB := n0_; have BK308 := n1_; have GW308 := n2_; have GE308 := n3_; clear n0_ n1_ n2_ n3_; clear hb hbox hg) | ((with_reducible refine gate_callee (f := 10) rfl ?_); refine goesL_ (some 11) rfl rfl Try.func10 (by kernel_rfl) rfl #[] rfl (by (try simp only [List.map_toArray, List.map_cons, List.map_nil]); first | done | rfl | (simp only [List.length_drop, List.length_take]; rfl)) ?_; (with_reducible refine (plenumlaw13_awake.calls k  true _ A4.out).mono ?_); rintro e w21 ⟨rfl, hb⟩; refine ⟨_, rfl, ?_⟩; have n0_ := Aside0.mk (blk_below (g := gb308) (o := .cells #[.int .i64 a2_0, .int .i64 a2_1] 23 (0, 0)) (by (with_reducible repeat (first | refine blk_drewN ?_ _ | refine blk_drew ?_ | refine blk_alloc ?_ _)); exact BK308.out) hb); have n1_ := Aside0.mk (below_step (by repeat (first | (with_reducible first | exact HB.out | apply below_alloc | apply pw_below_drewN | apply below_drew1 | refine below_set ?_ GE308.out) | exact HB.out)) hb); clear BK308; clear HB; have BK308 := n0_; have HB := n1_; clear n0_ n1_; (try clear hb); (try clear hb2); (try clear hk); (try clear hi)) | ((with_reducible refine gate_callee (f := 11) rfl ?_); refine goesL_ (some 14) rfl rfl Try.func11 (by kernel_rfl) rfl #[.slice A0 l0.length c0] rfl (by (try simp only [List.map_toArray, List.map_cons, List.map_nil]); first | done | rfl | (simp only [List.length_drop, List.length_take]; rfl)) ?_; (with_reducible refine (plenumlaw13_few.calls _ _ l0 false _ ?side1 ?side2 A6.out).mono ?_); (case side1 => repeat (first | exact (Kd.C_below HR0.out HB.out) | (with_reducible refine Kd.C_alloc ?_ _) | (with_reducible refine Kd.C_drewN ?_ _) | (with_reducible refine Kd.C_drew ?_))); (case side2 => exact HC0.out); rintro e w' ⟨rfl, ⟨nd, rfl⟩⟩; refine ⟨_, rfl, ?_⟩))
      go_ret
      exact ⟨by first | rfl | (simp [errW_none, errW_some] <;> rfl) | (simp [*, errW_none, errW_some] <;> rfl), by repeat (first | (with_reducible first | exact HB.out | apply below_alloc | apply pw_below_drewN | apply below_drew1 | refine below_set ?_ GE308.out) | exact HB.out)⟩
  · replace c5 := Bool.eq_false_iff.mpr c5
    subst c5
    have H1 : (none) = some r := by rw [if_neg (show ¬ (false = true) by decide)] at H; exact H
    clear H
    have H := H1
    clear H1
    exact absurd H (by simp)
end Go.Proofs.Ytejidnmgjccidaa.R
end
section
namespace Go.Proofs.Ytejidnmgjccidaa.Opn
open Go.RowKit Go.Proofs.YtejidnmgjccidaaW.PrintWords
def Opn (P : Program) (t : TypeId) {α : Type} (d : Kd α) (V : α → Prop) : Prop :=
  ∀ (H : Type) (enc : TypeId × Value → H) (w : World) (fuel : Nat) (cs : List Value) (x : DataW H × List MemPlace),
    DataW.trod enc P w 0 (fun _ => true) true fuel t cs = some x → (∀ n ∈ DataW.weights P t x.1, n ≤ 140737488351232) → ∃ y, d.K w y cs ∧ V y
theorem opn_int {P : Program} {t : TypeId} {k : IntKind} (ht : P.underlying t = some (.int k)) : Opn P t (Kd.int k) (fun y => (Lit.int k y).wf = true) := by
  intro H enc w fuel cs x h _
  obtain ⟨n, rfl, _, hw⟩ := DataW.trod_int ht h
  exact ⟨n, rfl, hw⟩
theorem weights_all {H : Type} {P : Program} {e : TypeId} {d : DataW H} {n : Nat} (hn : n ∈ DataW.weights P e d) : ∀ {l : List (DataW H)}, d ∈ l → n ∈ DataW.weightsAll P e l
  | [], h => by simp at h
  | a :: r, h => by
    simp only [DataW.weightsAll, List.mem_append]
    rcases List.mem_cons.1 h with rfl | h
    · exact .inl hn
    · exact .inr (weights_all hn h)
theorem list_of {α : Type} (Q : Nat → α → Prop) : ∀ n, (∀ i, i < n → ∃ y, Q i y) → ∃ l : List α, l.length = n ∧ ∀ i y, l[i]? = some y → Q i y
  | 0, _ => ⟨[], rfl, fun i y h => by simp at h⟩
  | n + 1, h => by
    obtain ⟨l, hl, hq⟩ := list_of Q n (fun i hi => h i (by omega))
    obtain ⟨y, hy⟩ := h n (by omega)
    refine ⟨l ++ [y], by simp [hl], fun i z hz => ?_⟩
    rcases Nat.lt_or_ge i n with hi | hi
    · rw [List.getElem?_append_left (by omega)] at hz
      exact hq i z hz
    · have : i = n := by
        have := (List.getElem?_eq_some_iff.1 hz).1
        simp [hl] at this
        omega
      subst this
      rw [List.getElem?_append_right (by omega), hl, Nat.sub_self] at hz
      simp at hz
      subst hz
      exact hy
theorem opn_slice {P : Program} {t e : TypeId} {α : Type} {d : Kd α} {V : α → Prop} {B : Nat} (ht : P.underlying t = some (.slice e)) (hs : P.cellsOf e = d.sz) (hB : P.bytesOf e = B) (he : Opn P e d V) :
    Opn P t (Kd.slice e d) (fun xs => xs.length * B ≤ 140737488351232 ∧ ∀ x ∈ xs, V x) := by
  intro H enc w fuel cs x h hw
  rcases Go.Deep.open_slice ht h with ⟨rfl, rfl⟩ | ⟨a, len, cap, m, n, D, Pl, rfl, _, hl, hm, hmm, rfl, hi⟩
  · exact ⟨[], ⟨none, 0, rfl, by simp, rfl, by simp, fun hn => absurd hn (by simp)⟩, by simp, by simp⟩
  have hmm' : m = cap := by simpa using hmm
  subst hmm'
  have hw' : (len + (m - len)) * B ≤ 140737488351232 := by
    have := hw ((len + (m - len)) * B) (by simp [DataW.weights, ht, hB])
    exact this
  obtain ⟨l, hlen, hq⟩ := list_of (fun i y => ∃ c, w.cells? 0 (a.add (i * P.cellsOf e)) (P.cellsOf e) = some c ∧ d.K w y c ∧ V y) len (fun i hil => by
    obtain ⟨c, hc, htr⟩ := hi i (by omega)
    obtain ⟨y, hy, hV⟩ := he H enc w n c _ htr (fun k hk => hw k (by
      simp only [DataW.weights, ht, List.mem_cons, List.mem_append]
      exact .inr (.inl (weights_all hk (List.mem_map.2 ⟨i, List.mem_range.2 hil, rfl⟩)))))
    exact ⟨y, c, hc, hy, hV⟩)
  refine ⟨l, ⟨some a, m, by rw [hlen], by omega, ?_⟩, ?_, ?_⟩
  · refine ⟨rfl, by simp only [maxLen] at hm; omega, fun _ => ⟨a, rfl, fun j p hj => ?_⟩⟩
    obtain ⟨c, hc, hK, _⟩ := hq j p hj
    obtain ⟨_, hcl, hat⟩ := World.cells?_some hc
    refine ⟨c, by rw [hcl, hs], hK, fun i u hu => ?_⟩
    have hil : i < P.cellsOf e := by
      have := (List.getElem?_eq_some_iff.1 hu).1
      omega
    rw [← hs, ← Go.Deep.add_add, hat i hil, hu]
  · rw [hlen]
    exact Nat.le_trans (Nat.mul_le_mul_right _ (by omega)) hw'
  · intro y hy
    obtain ⟨i, hi2⟩ := List.mem_iff_getElem?.1 hy
    exact (hq i y hi2).elim fun c h => h.2.2
def OpnF (P : Program) (fs : List Field) {α : Type} (d : Kd α) (V : α → Prop) (o : Nat) : Prop :=
  ∀ (H : Type) (enc : TypeId × Value → H) (w : World) (n : Nat) (cs : List Value) (xs : List (DataW H × List MemPlace)),
    o + d.sz ≤ cs.length →
    (∀ (i : Nat) (f : Field), fs[i]? = some f → ∃ x, xs[i]? = some x ∧ DataW.trod enc P w 0 (fun _ => true) true n f.type ((cs.drop f.offset).take (P.cellsOf f.type)) = some x ∧ ∀ k ∈ DataW.weights P f.type x.1, k ≤ 140737488351232) →
    ∃ y, d.K w y ((cs.drop o).take d.sz) ∧ V y
theorem opn_last {P : Program} {f : Field} {α : Type} {d : Kd α} {V : α → Prop} {o : Nat} (ho : f.offset = o) (hs : P.cellsOf f.type = d.sz) (h : Opn P f.type d V) : OpnF P [f] d V o := by
  intro H enc w n cs xs _ hx
  obtain ⟨x, _, ht, hw⟩ := hx 0 f rfl
  rw [hs, ho] at ht
  exact h H enc w n _ x ht hw
theorem take_two {α : Type} (cs : List α) (o a b : Nat) : (cs.drop o).take (a + b) = (cs.drop o).take a ++ (cs.drop (o + a)).take b := by
  rw [List.take_add, List.drop_drop]
theorem opn_cons {P : Program} {f : Field} {fs : List Field} {α β : Type} {a : Kd α} {b : Kd β} {V : α → Prop} {U : β → Prop} {o : Nat} (ho : f.offset = o) (hs : P.cellsOf f.type = a.sz) (h : Opn P f.type a V) (hr : OpnF P fs b U (o + a.sz)) :
    OpnF P (f :: fs) (Kd.pair a b) (fun y => V y.1 ∧ U y.2) o := by
  intro H enc w n cs xs hl hx
  obtain ⟨x, hx0, ht, hw⟩ := hx 0 f rfl
  rw [hs, ho] at ht
  obtain ⟨y, hy, hV⟩ := h H enc w n _ x ht hw
  have hl' : o + (a.sz + b.sz) ≤ cs.length := hl
  obtain ⟨z, hz, hU⟩ := hr H enc w n cs (xs.drop 1) (by omega) (fun i g hg => by
    obtain ⟨x', h1, h2⟩ := hx (i + 1) g (by simpa using hg)
    exact ⟨x', by rw [List.getElem?_drop, Nat.add_comm]; exact h1, h2⟩)
  exact ⟨(y, z), ⟨_, _, take_two cs o a.sz b.sz, hy, hz⟩, hV, hU⟩
theorem opn_struct {P : Program} {t : TypeId} {fa : Array Field} {fs : List Field} {α β : Type} {d : Kd α} {V : α → Prop} (ht : P.underlying t = some (.struct fa)) (hf : fa.toList = fs) (hs : P.cellsOf t = d.sz) (g : β → α) (g' : α → β) (hg : ∀ y, g (g' y) = y)
    (h : OpnF P fs d V 0) : Opn P t (Kd.iso d g) (fun x => V (g x)) := by
  intro H enc w fuel cs x hx hw
  obtain ⟨xs, n, rfl, rfl, hl, hxl, hfs⟩ := DataW.trod_struct ht hx
  obtain ⟨y, hy, hV⟩ := h H enc w n cs xs (by omega) (fun i f hi => by
    have hi' : fa[i]? = some f := by rw [← hf] at hi; simpa using hi
    have hlt : i < xs.length := by
      rw [hxl]
      exact (Array.getElem?_eq_some_iff.1 hi').1
    have h1 := hfs i f hi'
    refine ⟨xs[i], List.getElem?_eq_getElem hlt, by rw [h1, List.getElem?_eq_getElem hlt], fun k hk => hw k ?_⟩
    simp only [DataW.weights, ht]
    refine DataW.weights_mem_each (j := i) (t := f.type) (d := xs[i].1) ?_ ?_ k hk
    · rw [List.getElem?_map, hf, hi]
      rfl
    · rw [List.getElem?_map, List.getElem?_eq_getElem hlt]
      rfl)
  refine ⟨g' y, ?_, ?_⟩
  · show d.K w (g (g' y)) cs
    rw [hg]
    rw [List.drop_zero, ← hs, ← hl, List.take_length] at hy
    exact hy
  · show V (g (g' y))
    rw [hg]
    exact hV
theorem arg_slice {H : Type} {enc : TypeId × Value → H} {P : Program} {t e : TypeId} {α : Type} {d : Kd α} {V : List α → Prop} {W : World} {v : Value} {x : DataW H} {ps : List MemPlace} (ho : Opn P t (Kd.slice e d) V) (a : Option Addr) (len cap : Nat) (hv : v = .slice a len cap)
    (h : DataW.Trod enc P W 0 (fun _ => true) true t v x ps) (hw : ∀ n ∈ DataW.weights P t x, n ≤ 140737488351232) : ∃ (A : Option Addr) (c : Nat) (l : List α), v = .slice A l.length c ∧ l.length ≤ c ∧ Kd.C d W A l.length l ∧ V l := by
  obtain ⟨fuel, hf⟩ := h
  obtain ⟨l, ⟨A, c, hc, hl, hC⟩, hV⟩ := ho H enc W fuel _ _ hf hw
  subst hv
  have he : Value.slice a len cap = .slice A l.length c := by simpa [Value.cells] using hc
  exact ⟨A, c, l, he, hl, hC, hV⟩
theorem arg_struct {H : Type} {enc : TypeId × Value → H} {P : Program} {t : TypeId} {α : Type} {d : Kd α} {V : α → Prop} {W : World} {v : Value} {x : DataW H} {ps : List MemPlace} (ho : Opn P t d V) (cs : Array Value) (hv : v = .agg cs)
    (h : DataW.Trod enc P W 0 (fun _ => true) true t v x ps) (hw : ∀ n ∈ DataW.weights P t x, n ≤ 140737488351232) : ∃ y, (∃ l, v = .agg l.toArray ∧ d.K W y l) ∧ V y := by
  obtain ⟨fuel, hf⟩ := h
  obtain ⟨y, hK, hV⟩ := ho H enc W fuel _ _ hf hw
  subst hv
  exact ⟨y, ⟨cs.toList, by simp, hK⟩, hV⟩
theorem arg_weights {H : Type} {P : Program} {ts : List TypeId} {ds : List (DataW H)} (h : (DataW.weightsEach P ts ds).all (· ≤ reachBytes) = true) {j : Nat} {t : TypeId} {d : DataW H} (ht : ts[j]? = some t) (hd : ds[j]? = some d) : ∀ n ∈ DataW.weights P t d, n ≤ 140737488351232 := by
  intro n hn
  have := List.all_eq_true.1 h n (DataW.weights_mem_each ht hd n hn)
  exact of_decide_eq_true this
end Go.Proofs.Ytejidnmgjccidaa.Opn
end
section
namespace Go.Proofs.Ytejidnmgjccidaa.R
open Go.RowKit Go.Proofs.YtejidnmgjccidaaW.PrintWords Go.Proofs.Ytejidnmgjccidaa.Opn
def V23 (x : S23) : Prop := ((Lit.int .i64 x.f0).wf = true) ∧ ((Lit.int .i64 x.f1).wf = true)
theorem opn23 : Opn Try.prog 23 k23 V23 := opn_struct Try.underlying23 rfl (by kernel_rfl) (fun x : S23 => (x.f0, x.f1)) (fun y => (⟨y.1, y.2⟩ : S23)) (fun _ => rfl) (opn_cons rfl (by kernel_rfl) (opn_int Try.underlying3) (opn_last rfl (by kernel_rfl) (opn_int Try.underlying2)))
def V25 (x : S25) : Prop := ((Lit.int .i64 x.f0).wf = true) ∧ ((Lit.int .i64 x.f1).wf = true) ∧ (V23 x.f2)
theorem opn25 : Opn Try.prog 25 k25 V25 := opn_struct Try.underlying25 rfl (by kernel_rfl) (fun x : S25 => (x.f0, x.f1, x.f2)) (fun y => (⟨y.1, y.2.1, y.2.2⟩ : S25)) (fun _ => rfl) (opn_cons rfl (by kernel_rfl) (opn_int Try.underlying3) (opn_cons rfl (by kernel_rfl) (opn_int Try.underlying3) (opn_last rfl (by kernel_rfl) opn23)))
end Go.Proofs.Ytejidnmgjccidaa.R
end
section
namespace Go.Proofs.Ytejidnmgjccidaa.R
open Go.RowKit Go.Proofs.YtejidnmgjccidaaW.PrintWords
def plenumlaw13_PriorityPuts.Pure : Prop := ∀ (l0 : List (S25)) (a1 : Int) (x2 : S23), (l0.length * 32 ≤ 140737488351232 ∧ ∀ y ∈ l0, V25 y) → ((Lit.int .i64 a1).wf = true) → (V23 x2) → ∃ k, plenumlaw13_PriorityPuts.f k l0 a1 x2.f0 x2.f1 = some true
end Go.Proofs.Ytejidnmgjccidaa.R
end
section
namespace Go.Proofs.Ytejidnmgjccidaa.R
open Go.RowKit Go.Proofs.YtejidnmgjccidaaW.PrintWords Go.Proofs.YtejidnmgjccidaaW.PrintLast Go.Proofs.YtejidnmgjccidaaW.PrintMore
attribute [local go_sem] max2_int min2_int max_two min_two max_three min_three max_four min_four
set_option linter.unusedVariables false
set_option linter.unusedSimpArgs false
end Go.Proofs.Ytejidnmgjccidaa.R
end
section
namespace Go.Proofs.Ytejidnmgjccidaa.R
open Go.RowKit Go.Proofs.YtejidnmgjccidaaW.PrintWords Go.Proofs.YtejidnmgjccidaaW.PrintLast Go.Proofs.YtejidnmgjccidaaW.PrintMore
attribute [local go_sem] max2_int min2_int max_two min_two max_three min_three max_four min_four
set_option linter.unusedVariables false
set_option linter.unusedSimpArgs false
end Go.Proofs.Ytejidnmgjccidaa.R
end
section
namespace Go.Proofs.Ytejidnmgjccidaa.R
open Go.RowKit Go.Proofs.YtejidnmgjccidaaW.PrintWords Go.Proofs.YtejidnmgjccidaaW.PrintLast Go.Proofs.YtejidnmgjccidaaW.PrintMore
attribute [local go_sem] max2_int min2_int max_two min_two max_three min_three max_four min_four
set_option linter.unusedVariables false
set_option linter.unusedSimpArgs false
end Go.Proofs.Ytejidnmgjccidaa.R
end
section
namespace Go.Proofs.Ytejidnmgjccidaa.R
open Go.RowKit Go.Proofs.YtejidnmgjccidaaW.PrintWords Go.Proofs.YtejidnmgjccidaaW.PrintLast Go.Proofs.YtejidnmgjccidaaW.PrintMore
attribute [local go_sem] max2_int min2_int max_two min_two max_three min_three max_four min_four
set_option linter.unusedVariables false
set_option linter.unusedSimpArgs false
end Go.Proofs.Ytejidnmgjccidaa.R
end
section
namespace Go.Proofs.Ytejidnmgjccidaa.Pure
open Go.RowKit Go.Proofs.Ytejidnmgjccidaa.R Go.Proofs.YtejidnmgjccidaaW.PrintWords Go.Proofs.YtejidnmgjccidaaW.PrintLast Go.Proofs.YtejidnmgjccidaaW.PrintMore
set_option linter.unusedVariables false
theorem w64 {n : Int} (h0 : -9223372036854775808 ≤ n) (h1 : n ≤ 9223372036854775807) : wrap64 n = n := by unfold wrap64; omega
theorem few_eq (l : List S25) : plenumlaw13_few.f l = some (decide ((l.length : Int) ≤ 60)) := rfl
theorem lss_irr (a : S25) : lss a a = false := by unfold lss; simp
theorem lss_false (a b : S25) : lss a b = false ↔ b.f1 < a.f1 ∨ (b.f1 = a.f1 ∧ (b.f2.f0 < a.f2.f0 ∨ (b.f2.f0 = a.f2.f0 ∧ b.f2.f1 ≤ a.f2.f1))) := by
  unfold lss
  split
  · split
    · simp only [decide_eq_false_iff_not]; omega
    · simp only [decide_eq_false_iff_not]; omega
  · simp only [decide_eq_false_iff_not]; omega
theorem lss_true (a b : S25) : lss a b = true ↔ a.f1 < b.f1 ∨ (a.f1 = b.f1 ∧ (a.f2.f0 < b.f2.f0 ∨ (a.f2.f0 = b.f2.f0 ∧ a.f2.f1 < b.f2.f1))) := by
  unfold lss
  split
  · split
    · simp only [decide_eq_true_eq]; omega
    · simp only [decide_eq_true_eq]; omega
  · simp only [decide_eq_true_eq]; omega
theorem lss_trans {a b c : S25} (h1 : lss a b = false) (h2 : lss b c = false) : lss a c = false := by
  rw [lss_false] at *
  omega
theorem lss_of {a b : S25} (h : lss a b = true) : lss b a = false := by
  rw [lss_true] at h
  rw [lss_false]
  omega
theorem chk_seq' {x : S25} (h : chk x = 0) : 1 ≤ x.f1 ∧ x.f1 ≤ 1000000000 := by
  unfold chk at h
  by_cases c : x.f0 < 1 ∨ x.f0 > 16
  · rw [if_pos c] at h; omega
  · rw [if_neg c] at h
    by_cases c2 : x.f1 < 1 ∨ x.f1 > 1000000000
    · rw [if_pos c2] at h; omega
    · omega
structure Best (l : List S25) (n : Nat) (o : Option S25) : Prop where
  top : ∀ x ∈ l, chk x = 0 → x.f0.toNat = n → ∃ y, o = some y ∧ lss y x = false
  mem : ∀ y, o = some y → y ∈ l ∧ chk y = 0 ∧ y.f0.toNat = n
theorem put1_at (t : Tb) (x : S25) (n : Nat) : put1 t x n = if n = x.f0.toNat ∧ chk x = 0 ∧ over (t n) x = true then some x else t n := rfl
theorem best_snoc {l : List S25} {n : Nat} {t : Tb} (h : Best l n (t n)) (x : S25) : Best (l ++ [x]) n (put1 t x n) := by
  rw [put1_at]
  by_cases c : n = x.f0.toNat ∧ chk x = 0 ∧ over (t n) x = true
  · rw [if_pos c]
    refine ⟨fun z hz hv hl => ⟨x, rfl, ?_⟩, fun y e => ?_⟩
    · rcases List.mem_append.1 hz with hz | hz
      · obtain ⟨y, e, hy⟩ := h.top z hz hv hl
        have h3 := c.2.2
        rw [e] at h3
        exact lss_trans (lss_of h3) hy
      · rw [List.mem_singleton.1 hz]
        exact lss_irr x
    · obtain rfl := Option.some.inj e
      exact ⟨by simp, c.2.1, c.1.symm⟩
  · rw [if_neg c]
    refine ⟨fun z hz hv hl => ?_, fun y e => ?_⟩
    · rcases List.mem_append.1 hz with hz | hz
      · exact h.top z hz hv hl
      · rw [List.mem_singleton.1 hz] at hv hl ⊢
        cases e : t n with
        | none => exact absurd ⟨hl.symm, hv, by rw [e]; rfl⟩ c
        | some y =>
          refine ⟨y, rfl, ?_⟩
          cases hq : lss y x with
          | false => rfl
          | true => exact absurd ⟨hl.symm, hv, by rw [e]; exact hq⟩ c
    · obtain ⟨h1, h2⟩ := h.mem y e
      exact ⟨List.mem_append_left _ h1, h2⟩
theorem best_fold (n : Nat) (m : List S25) : ∀ (l : List S25) (t : Tb), Best l n (t n) → Best (l ++ m) n (m.foldl put1 t n) := by
  induction m with
  | nil => intro l t h; simpa using h
  | cons x m ih =>
    intro l t h
    have := ih (l ++ [x]) (put1 t x) (best_snoc h x)
    simpa using this
theorem best_tab (l : List S25) (n : Nat) : Best l n (tabOf l n) := by
  have := best_fold n l [] (fun _ => none) ⟨fun _ h => by simp at h, fun _ h => by cases h⟩
  simpa [tabOf] using this
theorem list_len (t : Tb) : (listOf t).length ≤ 17 := by
  have := List.length_filterMap_le t (List.range 17)
  simpa [listOf] using this
theorem refChk (k : Nat) (x : S25) : plenumref13_Check.f (k + 2) x.f0 x.f1 x.f2.f0 x.f2.f1 = some (chk x) := by
  have hp : plenumref13_Possible.f x.f2.f0 x.f2.f1 = some (possB x.f2.f0 x.f2.f1) := poss_eq x.f2.f0 x.f2.f1
  unfold plenumref13_Check.f chk
  by_cases h1 : x.f0 < 1
  · simp [h1, plenumref13_Check.j0]
  by_cases h2 : x.f0 > 16
  · simp [h1, h2, plenumref13_Check.j0]
  by_cases h3 : x.f1 < 1
  · simp [h1, h2, h3, plenumref13_Check.j0, plenumref13_Check.j1]
  by_cases h4 : x.f1 > 1000000000
  · simp [h1, h2, h3, h4, plenumref13_Check.j0, plenumref13_Check.j1]
  · simp only [h1, h2, h3, h4, plenumref13_Check.j0, plenumref13_Check.j1, hp, Option.bind_some, if_false, if_true, decide_false, Bool.false_eq_true, or_self]
    cases possB x.f2.f0 x.f2.f1 <;> rfl
theorem refLess (a b : S25) : plenumref13_less.f a.f0 a.f1 a.f2.f0 a.f2.f1 b.f0 b.f1 b.f2.f0 b.f2.f1 = some (lss a b) := by
  unfold plenumref13_less.f lss
  split <;> (try split) <;> rfl
def bst (o : Option S25) : S25 := o.getD z25
def atR (o : Option S25) : Int × Int × Int × Int × Bool := ((bst o).f0, (bst o).f1, (bst o).f2.f0, (bst o).f2.f1, o.isSome)
theorem at_loop (l : List S25) (n : Nat) (hl : l.length ≤ 1000) : ∀ (d i k : Nat), i + d = l.length → plenumref13_at.l0 (k + d + 3) l (n : Int) (tabOf (l.take i) n).isSome (i : Int) (bst (tabOf (l.take i) n)).f0 (bst (tabOf (l.take i) n)).f1 (bst (tabOf (l.take i) n)).f2.f0 (bst (tabOf (l.take i) n)).f2.f1 = some (atR (tabOf l n)) := by
  intro d
  induction d with
  | zero =>
    intro i k hi
    obtain rfl : i = l.length := by omega
    rw [List.take_length, show k + 0 + 3 = (k + 2) + 1 by omega, plenumref13_at.l0, if_neg (by omega)]
    rfl
  | succ d ih =>
    intro i k hi
    have hlt : i < l.length := by omega
    have hw : wrap64 ((i : Int) + 1) = ((i + 1 : Nat) : Int) := by rw [w64 (by omega) (by omega)]; omega
    have hT := congrFun (tab_take l i hlt) n
    have ih' := ih (i + 1) k (by omega)
    rw [hT, put1_at] at ih'
    rw [show k + (d + 1) + 3 = (k + d + 3) + 1 by omega, plenumref13_at.l0, if_pos (by omega), if_pos (by omega), hw]
    generalize rd_T25 l (i : Int) = x at *
    generalize hO : tabOf (l.take i) n = o at *
    by_cases c1 : x.f0 = (n : Int)
    · rw [if_pos c1, show k + d + 3 = (k + d + 1) + 2 by omega, refChk, Option.bind_some]
      by_cases c2 : chk x = 0
      · rw [if_pos c2]
        cases o with
        | none =>
          rw [if_pos ⟨by omega, c2, rfl⟩] at ih'
          rw [if_neg (by simp)]
          exact ih'
        | some y =>
          rw [if_pos (by rfl)]
          have e : plenumref13_less.f (bst (some y)).f0 (bst (some y)).f1 (bst (some y)).f2.f0 (bst (some y)).f2.f1 x.f0 x.f1 x.f2.f0 x.f2.f1 = some (lss y x) := refLess y x
          rw [e, Option.bind_some]
          cases hq : lss y x with
          | true =>
            rw [if_pos ⟨by omega, c2, hq⟩] at ih'
            rw [if_pos rfl]
            exact ih'
          | false =>
            rw [if_neg (fun h => by have := h.2.2; rw [show over (some y) x = lss y x from rfl, hq] at this; cases this)] at ih'
            rw [if_neg (by decide)]
            exact ih'
      · rw [if_neg (fun h => c2 h.2.1)] at ih'
        rw [if_neg c2]
        exact ih'
    · rw [if_neg c1]
      rw [if_neg (fun h => c1 (by have := chk_range h.2.1; omega))] at ih'
      exact ih'
theorem at_eq (l : List S25) (n : Nat) (hl : l.length ≤ 1000) (k : Nat) (hk : l.length + 3 ≤ k) : plenumref13_at.f k l (n : Int) = some (atR (tabOf l n)) := by
  have := at_loop l n hl l.length 0 (k - l.length - 3) (by omega)
  rw [show k - l.length - 3 + l.length + 3 = k by omega] at this
  exact this
theorem drop_range (n : Nat) (hn : n < 17) : (List.range 17).drop n = n :: (List.range 17).drop (n + 1) := by
  rw [List.drop_eq_getElem_cons (by simpa using hn)]
  simp
theorem tab_fields {l : List S25} {n : Nat} {x : S25} (h : tabOf l n = some x) : x.f0.toNat = n ∧ chk x = 0 := by
  have := (best_tab l n).mem x h
  exact ⟨this.2.2, this.2.1⟩
theorem of_loop (l : List S25) (hl : l.length ≤ 1000) : ∀ (d n k : Nat) (acc : List S25), n + d = 17 → acc.length ≤ n → l.length + 4 ≤ k → plenumref13_Of.l0 (k + d) l acc (n : Int) = some (acc ++ ((List.range 17).drop n).filterMap (tabOf l)) := by
  intro d
  induction d with
  | zero =>
    intro n k acc hn ha hk
    obtain rfl : n = 17 := by omega
    obtain ⟨k, rfl⟩ : ∃ m, k = m + 1 := ⟨k - 1, by omega⟩
    rw [show k + 1 + 0 = k + 1 by omega, plenumref13_Of.l0, if_neg (by omega), show (List.range 17).drop 17 = [] from rfl]
    simp
  | succ d ih =>
    intro n k acc hn ha hk
    rw [show k + (d + 1) = (k + d) + 1 by omega, plenumref13_Of.l0, if_pos (by omega), at_eq l n hl _ (by omega), Option.bind_some, w64 (by omega) (by omega), drop_range n (by omega), List.filterMap_cons]
    cases e : tabOf l n with
    | none =>
      rw [if_neg (by simp [atR])]
      exact ih (n + 1) k acc (by omega) (by omega) hk
    | some x =>
      rw [if_pos (by rfl), if_pos (by omega)]
      have := ih (n + 1) k (acc ++ [x]) (by omega) (by simp; omega) hk
      simp only [List.append_assoc, List.singleton_append] at this
      exact this
theorem list_drop1 (l : List S25) : ((List.range 17).drop 1).filterMap (tabOf l) = listOf (tabOf l) := by
  unfold listOf
  have h0 : tabOf l 0 = none := by
    cases e : tabOf l 0 with
    | none => rfl
    | some x =>
      obtain ⟨h1, h2⟩ := tab_fields e
      have := chk_range h2
      omega
  have e := drop_range 0 (by omega)
  rw [List.drop_zero] at e
  conv => rhs; rw [e, List.filterMap_cons, h0]
theorem refOf (l : List S25) (hl : l.length ≤ 1000) (k : Nat) (hk : l.length + 20 ≤ k) : plenumref13_Of.f k l = some (listOf (tabOf l)) := by
  have := of_loop l hl 16 1 (k - 16) [] (by omega) (by simp) (by omega)
  rw [show k - 16 + 16 = k by omega] at this
  rw [← list_drop1]
  exact this
theorem refJoin (a b : List S25) (hl : (a ++ b).length ≤ 1000) (k : Nat) (hk : (a ++ b).length + 20 ≤ k) : plenumref13_Join.f k a b = some (listOf (tabOf (a ++ b))) := by
  have h2 := hl
  rw [List.length_append] at h2
  unfold plenumref13_Join.f
  rw [Option.bind_some, if_pos (by simp; omega), Option.bind_some, if_pos (by simp; omega), List.nil_append, refOf _ hl k hk, Option.bind_some]
theorem same_loop (l : List S25) (hl : l.length ≤ 1000) : ∀ (d i k : Nat), i + d = l.length → d < k → plenumref13_Same.l0 k l l (i : Int) = some true := by
  intro d
  induction d with
  | zero =>
    intro i k hi hk
    obtain ⟨k, rfl⟩ : ∃ m, k = m + 1 := ⟨k - 1, by omega⟩
    rw [plenumref13_Same.l0, if_neg (by omega)]
  | succ d ih =>
    intro i k hi hk
    obtain ⟨k, rfl⟩ : ∃ m, k = m + 1 := ⟨k - 1, by omega⟩
    rw [plenumref13_Same.l0, if_pos (by omega), if_pos (by omega), if_pos (by omega), if_neg (by simp), w64 (by omega) (by omega)]
    exact ih (i + 1) k (by omega) (by omega)
theorem same_eq (l : List S25) (hl : l.length ≤ 1000) (k : Nat) (hk : l.length < k) : plenumref13_Same.f k l l = some true := by
  unfold plenumref13_Same.f
  rw [if_pos rfl]
  exact same_loop l hl l.length 0 k (by omega) hk
theorem over_new {l : List S25} {n : Nat} {a b : Int} : over (tabOf l n) ⟨(n : Int), seqOf (tabOf l n) + 1, ⟨a, b⟩⟩ = true := by
  cases tabOf l n with
  | none => rfl
  | some x =>
    show lss x _ = true
    rw [lss_true]
    left
    show x.f1 < x.f1 + 1
    omega
theorem tab_put {l : List S25} {n : Nat} {a b : Int} (hn : 1 ≤ n ∧ n ≤ 16) (hs : seqOf (tabOf l n) + 1 ≤ 1000000000) (hp : possB a b = true) : tabOf (l ++ [⟨(n : Int), seqOf (tabOf l n) + 1, ⟨a, b⟩⟩]) = fun m => if m = n then some ⟨(n : Int), seqOf (tabOf l n) + 1, ⟨a, b⟩⟩ else tabOf l m := by
  have h0 : 0 ≤ seqOf (tabOf l n) := by
    cases e : tabOf l n with
    | none => exact Int.le_refl 0
    | some x =>
      have := chk_seq' (tab_fields e).2
      show 0 ≤ x.f1
      omega
  unfold tabOf at *
  rw [List.foldl_append]
  funext m
  have ho := over_new (l := l) (n := n) (a := a) (b := b)
  unfold tabOf at ho
  generalize List.foldl put1 (fun _ => none) l = t at *
  show put1 t _ m = _
  rw [put1_at]
  have hc : chk ⟨(n : Int), seqOf (t n) + 1, ⟨a, b⟩⟩ = 0 := by
    unfold chk
    rw [if_neg (by simp only; omega), if_neg (by simp only; omega), if_pos hp]
  by_cases e : m = n
  · subst e
    rw [if_pos ⟨by simp, hc, ho⟩, if_pos rfl]
  · rw [if_neg (fun h => e (by have := h.1; simpa using this)), if_neg e]
end Go.Proofs.Ytejidnmgjccidaa.Pure
end
section
namespace Go.Proofs.Ytejidnmgjccidaa.Pure
open Go.RowKit Go.Proofs.Ytejidnmgjccidaa.R Go.Proofs.YtejidnmgjccidaaW.PrintWords Go.Proofs.YtejidnmgjccidaaW.PrintLast Go.Proofs.YtejidnmgjccidaaW.PrintMore
set_option maxRecDepth 100000 in
theorem awake_60 : plenumlaw13_awake.f 60 = some true := by decide +kernel
theorem awake_eq (k : Nat) (hk : 60 ≤ k) : plenumlaw13_awake.f k = some true := by
  obtain ⟨k, rfl⟩ : ∃ m, k = m + 60 := ⟨k - 60, by omega⟩
  clear hk
  induction k with
  | zero => exact awake_60
  | succ k ih =>
    have := plenumlaw13_awake.mono (k + 60)
    rw [show k + 1 + 60 = k + 60 + 1 by omega]
    exact this _ ih
end Go.Proofs.Ytejidnmgjccidaa.Pure
end
section
namespace Go.Proofs.Ytejidnmgjccidaa.Pure
open Go.RowKit Go.Proofs.Ytejidnmgjccidaa.R Go.Proofs.YtejidnmgjccidaaW.PrintWords Go.Proofs.YtejidnmgjccidaaW.PrintLast Go.Proofs.YtejidnmgjccidaaW.PrintMore
set_option linter.unusedVariables false
theorem put_both (l : List S25) (n a b : Int) (hl : l.length ≤ 60) : ∃ r : List S25 × Int, r.1.length ≤ 17 ∧ priority_Put.f l n a b = some r ∧ plenumref13_Put.f 1000 l n a b = some r := by
  have hok : okLen l := show l.length ≤ 1000 by omega
  unfold priority_Put.f plenumref13_Put.f
  by_cases c1 : n < 1 ∨ n > 16
  · refine ⟨([], 1), by simp, by rw [if_pos hok, if_pos c1], ?_⟩
    have e : plenumref13_Put.j0 1000 l n true a b = some ([], 1) := by
      rw [show (1000 : Nat) = 999 + 1 from rfl, plenumref13_Put.j0, if_pos rfl]
    by_cases c : n < 1
    · rw [if_pos c]
      exact e
    · rw [if_neg c, decide_eq_true (show n > 16 by omega)]
      exact e
  · rw [if_pos hok, if_neg c1, if_neg (show ¬ n < 1 by omega), decide_eq_false (show ¬ n > 16 by omega), show (1000 : Nat) = 999 + 1 from rfl, plenumref13_Put.j0, if_neg (show ¬ (false = true) by decide), show plenumref13_Possible.f a b = some (possB a b) from poss_eq a b, Option.bind_some]
    cases hp : possB a b with
    | false => exact ⟨([], 11), by simp, by rw [if_pos rfl], by rw [if_neg (by decide)]⟩
    | true =>
      obtain ⟨m, rfl⟩ := Int.eq_ofNat_of_zero_le (show 0 ≤ n by omega)
      rw [if_neg (show ¬ (true = false) by decide), if_pos rfl, at_eq l m (by omega) _ (by omega), Option.bind_some, show ((m : Int)).toNat = m from rfl]
      have hs : (atR (tabOf l m)).2.1 = seqOf (tabOf l m) := by cases tabOf l m <;> rfl
      have hb : seqOf (tabOf l m) ≤ 1000000000 ∧ 0 ≤ seqOf (tabOf l m) := by
        cases e : tabOf l m with
        | none => exact ⟨by decide, by decide⟩
        | some y => have := chk_seq' (tab_fields e).2; exact ⟨this.2, by show 0 ≤ y.f1; omega⟩
      rw [hs]
      by_cases c2 : seqOf (tabOf l m) = 1000000000
      · exact ⟨([], 7), by simp, by rw [if_pos (by omega)], by rw [if_pos c2]⟩
      · refine ⟨(listOf (fun i => if i = m then some ⟨(m : Int), seqOf (tabOf l m) + 1, ⟨a, b⟩⟩ else tabOf l i), 0), list_len (fun i => if i = m then some ⟨(m : Int), seqOf (tabOf l m) + 1, ⟨a, b⟩⟩ else tabOf l i), by rw [if_neg (by omega)], ?_⟩
        rw [if_neg c2, w64 (by omega) (by omega), refJoin _ _ (by simp; omega) _ (by simp; omega), Option.bind_some, tab_put ⟨by omega, by omega⟩ (by omega) hp]
theorem PriorityPuts : plenumlaw13_PriorityPuts.Pure := by
  intro l n x hl hn hx
  refine ⟨1000, ?_⟩
  unfold plenumlaw13_PriorityPuts.f
  rw [awake_eq _ (by omega), Option.bind_some, if_pos rfl, few_eq, Option.bind_some]
  by_cases cf : (l.length : Int) ≤ 60
  · obtain ⟨r, h1, h2, h3⟩ := put_both l n x.f0 x.f1 (by omega)
    rw [if_pos (decide_eq_true cf), h2, Option.bind_some, h3, Option.bind_some, if_pos rfl, same_eq _ (by omega) _ (by omega), Option.bind_some]
  · rw [if_neg (by simpa using cf)]
end Go.Proofs.Ytejidnmgjccidaa.Pure
end
section
namespace Go.Proofs.Ytejidnmgjccidaa.priorityPuts
open Go.ChangeShapes Go.WideShapes Go.ChangeAt Go.RowKit
open Go.ChangeMaps (open_string shut_string)
open Go.Proofs.Ytejidnmgjccidaa.Opn Go.Proofs.YtejidnmgjccidaaW.PrintWords Go.Proofs.Ytejidnmgjccidaa.R
set_option linter.unusedVariables false
theorem own : ownKnob Try.prog.godebug = none := by kernel_rfl
theorem laidOut : laidOutB Try.prog = true := by kernel_rfl
set_option maxHeartbeats 2000000 in
set_option maxRecDepth 100000 in
theorem lifted (os : Os) (started : os.Started) (H : Type) (enc : TypeId × Value → H) :
    ReturnsInHanded {} Try.checked os 5 .any (Rows.priorityPutsSpec.pre6 enc Try.prog Try.f5 Rows.priorityPutsRow.domain false) (Rows.priorityPutsSpec.post enc Try.prog Try.f5 false true false false) := by
  refine returnsInHanded_of_change_sized (C := Try.checked) own started (by kernel_rfl) Try.func5
    (ChangeSpec.witness6 (enc := enc) (C := Try.checked) false ⟨#[], #[.slice none 0 0, .int .i64 0, (.agg #[(.int .i64 0), (.int .i64 0)])], []⟩ 8 (by kernel_rfl) (by kernel_rfl) (by kernel_rfl) (by kernel_rfl)) ?_
  intro W base args ds gs before hval0 hW hcnd hsz0 _
  have hsz : (DataW.weightsEach Try.prog (Try.f5.params.toList ++ Rows.priorityPutsSpec.plain.varTypes Try.prog) (ds ++ gs)).all (· ≤ reachBytes) = true := hsz0
  have hval : ∀ (j : Nat) t v, Try.f5.params[j]? = some t → args[j]? = some v → Value.okWide Try.prog W .any base t v := hval0
  have hW' := hW
  obtain ⟨p, q, hA0, hV, rfl, hfz, hnd⟩ := hW
  have hA : DataW.TrodAll enc Try.prog W 0 (fun _ => true) true Try.f5.params.toList args.toList ds p := hA0
  rw [Try.params5] at hA hval hsz
  obtain ⟨v0, vs0, d0, ds0, p0, q0, hargs, rfl, rfl, h0, r0⟩ := trodAll_cons hA
  obtain ⟨v1, vs1, d1, ds1, p1, q1, rfl, rfl, rfl, h1, r1⟩ := trodAll_cons r0
  obtain ⟨v2, vs2, d2, ds2, p2, q2, rfl, rfl, rfl, h2, r2⟩ := trodAll_cons r1
  obtain ⟨rfl, rfl, rfl⟩ := trodAll_nil r2
  obtain rfl : args = #[v0, v1, v2] := by cases args; simp_all
  obtain ⟨rfl, rfl⟩ := trodVars_none hV
  have k0 := h0
  have lt0 : ∀ x ∈ p0, x.block < W.heap.size := by obtain ⟨m, hm⟩ := k0; exact DataW.trod_lt m _ _ _ hm
  obtain ⟨b0, len0, cap0, hb0⟩ := okWide_slice Try.underlying26 (hval 0 26 v0 rfl rfl)
  obtain ⟨A0, c0, l0, hv0, hc0, hr0, hV0⟩ := arg_slice (opn_slice (B := 32) Try.underlying26 (by kernel_rfl) (by kernel_rfl) opn25) b0 len0 cap0 hb0 h0 (arg_weights hsz (j := 0) (t := 26) rfl rfl)
  clear hb0
  subst hv0
  obtain ⟨a1, rfl, rfl, rfl, w1⟩ := open_int Try.underlying3 (hval 1 3 v1 rfl rfl) h1
  have k2 := h2
  have lt2 : ∀ x ∈ p2, x.block < W.heap.size := by obtain ⟨m, hm⟩ := k2; exact DataW.trod_lt m _ _ _ hm
  obtain ⟨cs2, hcs2, _⟩ := okWide_struct Try.underlying23 (hval 2 23 v2 rfl rfl)
  obtain ⟨x2, ⟨l2, hv2, hK2⟩, hV2⟩ := arg_struct opn23 cs2 hcs2 h2 (arg_weights hsz (j := 2) (t := 23) rfl rfl)
  obtain rfl := k23_open hK2
  clear hcs2
  subst hv2
  clear hA0 hval0 hsz0 hsz
  obtain ⟨k, h⟩ := Pure.PriorityPuts l0 a1 x2 hV0 w1 hV2
  refine (R.plenumlaw13_PriorityPuts.calls k A0 c0 l0 a1 x2.f0 x2.f1 true W hr0 hc0 h).mono fun e W' ⟨he, bel0⟩ => ?_
  have bel : Below W.heap.size W W' := bel0
  subst he
  exact ⟨_, rfl, _, _, _, [], _, [], hW', trodAll_mk1 (shut_bool Try.underlying4 _), (trodAll_cons_mk (Below.trod laidOut (by kernel_rfl) (of_decide_eq_true (by kernel_rfl)) k0 bel lt0) (trodAll_cons_mk (shut_int Try.underlying3 w1) (trodAll_cons_mk (Below.trod laidOut (by kernel_rfl) (of_decide_eq_true (by kernel_rfl)) k2 bel lt2) trodAll_mk0))), rfl, bel.frame _, fun h => by cases h⟩
theorem over : Rows.priorityPutsRow.holds Try.pinned (OpenSpec.ofChange Rows.priorityPutsSpec) :=
  OpenClaim.holds_of_wide 5 Try.f5 rfl rfl rfl rfl rfl rfl rfl ⟨rfl, rfl, rfl, rfl, rfl⟩ rfl rfl rfl rfl rfl (by kernel_rfl) Try.func5 (by kernel_rfl)
    (of_decide_eq_true (by kernel_rfl)) (by unfold Func.isWrapper; first | (rw [if_pos (by decide +kernel)]; kernel_rfl) | (rw [if_neg (by decide +kernel)]; exact ⟨rfl, rfl⟩))
    (fun os started H enc _ => lifted os started H enc)
theorem proved : Rows.PriorityPutsSaid := over
#print axioms proved
end Go.Proofs.Ytejidnmgjccidaa.priorityPuts
namespace Go.Proofs.Ytejidnmgjccidaa
theorem priorityPuts_holds : Rows.PriorityPutsSaid := priorityPuts.proved
end Go.Proofs.Ytejidnmgjccidaa
end
