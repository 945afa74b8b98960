/- TrendRingCard: one part of the proof that the law answers true for every input, and that its arguments read afterwards as before. No condition. -/
import Derived.Test.YtbccjcdmpiolpaaDoorCRing5
import Derived.Outline
import Derived.Deep.OwnRows
section
namespace Go.Proofs.YtbccjcdmpiolpaaDoor.T
open Go.RowKit Go.Proofs.YtbccjcdmpiolpaaDoorW.PrintWords Go.Proofs.YtbccjcdmpiolpaaDoorW.PrintLast Go.Proofs.YtbccjcdmpiolpaaDoorW.PrintMore
attribute [local go_sem] max2_int min2_int max_two min_two max_three min_three max_four min_four
set_option linter.unusedVariables false
set_option linter.unusedSimpArgs false
mutual
def trend_Check.j0 : Nat → Bool → Bool → ByteArray → ByteArray → Int → Int → Int → Int → ByteArray → Int → Int → ByteArray → Int → Int → Int → List ByteArray → Int → Int → Int → Int → Option (Int)
 | 0, _, _, _, _, _, _, _, _, _, _, _, _, _, _, _, _, _, _, _, _ => none
 | k + 1, x5, x6, x110000, x110001, x110002, x110003, x110004, x110005, x111000, x111001, x111002, x111003, x111004, x111005, x111006, x111007, x111008, x111009, x111010, x111011 => (lexer_Name.f x110000).bind fun t111 => (if t111 = true then (if x110001.toList = x111000.toList then (if x110002 = 1 then (trend_Check.j1 k x5 x6 false x110000 x110001 x110002 x110003 x110004 x110005) else (if x110002 = 2 then (trend_Check.j1 k x5 x6 false x110000 x110001 x110002 x110003 x110004 x110005) else (trend_Check.j1 k x5 x6 (x110002 != 3) x110000 x110001 x110002 x110003 x110004 x110005))) else (some 3)) else (some 4))
def trend_Check.j1 : Nat → Bool → Bool → Bool → ByteArray → ByteArray → Int → Int → Int → Int → Option (Int)
 | 0, _, _, _, _, _, _, _, _, _ => none
 | k + 1, x5, x6, x49, x110000, x110001, x110002, x110003, x110004, x110005 => if x49 = true then (some 1) else (if x110005 < 1 then (some 6) else (if x110005 > 1024 then (some 6) else (if x5 = true then (if x6 = true then (some 0) else (some 6)) else (some 6))))
end
def trend_Check.f (k : Nat) (a0_0 : ByteArray) (a0_1 : ByteArray) (a0_2 : Int) (a0_3 : Int) (a0_4 : Int) (a0_5 : Int) (a1_0 : ByteArray) (a1_1 : Int) (a1_2 : Int) (a1_3 : ByteArray) (a1_4 : Int) (a1_5 : Int) (a1_6 : Int) (l1_7 : List ByteArray) (a1_8 : Int) (a1_9 : Int) (a1_10 : Int) (a1_11 : Int) : Option (Int) := if a0_2 = 1 then (if a0_3 ≥ 1 then (trend_Check.j0 k (decide (a0_3 ≤ 86400)) (a0_4 == 0) a0_0 a0_1 a0_2 a0_3 a0_4 a0_5 a1_0 a1_1 a1_2 a1_3 a1_4 a1_5 a1_6 l1_7 a1_8 a1_9 a1_10 a1_11) else (trend_Check.j0 k false (a0_4 == 0) a0_0 a0_1 a0_2 a0_3 a0_4 a0_5 a1_0 a1_1 a1_2 a1_3 a1_4 a1_5 a1_6 l1_7 a1_8 a1_9 a1_10 a1_11)) else (if a0_2 = 2 then (if a1_1 = 1 then (if a0_4 ≥ 1 then (trend_Check.j0 k (a0_3 == 0) (decide (a0_4 ≤ 1000000000000)) a0_0 a0_1 a0_2 a0_3 a0_4 a0_5 a1_0 a1_1 a1_2 a1_3 a1_4 a1_5 a1_6 l1_7 a1_8 a1_9 a1_10 a1_11) else (trend_Check.j0 k (a0_3 == 0) false a0_0 a0_1 a0_2 a0_3 a0_4 a0_5 a1_0 a1_1 a1_2 a1_3 a1_4 a1_5 a1_6 l1_7 a1_8 a1_9 a1_10 a1_11)) else (trend_Check.j0 k (a0_3 == 0) (a0_4 == 0) a0_0 a0_1 a0_2 a0_3 a0_4 a0_5 a1_0 a1_1 a1_2 a1_3 a1_4 a1_5 a1_6 l1_7 a1_8 a1_9 a1_10 a1_11)) else (trend_Check.j0 k (a0_3 == 0) (a0_4 == 0) a0_0 a0_1 a0_2 a0_3 a0_4 a0_5 a1_0 a1_1 a1_2 a1_3 a1_4 a1_5 a1_6 l1_7 a1_8 a1_9 a1_10 a1_11))
set_option maxHeartbeats 8000000 in
set_option maxRecDepth 100000 in
theorem trend_Check.calls (k : Nat) (a0_0 : ByteArray) (a0_1 : ByteArray) (a0_2 : Int) (a0_3 : Int) (a0_4 : Int) (a0_5 : Int) (a1_0 : ByteArray) (a1_1 : Int) (a1_2 : Int) (a1_3 : ByteArray) (a1_4 : Int) (a1_5 : Int) (a1_6 : Int) (A1_7 : Option Addr) (c1_7 : Nat) (l1_7 : List ByteArray) (a1_8 : Int) (a1_9 : Int) (a1_10 : Int) (a1_11 : Int) (r : Int) (w : World) (hG : Glob w) (hr1_7 : Kd.C Kd.string w A1_7 l1_7.length l1_7) (hc1_7 : l1_7.length ≤ c1_7) (h : trend_Check.f k a0_0 a0_1 a0_2 a0_3 a0_4 a0_5 a1_0 a1_1 a1_2 a1_3 a1_4 a1_5 a1_6 l1_7 a1_8 a1_9 a1_10 a1_11 = some r) :
  Calls Tryd.prog 17 #[.agg #[.string a0_0, .string a0_1, .int .i64 a0_2, .int .i64 a0_3, .int .i64 a0_4, .int .i64 a0_5], .agg #[.string a1_0, .int .i64 a1_1, .int .i64 a1_2, .string a1_3, .int .i64 a1_4, .int .i64 a1_5, .int .i64 a1_6, .slice A1_7 l1_7.length c1_7, .int .i64 a1_8, .int .i64 a1_9, .int .i64 a1_10, .int .i64 a1_11]] w fun e w' => e = .returned (.int .i64 r) ∧ Below w.heap.size w w' := by
 have hu23 := Tryd.underlying23
 have hu51 := Tryd.underlying51
 have HG := Aside0.mk hG
 clear hG
 have HR1_7 := Aside0.mk hr1_7
 have HC1_7 := Aside0.mk hc1_7
 clear hr1_7 hc1_7
 have HB := Aside0.mk (Below.refl w.heap.size w)
 have H : (if a0_2 = 1 then (if a0_3 ≥ 1 then (trend_Check.j0 k (decide (a0_3 ≤ 86400)) (a0_4 == 0) a0_0 a0_1 a0_2 a0_3 a0_4 a0_5 a1_0 a1_1 a1_2 a1_3 a1_4 a1_5 a1_6 l1_7 a1_8 a1_9 a1_10 a1_11) else (trend_Check.j0 k false (a0_4 == 0) a0_0 a0_1 a0_2 a0_3 a0_4 a0_5 a1_0 a1_1 a1_2 a1_3 a1_4 a1_5 a1_6 l1_7 a1_8 a1_9 a1_10 a1_11)) else (if a0_2 = 2 then (if a1_1 = 1 then (if a0_4 ≥ 1 then (trend_Check.j0 k (a0_3 == 0) (decide (a0_4 ≤ 1000000000000)) a0_0 a0_1 a0_2 a0_3 a0_4 a0_5 a1_0 a1_1 a1_2 a1_3 a1_4 a1_5 a1_6 l1_7 a1_8 a1_9 a1_10 a1_11) else (trend_Check.j0 k (a0_3 == 0) false a0_0 a0_1 a0_2 a0_3 a0_4 a0_5 a1_0 a1_1 a1_2 a1_3 a1_4 a1_5 a1_6 l1_7 a1_8 a1_9 a1_10 a1_11)) else (trend_Check.j0 k (a0_3 == 0) (a0_4 == 0) a0_0 a0_1 a0_2 a0_3 a0_4 a0_5 a1_0 a1_1 a1_2 a1_3 a1_4 a1_5 a1_6 l1_7 a1_8 a1_9 a1_10 a1_11)) else (trend_Check.j0 k (a0_3 == 0) (a0_4 == 0) a0_0 a0_1 a0_2 a0_3 a0_4 a0_5 a1_0 a1_1 a1_2 a1_3 a1_4 a1_5 a1_6 l1_7 a1_8 a1_9 a1_10 a1_11))) = some r := h
 clear h
 have HC3 := Aside0.mk H
 clear H
 go_enter Tryd.func17, Tryd.ntmps17
 go_upto_block 0 with (first | ((with_reducible refine gate_dst (N := 2) rfl ?_); refine box_event ?hg (N := 2) ?hd (cs := #[.string a0_0, .string a0_1, .int .i64 a0_2, .int .i64 a0_3, .int .i64 a0_4, .int .i64 a0_5]) (t := 23) ?hr ?_; (case hd => rfl); (case hg => rfl); (case hr => first | (go_simp; done) | (go_simp; rfl)); intro gb109 hg w4 hbox hb; have n0_ := Aside0.mk (below_step (by repeat (first | (with_reducible first | exact HB.out | apply below_alloc | apply pw_below_drewN | apply below_drew1) | exact HB.out)) hb); have n1_ := Aside0.mk (hbox); have n2_ := Aside0.mk ((by rw [hg]; exact (below_size (by repeat (first | (with_reducible first | exact HB.out | apply below_alloc | apply pw_below_drewN | apply below_drew1) | exact HB.out))) : w.heap.size ≤ gb109)); have n3_ := Aside0.mk ((by rw [hg]; exact (below_size (by repeat (first | (with_reducible first | exact HB.out | apply below_alloc | apply pw_below_drewN | apply below_drew1) | exact HB.out))) : w.heap.size ≤ gb109)); clear HB; have HB := n0_; have BK109 := n1_; have GW109 := n2_; have GE109 := n3_; clear n0_ n1_ n2_ n3_; clear hb hbox hg) | ((with_reducible refine gate_dst (N := 3) rfl ?_); refine box_event ?hg (N := 3) ?hd (cs := #[.string a1_0, .int .i64 a1_1, .int .i64 a1_2, .string a1_3, .int .i64 a1_4, .int .i64 a1_5, .int .i64 a1_6, .slice A1_7 l1_7.length c1_7, .int .i64 a1_8, .int .i64 a1_9, .int .i64 a1_10, .int .i64 a1_11]) (t := 51) ?hr ?_; (case hd => rfl); (case hg => rfl); (case hr => first | (go_simp; done) | (go_simp; rfl)); intro gb110 hg w5 hbox hb; have n0_ := Aside0.mk (blk_below (g := gb109) (o := .cells #[.string a0_0, .string a0_1, .int .i64 a0_2, .int .i64 a0_3, .int .i64 a0_4, .int .i64 a0_5] 23 (0, 0)) (by (with_reducible repeat (first | refine blk_drewN ?_ _ | refine blk_drew ?_ | refine blk_alloc ?_ _)); exact BK109.out) hb); have n1_ := Aside0.mk (below_step (by repeat (first | (with_reducible first | exact HB.out | apply below_alloc | apply pw_below_drewN | apply below_drew1 | refine below_set ?_ GE109.out) | exact HB.out)) hb); have n2_ := Aside0.mk (hbox); have n3_ := Aside0.mk ((by rw [hg]; exact (below_size (by repeat (first | (with_reducible first | exact HB.out | apply below_alloc | apply pw_below_drewN | apply below_drew1 | refine below_set ?_ GE109.out) | exact HB.out))) : w.heap.size ≤ gb110)); have n4_ := Aside0.mk ((by rw [hg]; exact (below_size (by repeat (first | (with_reducible first | exact HB.out | apply below_alloc | apply pw_below_drewN | apply below_drew1 | refine below_set ?_ GE109.out) | exact HB.out))) : w.heap.size ≤ gb110)); have n5_ := Aside0.mk ((by rw [hg]; exact Nat.ne_of_lt (blk_lt (g := gb109) (o := .cells #[.string a0_0, .string a0_1, .int .i64 a0_2, .int .i64 a0_3, .int .i64 a0_4, .int .i64 a0_5] 23 (0, 0)) (by (with_reducible repeat (first | refine blk_drewN ?_ _ | refine blk_drew ?_ | refine blk_alloc ?_ _)); exact BK109.out)) : gb109 ≠ gb110)); have n6_ := Aside0.mk ((by rw [hg]; exact Nat.ne_of_gt (blk_lt (g := gb109) (o := .cells #[.string a0_0, .string a0_1, .int .i64 a0_2, .int .i64 a0_3, .int .i64 a0_4, .int .i64 a0_5] 23 (0, 0)) (by (with_reducible repeat (first | refine blk_drewN ?_ _ | refine blk_drew ?_ | refine blk_alloc ?_ _)); exact BK109.out)) : gb110 ≠ gb109)); clear BK109; clear HB; have BK109 := n0_; have HB := n1_; have BK110 := n2_; have GW110 := n3_; have GE110 := n4_; have NB109_110 := n5_; have NB110_109 := n6_; clear n0_ n1_ n2_ n3_ n4_ n5_ n6_; clear hb hbox hg; have hnb6 := NB109_110.out; have hnc6 := NB110_109.out; have hcz7_0 : w5.cell? ⟨gb109, 0, none⟩ = some (.string a0_0) := (blk_cell BK109.out 0).trans rfl; have hcz7_1 : w5.cell? ⟨gb109, 1, none⟩ = some (.string a0_1) := (blk_cell BK109.out 1).trans rfl; have hcz7_2 : w5.cell? ⟨gb109, 2, none⟩ = some (.int .i64 a0_2) := (blk_cell BK109.out 2).trans rfl; have hcz7_3 : w5.cell? ⟨gb109, 3, none⟩ = some (.int .i64 a0_3) := (blk_cell BK109.out 3).trans rfl; have hcz7_4 : w5.cell? ⟨gb109, 4, none⟩ = some (.int .i64 a0_4) := (blk_cell BK109.out 4).trans rfl; have hcz7_5 : w5.cell? ⟨gb109, 5, none⟩ = some (.int .i64 a0_5) := (blk_cell BK109.out 5).trans rfl))
 repeat (go_quiet (first | ((with_reducible refine gate_dst (N := 2) rfl ?_); refine box_event ?hg (N := 2) ?hd (cs := #[.string a0_0, .string a0_1, .int .i64 a0_2, .int .i64 a0_3, .int .i64 a0_4, .int .i64 a0_5]) (t := 23) ?hr ?_; (case hd => rfl); (case hg => rfl); (case hr => first | (go_simp; done) | (go_simp; rfl)); intro gb109 hg w4 hbox hb; have n0_ := Aside0.mk (below_step (by repeat (first | (with_reducible first | exact HB.out | apply below_alloc | apply pw_below_drewN | apply below_drew1) | exact HB.out)) hb); have n1_ := Aside0.mk (hbox); have n2_ := Aside0.mk ((by rw [hg]; exact (below_size (by repeat (first | (with_reducible first | exact HB.out | apply below_alloc | apply pw_below_drewN | apply below_drew1) | exact HB.out))) : w.heap.size ≤ gb109)); have n3_ := Aside0.mk ((by rw [hg]; exact (below_size (by repeat (first | (with_reducible first | exact HB.out | apply below_alloc | apply pw_below_drewN | apply below_drew1) | exact HB.out))) : w.heap.size ≤ gb109)); clear HB; have HB := n0_; have BK109 := n1_; have GW109 := n2_; have GE109 := n3_; clear n0_ n1_ n2_ n3_; clear hb hbox hg) | ((with_reducible refine gate_dst (N := 3) rfl ?_); refine box_event ?hg (N := 3) ?hd (cs := #[.string a1_0, .int .i64 a1_1, .int .i64 a1_2, .string a1_3, .int .i64 a1_4, .int .i64 a1_5, .int .i64 a1_6, .slice A1_7 l1_7.length c1_7, .int .i64 a1_8, .int .i64 a1_9, .int .i64 a1_10, .int .i64 a1_11]) (t := 51) ?hr ?_; (case hd => rfl); (case hg => rfl); (case hr => first | (go_simp; done) | (go_simp; rfl)); intro gb110 hg w5 hbox hb; have n0_ := Aside0.mk (blk_below (g := gb109) (o := .cells #[.string a0_0, .string a0_1, .int .i64 a0_2, .int .i64 a0_3, .int .i64 a0_4, .int .i64 a0_5] 23 (0, 0)) (by (with_reducible repeat (first | refine blk_drewN ?_ _ | refine blk_drew ?_ | refine blk_alloc ?_ _)); exact BK109.out) hb); have n1_ := Aside0.mk (below_step (by repeat (first | (with_reducible first | exact HB.out | apply below_alloc | apply pw_below_drewN | apply below_drew1 | refine below_set ?_ GE109.out) | exact HB.out)) hb); have n2_ := Aside0.mk (hbox); have n3_ := Aside0.mk ((by rw [hg]; exact (below_size (by repeat (first | (with_reducible first | exact HB.out | apply below_alloc | apply pw_below_drewN | apply below_drew1 | refine below_set ?_ GE109.out) | exact HB.out))) : w.heap.size ≤ gb110)); have n4_ := Aside0.mk ((by rw [hg]; exact (below_size (by repeat (first | (with_reducible first | exact HB.out | apply below_alloc | apply pw_below_drewN | apply below_drew1 | refine below_set ?_ GE109.out) | exact HB.out))) : w.heap.size ≤ gb110)); have n5_ := Aside0.mk ((by rw [hg]; exact Nat.ne_of_lt (blk_lt (g := gb109) (o := .cells #[.string a0_0, .string a0_1, .int .i64 a0_2, .int .i64 a0_3, .int .i64 a0_4, .int .i64 a0_5] 23 (0, 0)) (by (with_reducible repeat (first | refine blk_drewN ?_ _ | refine blk_drew ?_ | refine blk_alloc ?_ _)); exact BK109.out)) : gb109 ≠ gb110)); have n6_ := Aside0.mk ((by rw [hg]; exact Nat.ne_of_gt (blk_lt (g := gb109) (o := .cells #[.string a0_0, .string a0_1, .int .i64 a0_2, .int .i64 a0_3, .int .i64 a0_4, .int .i64 a0_5] 23 (0, 0)) (by (with_reducible repeat (first | refine blk_drewN ?_ _ | refine blk_drew ?_ | refine blk_alloc ?_ _)); exact BK109.out)) : gb110 ≠ gb109)); clear BK109; clear HB; have BK109 := n0_; have HB := n1_; have BK110 := n2_; have GW110 := n3_; have GE110 := n4_; have NB109_110 := n5_; have NB110_109 := n6_; clear n0_ n1_ n2_ n3_ n4_ n5_ n6_; clear hb hbox hg; have hnb6 := NB109_110.out; have hnc6 := NB110_109.out; have hcz7_0 : w5.cell? ⟨gb109, 0, none⟩ = some (.string a0_0) := (blk_cell BK109.out 0).trans rfl; have hcz7_1 : w5.cell? ⟨gb109, 1, none⟩ = some (.string a0_1) := (blk_cell BK109.out 1).trans rfl; have hcz7_2 : w5.cell? ⟨gb109, 2, none⟩ = some (.int .i64 a0_2) := (blk_cell BK109.out 2).trans rfl; have hcz7_3 : w5.cell? ⟨gb109, 3, none⟩ = some (.int .i64 a0_3) := (blk_cell BK109.out 3).trans rfl; have hcz7_4 : w5.cell? ⟨gb109, 4, none⟩ = some (.int .i64 a0_4) := (blk_cell BK109.out 4).trans rfl; have hcz7_5 : w5.cell? ⟨gb109, 5, none⟩ = some (.int .i64 a0_5) := (blk_cell BK109.out 5).trans rfl)); go_upto_block 0 with (first | ((with_reducible refine gate_dst (N := 2) rfl ?_); refine box_event ?hg (N := 2) ?hd (cs := #[.string a0_0, .string a0_1, .int .i64 a0_2, .int .i64 a0_3, .int .i64 a0_4, .int .i64 a0_5]) (t := 23) ?hr ?_; (case hd => rfl); (case hg => rfl); (case hr => first | (go_simp; done) | (go_simp; rfl)); intro gb109 hg w4 hbox hb; have n0_ := Aside0.mk (below_step (by repeat (first | (with_reducible first | exact HB.out | apply below_alloc | apply pw_below_drewN | apply below_drew1) | exact HB.out)) hb); have n1_ := Aside0.mk (hbox); have n2_ := Aside0.mk ((by rw [hg]; exact (below_size (by repeat (first | (with_reducible first | exact HB.out | apply below_alloc | apply pw_below_drewN | apply below_drew1) | exact HB.out))) : w.heap.size ≤ gb109)); have n3_ := Aside0.mk ((by rw [hg]; exact (below_size (by repeat (first | (with_reducible first | exact HB.out | apply below_alloc | apply pw_below_drewN | apply below_drew1) | exact HB.out))) : w.heap.size ≤ gb109)); clear HB; have HB := n0_; have BK109 := n1_; have GW109 := n2_; have GE109 := n3_; clear n0_ n1_ n2_ n3_; clear hb hbox hg) | ((with_reducible refine gate_dst (N := 3) rfl ?_); refine box_event ?hg (N := 3) ?hd (cs := #[.string a1_0, .int .i64 a1_1, .int .i64 a1_2, .string a1_3, .int .i64 a1_4, .int .i64 a1_5, .int .i64 a1_6, .slice A1_7 l1_7.length c1_7, .int .i64 a1_8, .int .i64 a1_9, .int .i64 a1_10, .int .i64 a1_11]) (t := 51) ?hr ?_; (case hd => rfl); (case hg => rfl); (case hr => first | (go_simp; done) | (go_simp; rfl)); intro gb110 hg w5 hbox hb; have n0_ := Aside0.mk (blk_below (g := gb109) (o := .cells #[.string a0_0, .string a0_1, .int .i64 a0_2, .int .i64 a0_3, .int .i64 a0_4, .int .i64 a0_5] 23 (0, 0)) (by (with_reducible repeat (first | refine blk_drewN ?_ _ | refine blk_drew ?_ | refine blk_alloc ?_ _)); exact BK109.out) hb); have n1_ := Aside0.mk (below_step (by repeat (first | (with_reducible first | exact HB.out | apply below_alloc | apply pw_below_drewN | apply below_drew1 | refine below_set ?_ GE109.out) | exact HB.out)) hb); have n2_ := Aside0.mk (hbox); have n3_ := Aside0.mk ((by rw [hg]; exact (below_size (by repeat (first | (with_reducible first | exact HB.out | apply below_alloc | apply pw_below_drewN | apply below_drew1 | refine below_set ?_ GE109.out) | exact HB.out))) : w.heap.size ≤ gb110)); have n4_ := Aside0.mk ((by rw [hg]; exact (below_size (by repeat (first | (with_reducible first | exact HB.out | apply below_alloc | apply pw_below_drewN | apply below_drew1 | refine below_set ?_ GE109.out) | exact HB.out))) : w.heap.size ≤ gb110)); have n5_ := Aside0.mk ((by rw [hg]; exact Nat.ne_of_lt (blk_lt (g := gb109) (o := .cells #[.string a0_0, .string a0_1, .int .i64 a0_2, .int .i64 a0_3, .int .i64 a0_4, .int .i64 a0_5] 23 (0, 0)) (by (with_reducible repeat (first | refine blk_drewN ?_ _ | refine blk_drew ?_ | refine blk_alloc ?_ _)); exact BK109.out)) : gb109 ≠ gb110)); have n6_ := Aside0.mk ((by rw [hg]; exact Nat.ne_of_gt (blk_lt (g := gb109) (o := .cells #[.string a0_0, .string a0_1, .int .i64 a0_2, .int .i64 a0_3, .int .i64 a0_4, .int .i64 a0_5] 23 (0, 0)) (by (with_reducible repeat (first | refine blk_drewN ?_ _ | refine blk_drew ?_ | refine blk_alloc ?_ _)); exact BK109.out)) : gb110 ≠ gb109)); clear BK109; clear HB; have BK109 := n0_; have HB := n1_; have BK110 := n2_; have GW110 := n3_; have GE110 := n4_; have NB109_110 := n5_; have NB110_109 := n6_; clear n0_ n1_ n2_ n3_ n4_ n5_ n6_; clear hb hbox hg; have hnb6 := NB109_110.out; have hnc6 := NB110_109.out; have hcz7_0 : w5.cell? ⟨gb109, 0, none⟩ = some (.string a0_0) := (blk_cell BK109.out 0).trans rfl; have hcz7_1 : w5.cell? ⟨gb109, 1, none⟩ = some (.string a0_1) := (blk_cell BK109.out 1).trans rfl; have hcz7_2 : w5.cell? ⟨gb109, 2, none⟩ = some (.int .i64 a0_2) := (blk_cell BK109.out 2).trans rfl; have hcz7_3 : w5.cell? ⟨gb109, 3, none⟩ = some (.int .i64 a0_3) := (blk_cell BK109.out 3).trans rfl; have hcz7_4 : w5.cell? ⟨gb109, 4, none⟩ = some (.int .i64 a0_4) := (blk_cell BK109.out 4).trans rfl; have hcz7_5 : w5.cell? ⟨gb109, 5, none⟩ = some (.int .i64 a0_5) := (blk_cell BK109.out 5).trans rfl)))
 (try simp only [Act.put, List.setIfInBounds_toArray, List.set_cons_zero, List.set_cons_succ])
 go_cut [5, 6] (fun v5 v6 wc => ∃ (kq : Nat) (x5_2 : Bool) (x6_2 : Bool), v5 = .bool x5_2 ∧ v6 = .bool x6_2 ∧ Aside0 (trend_Check.j0 kq x5_2 x6_2 a0_0 a0_1 a0_2 a0_3 a0_4 a0_5 a1_0 a1_1 a1_2 a1_3 a1_4 a1_5 a1_6 l1_7 a1_8 a1_9 a1_10 a1_11 = some r) ∧ Aside0 (kq ≤ k) ∧ Aside0 (wc.heap[gb109]? = some (.cells #[.string a0_0, .string a0_1, .int .i64 a0_2, .int .i64 a0_3, .int .i64 a0_4, .int .i64 a0_5] 23 (0, 0))) ∧ Aside0 (wc.heap[gb110]? = some (.cells #[.string a1_0, .int .i64 a1_1, .int .i64 a1_2, .string a1_3, .int .i64 a1_4, .int .i64 a1_5, .int .i64 a1_6, (.slice A1_7 l1_7.length c1_7), .int .i64 a1_8, .int .i64 a1_9, .int .i64 a1_10, .int .i64 a1_11] 51 (0, 0))) ∧ Aside0 (Below w.heap.size w wc))
 case first =>
  have H := HC3.out
  clear HC3
  by_cases c8 : a0_2 = 1
  ·rw [if_pos c8] at H
   have c8b0 : (a0_2 == 1) = true := beq_iff_eq.mpr c8
   have c8b1 : (a0_2 != 1) = false := bne_eq_false_iff_eq.mpr c8
   clear c8
   (first | rw [c8b0] | (simp only [i64_w, i32_w]; rw [c8b0]) | skip)
   by_cases c9 : a0_3 ≥ 1
   ·rw [if_pos c9] at H
    have c9b0 : decide (1 ≤ a0_3) = true := decide_eq_true c9
    clear c9
    have H' := Aside0.mk H
    clear H
    have hnb10 := NB109_110.out
    have hnc10 := NB110_109.out
    have hcz11_0 : w5.cell? ⟨gb109, 0, none⟩ = some (.string a0_0) := (blk_cell BK109.out 0).trans rfl
    have hcz11_1 : w5.cell? ⟨gb109, 1, none⟩ = some (.string a0_1) := (blk_cell BK109.out 1).trans rfl
    have hcz11_2 : w5.cell? ⟨gb109, 2, none⟩ = some (.int .i64 a0_2) := (blk_cell BK109.out 2).trans rfl
    have hcz11_3 : w5.cell? ⟨gb109, 3, none⟩ = some (.int .i64 a0_3) := (blk_cell BK109.out 3).trans rfl
    have hcz11_4 : w5.cell? ⟨gb109, 4, none⟩ = some (.int .i64 a0_4) := (blk_cell BK109.out 4).trans rfl
    have hcz11_5 : w5.cell? ⟨gb109, 5, none⟩ = some (.int .i64 a0_5) := (blk_cell BK109.out 5).trans rfl
    go_wp2
    repeat (go_quiet (fail); try go_wp2)
    go_meet
    case rel => exact ⟨_, (decide (a0_3 ≤ 86400)), ((a0_4 == 0)), (by first | rfl | (simp; done) | (simp [*]; done)), (by first | rfl | (simp; done) | (simp [*]; done)), H', ⟨by first | omega | exact Nat.le_refl _⟩, ⟨by (with_reducible repeat (first | refine blk_drewN ?_ _ | refine blk_drew ?_ | refine blk_alloc ?_ _)); exact BK109.out⟩, ⟨by (with_reducible repeat (first | refine blk_drewN ?_ _ | refine blk_drew ?_ | refine blk_alloc ?_ _)); exact BK110.out⟩, ⟨by repeat (first | (with_reducible first | exact HB.out | apply below_alloc | apply pw_below_drewN | apply below_drew1 | refine below_set ?_ GE109.out | refine below_set ?_ GE110.out) | exact HB.out)⟩⟩
   ·rw [if_neg c9] at H
    have c9b0 : decide (1 ≤ a0_3) = false := decide_eq_false c9
    clear c9
    have H' := Aside0.mk H
    clear H
    have hnb12 := NB109_110.out
    have hnc12 := NB110_109.out
    have hcz13_0 : w5.cell? ⟨gb109, 0, none⟩ = some (.string a0_0) := (blk_cell BK109.out 0).trans rfl
    have hcz13_1 : w5.cell? ⟨gb109, 1, none⟩ = some (.string a0_1) := (blk_cell BK109.out 1).trans rfl
    have hcz13_2 : w5.cell? ⟨gb109, 2, none⟩ = some (.int .i64 a0_2) := (blk_cell BK109.out 2).trans rfl
    have hcz13_3 : w5.cell? ⟨gb109, 3, none⟩ = some (.int .i64 a0_3) := (blk_cell BK109.out 3).trans rfl
    have hcz13_4 : w5.cell? ⟨gb109, 4, none⟩ = some (.int .i64 a0_4) := (blk_cell BK109.out 4).trans rfl
    have hcz13_5 : w5.cell? ⟨gb109, 5, none⟩ = some (.int .i64 a0_5) := (blk_cell BK109.out 5).trans rfl
    go_wp2
    repeat (go_quiet (fail); try go_wp2)
    go_meet
    case rel => exact ⟨_, (false), ((a0_4 == 0)), (by first | rfl | (simp; done) | (simp [*]; done)), (by first | rfl | (simp; done) | (simp [*]; done)), H', ⟨by first | omega | exact Nat.le_refl _⟩, ⟨by (with_reducible repeat (first | refine blk_drewN ?_ _ | refine blk_drew ?_ | refine blk_alloc ?_ _)); exact BK109.out⟩, ⟨by (with_reducible repeat (first | refine blk_drewN ?_ _ | refine blk_drew ?_ | refine blk_alloc ?_ _)); exact BK110.out⟩, ⟨by repeat (first | (with_reducible first | exact HB.out | apply below_alloc | apply pw_below_drewN | apply below_drew1 | refine below_set ?_ GE109.out | refine below_set ?_ GE110.out) | exact HB.out)⟩⟩
  ·rw [if_neg c8] at H
   have c8b0 : (a0_2 == 1) = false := beq_eq_false_iff_ne.mpr c8
   have c8b1 : (a0_2 != 1) = true := bne_iff_ne.mpr c8
   (first | rw [c8b0] | (simp only [i64_w, i32_w]; rw [c8b0]) | skip)
   by_cases c14 : a0_2 = 2
   ·rw [if_pos c14] at H
    have c14b0 : (a0_2 == 2) = true := beq_iff_eq.mpr c14
    have c14b1 : (a0_2 != 2) = false := bne_eq_false_iff_eq.mpr c14
    clear c14
    by_cases c15 : a1_1 = 1
    ·rw [if_pos c15] at H
     have c15b0 : (a1_1 == 1) = true := beq_iff_eq.mpr c15
     have c15b1 : (a1_1 != 1) = false := bne_eq_false_iff_eq.mpr c15
     clear c15
     by_cases c16 : a0_4 ≥ 1
     ·rw [if_pos c16] at H
      have c16b0 : decide (1 ≤ a0_4) = true := decide_eq_true c16
      clear c16
      have H' := Aside0.mk H
      clear H
      have hnb17 := NB110_109.out
      have hnc17 := NB109_110.out
      have hcz18_0 : w5.cell? ⟨gb110, 0, none⟩ = some (.string a1_0) := (blk_cell BK110.out 0).trans rfl
      have hcz18_1 : w5.cell? ⟨gb110, 1, none⟩ = some (.int .i64 a1_1) := (blk_cell BK110.out 1).trans rfl
      have hcz18_2 : w5.cell? ⟨gb110, 2, none⟩ = some (.int .i64 a1_2) := (blk_cell BK110.out 2).trans rfl
      have hcz18_3 : w5.cell? ⟨gb110, 3, none⟩ = some (.string a1_3) := (blk_cell BK110.out 3).trans rfl
      have hcz18_4 : w5.cell? ⟨gb110, 4, none⟩ = some (.int .i64 a1_4) := (blk_cell BK110.out 4).trans rfl
      have hcz18_5 : w5.cell? ⟨gb110, 5, none⟩ = some (.int .i64 a1_5) := (blk_cell BK110.out 5).trans rfl
      have hcz18_6 : w5.cell? ⟨gb110, 6, none⟩ = some (.int .i64 a1_6) := (blk_cell BK110.out 6).trans rfl
      have hcz18_7 : w5.cell? ⟨gb110, 7, none⟩ = some (.slice A1_7 l1_7.length c1_7) := (blk_cell BK110.out 7).trans rfl
      have hcz18_8 : w5.cell? ⟨gb110, 8, none⟩ = some (.int .i64 a1_8) := (blk_cell BK110.out 8).trans rfl
      have hcz18_9 : w5.cell? ⟨gb110, 9, none⟩ = some (.int .i64 a1_9) := (blk_cell BK110.out 9).trans rfl
      have hcz18_10 : w5.cell? ⟨gb110, 10, none⟩ = some (.int .i64 a1_10) := (blk_cell BK110.out 10).trans rfl
      have hcz18_11 : w5.cell? ⟨gb110, 11, none⟩ = some (.int .i64 a1_11) := (blk_cell BK110.out 11).trans rfl
      have hcz19_0 : w5.cell? ⟨gb109, 0, none⟩ = some (.string a0_0) := (blk_cell BK109.out 0).trans rfl
      have hcz19_1 : w5.cell? ⟨gb109, 1, none⟩ = some (.string a0_1) := (blk_cell BK109.out 1).trans rfl
      have hcz19_2 : w5.cell? ⟨gb109, 2, none⟩ = some (.int .i64 a0_2) := (blk_cell BK109.out 2).trans rfl
      have hcz19_3 : w5.cell? ⟨gb109, 3, none⟩ = some (.int .i64 a0_3) := (blk_cell BK109.out 3).trans rfl
      have hcz19_4 : w5.cell? ⟨gb109, 4, none⟩ = some (.int .i64 a0_4) := (blk_cell BK109.out 4).trans rfl
      have hcz19_5 : w5.cell? ⟨gb109, 5, none⟩ = some (.int .i64 a0_5) := (blk_cell BK109.out 5).trans rfl
      go_wp2
      repeat (go_quiet (fail); try go_wp2)
      go_meet
      case rel => exact ⟨_, ((a0_3 == 0)), (decide (a0_4 ≤ 1000000000000)), (by first | rfl | (simp; done) | (simp [*]; done)), (by first | rfl | (simp; done) | (simp [*]; done)), H', ⟨by first | omega | exact Nat.le_refl _⟩, ⟨by (with_reducible repeat (first | refine blk_drewN ?_ _ | refine blk_drew ?_ | refine blk_alloc ?_ _)); exact BK109.out⟩, ⟨by (with_reducible repeat (first | refine blk_drewN ?_ _ | refine blk_drew ?_ | refine blk_alloc ?_ _)); exact BK110.out⟩, ⟨by repeat (first | (with_reducible first | exact HB.out | apply below_alloc | apply pw_below_drewN | apply below_drew1 | refine below_set ?_ GE109.out | refine below_set ?_ GE110.out) | exact HB.out)⟩⟩
     ·rw [if_neg c16] at H
      have c16b0 : decide (1 ≤ a0_4) = false := decide_eq_false c16
      clear c16
      have H' := Aside0.mk H
      clear H
      have hnb20 := NB110_109.out
      have hnc20 := NB109_110.out
      have hcz21_0 : w5.cell? ⟨gb110, 0, none⟩ = some (.string a1_0) := (blk_cell BK110.out 0).trans rfl
      have hcz21_1 : w5.cell? ⟨gb110, 1, none⟩ = some (.int .i64 a1_1) := (blk_cell BK110.out 1).trans rfl
      have hcz21_2 : w5.cell? ⟨gb110, 2, none⟩ = some (.int .i64 a1_2) := (blk_cell BK110.out 2).trans rfl
      have hcz21_3 : w5.cell? ⟨gb110, 3, none⟩ = some (.string a1_3) := (blk_cell BK110.out 3).trans rfl
      have hcz21_4 : w5.cell? ⟨gb110, 4, none⟩ = some (.int .i64 a1_4) := (blk_cell BK110.out 4).trans rfl
      have hcz21_5 : w5.cell? ⟨gb110, 5, none⟩ = some (.int .i64 a1_5) := (blk_cell BK110.out 5).trans rfl
      have hcz21_6 : w5.cell? ⟨gb110, 6, none⟩ = some (.int .i64 a1_6) := (blk_cell BK110.out 6).trans rfl
      have hcz21_7 : w5.cell? ⟨gb110, 7, none⟩ = some (.slice A1_7 l1_7.length c1_7) := (blk_cell BK110.out 7).trans rfl
      have hcz21_8 : w5.cell? ⟨gb110, 8, none⟩ = some (.int .i64 a1_8) := (blk_cell BK110.out 8).trans rfl
      have hcz21_9 : w5.cell? ⟨gb110, 9, none⟩ = some (.int .i64 a1_9) := (blk_cell BK110.out 9).trans rfl
      have hcz21_10 : w5.cell? ⟨gb110, 10, none⟩ = some (.int .i64 a1_10) := (blk_cell BK110.out 10).trans rfl
      have hcz21_11 : w5.cell? ⟨gb110, 11, none⟩ = some (.int .i64 a1_11) := (blk_cell BK110.out 11).trans rfl
      have hcz22_0 : w5.cell? ⟨gb109, 0, none⟩ = some (.string a0_0) := (blk_cell BK109.out 0).trans rfl
      have hcz22_1 : w5.cell? ⟨gb109, 1, none⟩ = some (.string a0_1) := (blk_cell BK109.out 1).trans rfl
      have hcz22_2 : w5.cell? ⟨gb109, 2, none⟩ = some (.int .i64 a0_2) := (blk_cell BK109.out 2).trans rfl
      have hcz22_3 : w5.cell? ⟨gb109, 3, none⟩ = some (.int .i64 a0_3) := (blk_cell BK109.out 3).trans rfl
      have hcz22_4 : w5.cell? ⟨gb109, 4, none⟩ = some (.int .i64 a0_4) := (blk_cell BK109.out 4).trans rfl
      have hcz22_5 : w5.cell? ⟨gb109, 5, none⟩ = some (.int .i64 a0_5) := (blk_cell BK109.out 5).trans rfl
      go_wp2
      repeat (go_quiet (fail); try go_wp2)
      go_meet
      case rel => exact ⟨_, ((a0_3 == 0)), (false), (by first | rfl | (simp; done) | (simp [*]; done)), (by first | rfl | (simp; done) | (simp [*]; done)), H', ⟨by first | omega | exact Nat.le_refl _⟩, ⟨by (with_reducible repeat (first | refine blk_drewN ?_ _ | refine blk_drew ?_ | refine blk_alloc ?_ _)); exact BK109.out⟩, ⟨by (with_reducible repeat (first | refine blk_drewN ?_ _ | refine blk_drew ?_ | refine blk_alloc ?_ _)); exact BK110.out⟩, ⟨by repeat (first | (with_reducible first | exact HB.out | apply below_alloc | apply pw_below_drewN | apply below_drew1 | refine below_set ?_ GE109.out | refine below_set ?_ GE110.out) | exact HB.out)⟩⟩
    ·rw [if_neg c15] at H
     have c15b0 : (a1_1 == 1) = false := beq_eq_false_iff_ne.mpr c15
     have c15b1 : (a1_1 != 1) = true := bne_iff_ne.mpr c15
     have H' := Aside0.mk H
     clear H
     have hnb23 := NB110_109.out
     have hnc23 := NB109_110.out
     have hcz24_0 : w5.cell? ⟨gb110, 0, none⟩ = some (.string a1_0) := (blk_cell BK110.out 0).trans rfl
     have hcz24_1 : w5.cell? ⟨gb110, 1, none⟩ = some (.int .i64 a1_1) := (blk_cell BK110.out 1).trans rfl
     have hcz24_2 : w5.cell? ⟨gb110, 2, none⟩ = some (.int .i64 a1_2) := (blk_cell BK110.out 2).trans rfl
     have hcz24_3 : w5.cell? ⟨gb110, 3, none⟩ = some (.string a1_3) := (blk_cell BK110.out 3).trans rfl
     have hcz24_4 : w5.cell? ⟨gb110, 4, none⟩ = some (.int .i64 a1_4) := (blk_cell BK110.out 4).trans rfl
     have hcz24_5 : w5.cell? ⟨gb110, 5, none⟩ = some (.int .i64 a1_5) := (blk_cell BK110.out 5).trans rfl
     have hcz24_6 : w5.cell? ⟨gb110, 6, none⟩ = some (.int .i64 a1_6) := (blk_cell BK110.out 6).trans rfl
     have hcz24_7 : w5.cell? ⟨gb110, 7, none⟩ = some (.slice A1_7 l1_7.length c1_7) := (blk_cell BK110.out 7).trans rfl
     have hcz24_8 : w5.cell? ⟨gb110, 8, none⟩ = some (.int .i64 a1_8) := (blk_cell BK110.out 8).trans rfl
     have hcz24_9 : w5.cell? ⟨gb110, 9, none⟩ = some (.int .i64 a1_9) := (blk_cell BK110.out 9).trans rfl
     have hcz24_10 : w5.cell? ⟨gb110, 10, none⟩ = some (.int .i64 a1_10) := (blk_cell BK110.out 10).trans rfl
     have hcz24_11 : w5.cell? ⟨gb110, 11, none⟩ = some (.int .i64 a1_11) := (blk_cell BK110.out 11).trans rfl
     go_wp2
     repeat (go_quiet (fail); try go_wp2)
     go_meet
     case rel => exact ⟨_, ((a0_3 == 0)), ((a0_4 == 0)), (by first | rfl | (simp; done) | (simp [*]; done)), (by first | rfl | (simp; done) | (simp [*]; done)), H', ⟨by first | omega | exact Nat.le_refl _⟩, ⟨by (with_reducible repeat (first | refine blk_drewN ?_ _ | refine blk_drew ?_ | refine blk_alloc ?_ _)); exact BK109.out⟩, ⟨by (with_reducible repeat (first | refine blk_drewN ?_ _ | refine blk_drew ?_ | refine blk_alloc ?_ _)); exact BK110.out⟩, ⟨by repeat (first | (with_reducible first | exact HB.out | apply below_alloc | apply pw_below_drewN | apply below_drew1 | refine below_set ?_ GE109.out | refine below_set ?_ GE110.out) | exact HB.out)⟩⟩
   ·rw [if_neg c14] at H
    have c14b0 : (a0_2 == 2) = false := beq_eq_false_iff_ne.mpr c14
    have c14b1 : (a0_2 != 2) = true := bne_iff_ne.mpr c14
    have H' := Aside0.mk H
    clear H
    go_wp2
    repeat (go_quiet (fail); try go_wp2)
    go_meet
    case rel => exact ⟨_, ((a0_3 == 0)), ((a0_4 == 0)), (by first | rfl | (simp; done) | (simp [*]; done)), (by first | rfl | (simp; done) | (simp [*]; done)), H', ⟨by first | omega | exact Nat.le_refl _⟩, ⟨by (with_reducible repeat (first | refine blk_drewN ?_ _ | refine blk_drew ?_ | refine blk_alloc ?_ _)); exact BK109.out⟩, ⟨by (with_reducible repeat (first | refine blk_drewN ?_ _ | refine blk_drew ?_ | refine blk_alloc ?_ _)); exact BK110.out⟩, ⟨by repeat (first | (with_reducible first | exact HB.out | apply below_alloc | apply pw_below_drewN | apply below_drew1 | refine below_set ?_ GE109.out | refine below_set ?_ GE110.out) | exact HB.out)⟩⟩
 case rest =>
  clear HC3
  try clear c1
  try clear c2
  try clear p2
  try clear c6
  try clear c8
  try clear c8b0
  try clear c8b1
  try clear c9
  try clear c9b0
  try clear c10
  try clear c12
  try clear c14
  try clear c14b0
  try clear c14b1
  try clear c15
  try clear c15b0
  try clear c15b1
  try clear c16
  try clear c16b0
  try clear c17
  try clear c20
  try clear c23
  try clear hcz11_0
  try clear hcz11_1
  try clear hcz11_2
  try clear hcz11_3
  try clear hcz11_4
  try clear hcz11_5
  try clear hcz13_0
  try clear hcz13_1
  try clear hcz13_2
  try clear hcz13_3
  try clear hcz13_4
  try clear hcz13_5
  try clear hcz18_0
  try clear hcz18_1
  try clear hcz18_10
  try clear hcz18_11
  try clear hcz18_2
  try clear hcz18_3
  try clear hcz18_4
  try clear hcz18_5
  try clear hcz18_6
  try clear hcz18_7
  try clear hcz18_8
  try clear hcz18_9
  try clear hcz19_0
  try clear hcz19_1
  try clear hcz19_2
  try clear hcz19_3
  try clear hcz19_4
  try clear hcz19_5
  try clear hcz21_0
  try clear hcz21_1
  try clear hcz21_10
  try clear hcz21_11
  try clear hcz21_2
  try clear hcz21_3
  try clear hcz21_4
  try clear hcz21_5
  try clear hcz21_6
  try clear hcz21_7
  try clear hcz21_8
  try clear hcz21_9
  try clear hcz22_0
  try clear hcz22_1
  try clear hcz22_2
  try clear hcz22_3
  try clear hcz22_4
  try clear hcz22_5
  try clear hcz24_0
  try clear hcz24_1
  try clear hcz24_10
  try clear hcz24_11
  try clear hcz24_2
  try clear hcz24_3
  try clear hcz24_4
  try clear hcz24_5
  try clear hcz24_6
  try clear hcz24_7
  try clear hcz24_8
  try clear hcz24_9
  try clear hcz7_0
  try clear hcz7_1
  try clear hcz7_2
  try clear hcz7_3
  try clear hcz7_4
  try clear hcz7_5
  try clear hfz11_0
  try clear hfz11_1
  try clear hfz11_2
  try clear hfz11_3
  try clear hfz11_4
  try clear hfz11_5
  try clear hfz13_0
  try clear hfz13_1
  try clear hfz13_2
  try clear hfz13_3
  try clear hfz13_4
  try clear hfz13_5
  try clear hfz18_0
  try clear hfz18_1
  try clear hfz18_10
  try clear hfz18_11
  try clear hfz18_2
  try clear hfz18_3
  try clear hfz18_4
  try clear hfz18_5
  try clear hfz18_6
  try clear hfz18_7
  try clear hfz18_8
  try clear hfz18_9
  try clear hfz19_0
  try clear hfz19_1
  try clear hfz19_2
  try clear hfz19_3
  try clear hfz19_4
  try clear hfz19_5
  try clear hfz21_0
  try clear hfz21_1
  try clear hfz21_10
  try clear hfz21_11
  try clear hfz21_2
  try clear hfz21_3
  try clear hfz21_4
  try clear hfz21_5
  try clear hfz21_6
  try clear hfz21_7
  try clear hfz21_8
  try clear hfz21_9
  try clear hfz22_0
  try clear hfz22_1
  try clear hfz22_2
  try clear hfz22_3
  try clear hfz22_4
  try clear hfz22_5
  try clear hfz24_0
  try clear hfz24_1
  try clear hfz24_10
  try clear hfz24_11
  try clear hfz24_2
  try clear hfz24_3
  try clear hfz24_4
  try clear hfz24_5
  try clear hfz24_6
  try clear hfz24_7
  try clear hfz24_8
  try clear hfz24_9
  try clear hfz7_0
  try clear hfz7_1
  try clear hfz7_2
  try clear hfz7_3
  try clear hfz7_4
  try clear hfz7_5
  obtain ⟨kq, x5_2, x6_2, rfl, rfl, HA, HJ2, BK109, BK110, HB⟩ := hcut
  cases kq with
  | zero => exact absurd HA.out (by simp [trend_Check.j0])
  | succ kj2 =>
   have H := HA.out
   clear HA
   simp only [trend_Check.j0] at H
   replace H := Option.bind_eq_some_iff.mp H
   obtain ⟨t111, A250, H⟩ := H
   replace H : (if t111 = true then (if a0_1.toList = a1_0.toList then (if a0_2 = 1 then (trend_Check.j1 kj2 x5_2 x6_2 false a0_0 a0_1 a0_2 a0_3 a0_4 a0_5) else (if a0_2 = 2 then (trend_Check.j1 kj2 x5_2 x6_2 false a0_0 a0_1 a0_2 a0_3 a0_4 a0_5) else (trend_Check.j1 kj2 x5_2 x6_2 (a0_2 != 3) a0_0 a0_1 a0_2 a0_3 a0_4 a0_5))) else (some 3)) else (some 4)) = some r := H
   have A25 := Aside0.mk A250
   clear A250
   by_cases c26 : t111 = true
   ·subst c26
    have H1 : (if a0_1.toList = a1_0.toList then (if a0_2 = 1 then (trend_Check.j1 kj2 x5_2 x6_2 false a0_0 a0_1 a0_2 a0_3 a0_4 a0_5) else (if a0_2 = 2 then (trend_Check.j1 kj2 x5_2 x6_2 false a0_0 a0_1 a0_2 a0_3 a0_4 a0_5) else (trend_Check.j1 kj2 x5_2 x6_2 (a0_2 != 3) a0_0 a0_1 a0_2 a0_3 a0_4 a0_5))) else (some 3)) = some r := by rw [if_pos rfl] at H; exact H
    clear H
    have H := H1
    clear H1
    by_cases c27 : a0_1.toList = a1_0.toList
    ·rw [if_pos c27] at H
     have c27b0 : (a0_1.toList == a1_0.toList) = true := beq_iff_eq.mpr c27
     have c27b1 : (a0_1.toList != a1_0.toList) = false := bne_eq_false_iff_eq.mpr c27
     clear c27
     have HC28 := Aside0.mk H
     clear H
     have hnb29 := NB109_110.out
     have hnc29 := NB110_109.out
     have hcz30_0 : wc.cell? ⟨gb109, 0, none⟩ = some (.string a0_0) := (blk_cell BK109.out 0).trans rfl
     have hcz30_1 : wc.cell? ⟨gb109, 1, none⟩ = some (.string a0_1) := (blk_cell BK109.out 1).trans rfl
     have hcz30_2 : wc.cell? ⟨gb109, 2, none⟩ = some (.int .i64 a0_2) := (blk_cell BK109.out 2).trans rfl
     have hcz30_3 : wc.cell? ⟨gb109, 3, none⟩ = some (.int .i64 a0_3) := (blk_cell BK109.out 3).trans rfl
     have hcz30_4 : wc.cell? ⟨gb109, 4, none⟩ = some (.int .i64 a0_4) := (blk_cell BK109.out 4).trans rfl
     have hcz30_5 : wc.cell? ⟨gb109, 5, none⟩ = some (.int .i64 a0_5) := (blk_cell BK109.out 5).trans rfl
     go_upto_region 12 with (first | (go_at_call 29; (with_reducible refine (lexer_Name.calls a0_0 true _ ?side99  A25.out).mono ?_); (case side99 => first | exact HG.out | exact Glob.below HG.out (by repeat (first | (with_reducible first | exact HB.out | apply below_alloc | apply pw_below_drewN | apply below_drew1 | refine below_set ?_ GE109.out | refine below_set ?_ GE110.out) | exact HB.out))); rintro e w31 ⟨rfl, hb⟩; have n0_ := Aside0.mk (blk_below (g := gb109) (o := .cells #[.string a0_0, .string a0_1, .int .i64 a0_2, .int .i64 a0_3, .int .i64 a0_4, .int .i64 a0_5] 23 (0, 0)) (by (with_reducible repeat (first | refine blk_drewN ?_ _ | refine blk_drew ?_ | refine blk_alloc ?_ _)); exact BK109.out) hb); have n1_ := Aside0.mk (blk_below (g := gb110) (o := .cells #[.string a1_0, .int .i64 a1_1, .int .i64 a1_2, .string a1_3, .int .i64 a1_4, .int .i64 a1_5, .int .i64 a1_6, .slice A1_7 l1_7.length c1_7, .int .i64 a1_8, .int .i64 a1_9, .int .i64 a1_10, .int .i64 a1_11] 51 (0, 0)) (by (with_reducible repeat (first | refine blk_drewN ?_ _ | refine blk_drew ?_ | refine blk_alloc ?_ _)); exact BK110.out) hb); have n2_ := Aside0.mk (below_step (by repeat (first | (with_reducible first | exact HB.out | apply below_alloc | apply pw_below_drewN | apply below_drew1 | refine below_set ?_ GE109.out | refine below_set ?_ GE110.out) | exact HB.out)) hb); clear BK109; clear BK110; clear HB; have BK109 := n0_; have BK110 := n1_; have HB := n2_; clear n0_ n1_ n2_; (try clear hb); (try clear hb2); (try clear hk); (try clear hi); have hcz32_0 : w31.cell? ⟨gb109, 0, none⟩ = some (.string a0_0) := (blk_cell BK109.out 0).trans rfl; have hcz32_1 : w31.cell? ⟨gb109, 1, none⟩ = some (.string a0_1) := (blk_cell BK109.out 1).trans rfl; have hcz32_2 : w31.cell? ⟨gb109, 2, none⟩ = some (.int .i64 a0_2) := (blk_cell BK109.out 2).trans rfl; have hcz32_3 : w31.cell? ⟨gb109, 3, none⟩ = some (.int .i64 a0_3) := (blk_cell BK109.out 3).trans rfl; have hcz32_4 : w31.cell? ⟨gb109, 4, none⟩ = some (.int .i64 a0_4) := (blk_cell BK109.out 4).trans rfl; have hcz32_5 : w31.cell? ⟨gb109, 5, none⟩ = some (.int .i64 a0_5) := (blk_cell BK109.out 5).trans rfl; have hcz33_0 : w31.cell? ⟨gb110, 0, none⟩ = some (.string a1_0) := (blk_cell BK110.out 0).trans rfl; have hcz33_1 : w31.cell? ⟨gb110, 1, none⟩ = some (.int .i64 a1_1) := (blk_cell BK110.out 1).trans rfl; have hcz33_2 : w31.cell? ⟨gb110, 2, none⟩ = some (.int .i64 a1_2) := (blk_cell BK110.out 2).trans rfl; have hcz33_3 : w31.cell? ⟨gb110, 3, none⟩ = some (.string a1_3) := (blk_cell BK110.out 3).trans rfl; have hcz33_4 : w31.cell? ⟨gb110, 4, none⟩ = some (.int .i64 a1_4) := (blk_cell BK110.out 4).trans rfl; have hcz33_5 : w31.cell? ⟨gb110, 5, none⟩ = some (.int .i64 a1_5) := (blk_cell BK110.out 5).trans rfl; have hcz33_6 : w31.cell? ⟨gb110, 6, none⟩ = some (.int .i64 a1_6) := (blk_cell BK110.out 6).trans rfl; have hcz33_7 : w31.cell? ⟨gb110, 7, none⟩ = some (.slice A1_7 l1_7.length c1_7) := (blk_cell BK110.out 7).trans rfl; have hcz33_8 : w31.cell? ⟨gb110, 8, none⟩ = some (.int .i64 a1_8) := (blk_cell BK110.out 8).trans rfl; have hcz33_9 : w31.cell? ⟨gb110, 9, none⟩ = some (.int .i64 a1_9) := (blk_cell BK110.out 9).trans rfl; have hcz33_10 : w31.cell? ⟨gb110, 10, none⟩ = some (.int .i64 a1_10) := (blk_cell BK110.out 10).trans rfl; have hcz33_11 : w31.cell? ⟨gb110, 11, none⟩ = some (.int .i64 a1_11) := (blk_cell BK110.out 11).trans rfl))
     repeat (go_quiet (first | (go_at_call 29; (with_reducible refine (lexer_Name.calls a0_0 true _ ?side99  A25.out).mono ?_); (case side99 => first | exact HG.out | exact Glob.below HG.out (by repeat (first | (with_reducible first | exact HB.out | apply below_alloc | apply pw_below_drewN | apply below_drew1 | refine below_set ?_ GE109.out | refine below_set ?_ GE110.out) | exact HB.out))); rintro e w31 ⟨rfl, hb⟩; have n0_ := Aside0.mk (blk_below (g := gb109) (o := .cells #[.string a0_0, .string a0_1, .int .i64 a0_2, .int .i64 a0_3, .int .i64 a0_4, .int .i64 a0_5] 23 (0, 0)) (by (with_reducible repeat (first | refine blk_drewN ?_ _ | refine blk_drew ?_ | refine blk_alloc ?_ _)); exact BK109.out) hb); have n1_ := Aside0.mk (blk_below (g := gb110) (o := .cells #[.string a1_0, .int .i64 a1_1, .int .i64 a1_2, .string a1_3, .int .i64 a1_4, .int .i64 a1_5, .int .i64 a1_6, .slice A1_7 l1_7.length c1_7, .int .i64 a1_8, .int .i64 a1_9, .int .i64 a1_10, .int .i64 a1_11] 51 (0, 0)) (by (with_reducible repeat (first | refine blk_drewN ?_ _ | refine blk_drew ?_ | refine blk_alloc ?_ _)); exact BK110.out) hb); have n2_ := Aside0.mk (below_step (by repeat (first | (with_reducible first | exact HB.out | apply below_alloc | apply pw_below_drewN | apply below_drew1 | refine below_set ?_ GE109.out | refine below_set ?_ GE110.out) | exact HB.out)) hb); clear BK109; clear BK110; clear HB; have BK109 := n0_; have BK110 := n1_; have HB := n2_; clear n0_ n1_ n2_; (try clear hb); (try clear hb2); (try clear hk); (try clear hi); have hcz32_0 : w31.cell? ⟨gb109, 0, none⟩ = some (.string a0_0) := (blk_cell BK109.out 0).trans rfl; have hcz32_1 : w31.cell? ⟨gb109, 1, none⟩ = some (.string a0_1) := (blk_cell BK109.out 1).trans rfl; have hcz32_2 : w31.cell? ⟨gb109, 2, none⟩ = some (.int .i64 a0_2) := (blk_cell BK109.out 2).trans rfl; have hcz32_3 : w31.cell? ⟨gb109, 3, none⟩ = some (.int .i64 a0_3) := (blk_cell BK109.out 3).trans rfl; have hcz32_4 : w31.cell? ⟨gb109, 4, none⟩ = some (.int .i64 a0_4) := (blk_cell BK109.out 4).trans rfl; have hcz32_5 : w31.cell? ⟨gb109, 5, none⟩ = some (.int .i64 a0_5) := (blk_cell BK109.out 5).trans rfl; have hcz33_0 : w31.cell? ⟨gb110, 0, none⟩ = some (.string a1_0) := (blk_cell BK110.out 0).trans rfl; have hcz33_1 : w31.cell? ⟨gb110, 1, none⟩ = some (.int .i64 a1_1) := (blk_cell BK110.out 1).trans rfl; have hcz33_2 : w31.cell? ⟨gb110, 2, none⟩ = some (.int .i64 a1_2) := (blk_cell BK110.out 2).trans rfl; have hcz33_3 : w31.cell? ⟨gb110, 3, none⟩ = some (.string a1_3) := (blk_cell BK110.out 3).trans rfl; have hcz33_4 : w31.cell? ⟨gb110, 4, none⟩ = some (.int .i64 a1_4) := (blk_cell BK110.out 4).trans rfl; have hcz33_5 : w31.cell? ⟨gb110, 5, none⟩ = some (.int .i64 a1_5) := (blk_cell BK110.out 5).trans rfl; have hcz33_6 : w31.cell? ⟨gb110, 6, none⟩ = some (.int .i64 a1_6) := (blk_cell BK110.out 6).trans rfl; have hcz33_7 : w31.cell? ⟨gb110, 7, none⟩ = some (.slice A1_7 l1_7.length c1_7) := (blk_cell BK110.out 7).trans rfl; have hcz33_8 : w31.cell? ⟨gb110, 8, none⟩ = some (.int .i64 a1_8) := (blk_cell BK110.out 8).trans rfl; have hcz33_9 : w31.cell? ⟨gb110, 9, none⟩ = some (.int .i64 a1_9) := (blk_cell BK110.out 9).trans rfl; have hcz33_10 : w31.cell? ⟨gb110, 10, none⟩ = some (.int .i64 a1_10) := (blk_cell BK110.out 10).trans rfl; have hcz33_11 : w31.cell? ⟨gb110, 11, none⟩ = some (.int .i64 a1_11) := (blk_cell BK110.out 11).trans rfl)); go_upto_region 12 with (first | (go_at_call 29; (with_reducible refine (lexer_Name.calls a0_0 true _ ?side99  A25.out).mono ?_); (case side99 => first | exact HG.out | exact Glob.below HG.out (by repeat (first | (with_reducible first | exact HB.out | apply below_alloc | apply pw_below_drewN | apply below_drew1 | refine below_set ?_ GE109.out | refine below_set ?_ GE110.out) | exact HB.out))); rintro e w31 ⟨rfl, hb⟩; have n0_ := Aside0.mk (blk_below (g := gb109) (o := .cells #[.string a0_0, .string a0_1, .int .i64 a0_2, .int .i64 a0_3, .int .i64 a0_4, .int .i64 a0_5] 23 (0, 0)) (by (with_reducible repeat (first | refine blk_drewN ?_ _ | refine blk_drew ?_ | refine blk_alloc ?_ _)); exact BK109.out) hb); have n1_ := Aside0.mk (blk_below (g := gb110) (o := .cells #[.string a1_0, .int .i64 a1_1, .int .i64 a1_2, .string a1_3, .int .i64 a1_4, .int .i64 a1_5, .int .i64 a1_6, .slice A1_7 l1_7.length c1_7, .int .i64 a1_8, .int .i64 a1_9, .int .i64 a1_10, .int .i64 a1_11] 51 (0, 0)) (by (with_reducible repeat (first | refine blk_drewN ?_ _ | refine blk_drew ?_ | refine blk_alloc ?_ _)); exact BK110.out) hb); have n2_ := Aside0.mk (below_step (by repeat (first | (with_reducible first | exact HB.out | apply below_alloc | apply pw_below_drewN | apply below_drew1 | refine below_set ?_ GE109.out | refine below_set ?_ GE110.out) | exact HB.out)) hb); clear BK109; clear BK110; clear HB; have BK109 := n0_; have BK110 := n1_; have HB := n2_; clear n0_ n1_ n2_; (try clear hb); (try clear hb2); (try clear hk); (try clear hi); have hcz32_0 : w31.cell? ⟨gb109, 0, none⟩ = some (.string a0_0) := (blk_cell BK109.out 0).trans rfl; have hcz32_1 : w31.cell? ⟨gb109, 1, none⟩ = some (.string a0_1) := (blk_cell BK109.out 1).trans rfl; have hcz32_2 : w31.cell? ⟨gb109, 2, none⟩ = some (.int .i64 a0_2) := (blk_cell BK109.out 2).trans rfl; have hcz32_3 : w31.cell? ⟨gb109, 3, none⟩ = some (.int .i64 a0_3) := (blk_cell BK109.out 3).trans rfl; have hcz32_4 : w31.cell? ⟨gb109, 4, none⟩ = some (.int .i64 a0_4) := (blk_cell BK109.out 4).trans rfl; have hcz32_5 : w31.cell? ⟨gb109, 5, none⟩ = some (.int .i64 a0_5) := (blk_cell BK109.out 5).trans rfl; have hcz33_0 : w31.cell? ⟨gb110, 0, none⟩ = some (.string a1_0) := (blk_cell BK110.out 0).trans rfl; have hcz33_1 : w31.cell? ⟨gb110, 1, none⟩ = some (.int .i64 a1_1) := (blk_cell BK110.out 1).trans rfl; have hcz33_2 : w31.cell? ⟨gb110, 2, none⟩ = some (.int .i64 a1_2) := (blk_cell BK110.out 2).trans rfl; have hcz33_3 : w31.cell? ⟨gb110, 3, none⟩ = some (.string a1_3) := (blk_cell BK110.out 3).trans rfl; have hcz33_4 : w31.cell? ⟨gb110, 4, none⟩ = some (.int .i64 a1_4) := (blk_cell BK110.out 4).trans rfl; have hcz33_5 : w31.cell? ⟨gb110, 5, none⟩ = some (.int .i64 a1_5) := (blk_cell BK110.out 5).trans rfl; have hcz33_6 : w31.cell? ⟨gb110, 6, none⟩ = some (.int .i64 a1_6) := (blk_cell BK110.out 6).trans rfl; have hcz33_7 : w31.cell? ⟨gb110, 7, none⟩ = some (.slice A1_7 l1_7.length c1_7) := (blk_cell BK110.out 7).trans rfl; have hcz33_8 : w31.cell? ⟨gb110, 8, none⟩ = some (.int .i64 a1_8) := (blk_cell BK110.out 8).trans rfl; have hcz33_9 : w31.cell? ⟨gb110, 9, none⟩ = some (.int .i64 a1_9) := (blk_cell BK110.out 9).trans rfl; have hcz33_10 : w31.cell? ⟨gb110, 10, none⟩ = some (.int .i64 a1_10) := (blk_cell BK110.out 10).trans rfl; have hcz33_11 : w31.cell? ⟨gb110, 11, none⟩ = some (.int .i64 a1_11) := (blk_cell BK110.out 11).trans rfl)))
     (try simp only [Act.put, List.setIfInBounds_toArray, List.set_cons_zero, List.set_cons_succ])
     go_cut [49] (fun v49 wc => ∃ (kq : Nat) (x49_27 : Bool), v49 = .bool x49_27 ∧ Aside0 (trend_Check.j1 kq x5_2 x6_2 x49_27 a0_0 a0_1 a0_2 a0_3 a0_4 a0_5 = some r) ∧ Aside0 (kq ≤ kj2) ∧ Aside0 (wc.heap[gb109]? = some (.cells #[.string a0_0, .string a0_1, .int .i64 a0_2, .int .i64 a0_3, .int .i64 a0_4, .int .i64 a0_5] 23 (0, 0))) ∧ Aside0 (wc.heap[gb110]? = some (.cells #[.string a1_0, .int .i64 a1_1, .int .i64 a1_2, .string a1_3, .int .i64 a1_4, .int .i64 a1_5, .int .i64 a1_6, (.slice A1_7 l1_7.length c1_7), .int .i64 a1_8, .int .i64 a1_9, .int .i64 a1_10, .int .i64 a1_11] 51 (0, 0))) ∧ Aside0 (Below w.heap.size w wc))
     case first =>
      have H := HC28.out
      clear HC28
      by_cases c34 : a0_2 = 1
      ·rw [if_pos c34] at H
       have c34b0 : (a0_2 == 1) = true := beq_iff_eq.mpr c34
       have c34b1 : (a0_2 != 1) = false := bne_eq_false_iff_eq.mpr c34
       clear c34
       (first | rw [c34b0] | (simp only [i64_w, i32_w]; rw [c34b0]) | skip)
       have H' := Aside0.mk H
       clear H
       have hnb35 := NB109_110.out
       have hnc35 := NB110_109.out
       have hcz36_0 : w31.cell? ⟨gb109, 0, none⟩ = some (.string a0_0) := (blk_cell BK109.out 0).trans rfl
       have hcz36_1 : w31.cell? ⟨gb109, 1, none⟩ = some (.string a0_1) := (blk_cell BK109.out 1).trans rfl
       have hcz36_2 : w31.cell? ⟨gb109, 2, none⟩ = some (.int .i64 a0_2) := (blk_cell BK109.out 2).trans rfl
       have hcz36_3 : w31.cell? ⟨gb109, 3, none⟩ = some (.int .i64 a0_3) := (blk_cell BK109.out 3).trans rfl
       have hcz36_4 : w31.cell? ⟨gb109, 4, none⟩ = some (.int .i64 a0_4) := (blk_cell BK109.out 4).trans rfl
       have hcz36_5 : w31.cell? ⟨gb109, 5, none⟩ = some (.int .i64 a0_5) := (blk_cell BK109.out 5).trans rfl
       go_wp2
       repeat (go_quiet (fail); try go_wp2)
       go_meet
       case rel => exact ⟨_, (false), (by first | rfl | (simp; done) | (simp [*]; done)), H', ⟨by have := HJ2.out; first | omega | exact Nat.le_refl _⟩, ⟨by (with_reducible repeat (first | refine blk_drewN ?_ _ | refine blk_drew ?_ | refine blk_alloc ?_ _)); exact BK109.out⟩, ⟨by (with_reducible repeat (first | refine blk_drewN ?_ _ | refine blk_drew ?_ | refine blk_alloc ?_ _)); exact BK110.out⟩, ⟨by repeat (first | (with_reducible first | exact HB.out | apply below_alloc | apply pw_below_drewN | apply below_drew1 | refine below_set ?_ GE109.out | refine below_set ?_ GE110.out) | exact HB.out)⟩⟩
      ·rw [if_neg c34] at H
       have c34b0 : (a0_2 == 1) = false := beq_eq_false_iff_ne.mpr c34
       have c34b1 : (a0_2 != 1) = true := bne_iff_ne.mpr c34
       (first | rw [c34b0] | (simp only [i64_w, i32_w]; rw [c34b0]) | skip)
       by_cases c37 : a0_2 = 2
       ·rw [if_pos c37] at H
        have c37b0 : (a0_2 == 2) = true := beq_iff_eq.mpr c37
        have c37b1 : (a0_2 != 2) = false := bne_eq_false_iff_eq.mpr c37
        clear c37
        have H' := Aside0.mk H
        clear H
        have hnb38 := NB109_110.out
        have hnc38 := NB110_109.out
        have hcz39_0 : w31.cell? ⟨gb109, 0, none⟩ = some (.string a0_0) := (blk_cell BK109.out 0).trans rfl
        have hcz39_1 : w31.cell? ⟨gb109, 1, none⟩ = some (.string a0_1) := (blk_cell BK109.out 1).trans rfl
        have hcz39_2 : w31.cell? ⟨gb109, 2, none⟩ = some (.int .i64 a0_2) := (blk_cell BK109.out 2).trans rfl
        have hcz39_3 : w31.cell? ⟨gb109, 3, none⟩ = some (.int .i64 a0_3) := (blk_cell BK109.out 3).trans rfl
        have hcz39_4 : w31.cell? ⟨gb109, 4, none⟩ = some (.int .i64 a0_4) := (blk_cell BK109.out 4).trans rfl
        have hcz39_5 : w31.cell? ⟨gb109, 5, none⟩ = some (.int .i64 a0_5) := (blk_cell BK109.out 5).trans rfl
        go_wp2
        repeat (go_quiet (fail); try go_wp2)
        go_meet
        case rel => exact ⟨_, (false), (by first | rfl | (simp; done) | (simp [*]; done)), H', ⟨by have := HJ2.out; first | omega | exact Nat.le_refl _⟩, ⟨by (with_reducible repeat (first | refine blk_drewN ?_ _ | refine blk_drew ?_ | refine blk_alloc ?_ _)); exact BK109.out⟩, ⟨by (with_reducible repeat (first | refine blk_drewN ?_ _ | refine blk_drew ?_ | refine blk_alloc ?_ _)); exact BK110.out⟩, ⟨by repeat (first | (with_reducible first | exact HB.out | apply below_alloc | apply pw_below_drewN | apply below_drew1 | refine below_set ?_ GE109.out | refine below_set ?_ GE110.out) | exact HB.out)⟩⟩
       ·rw [if_neg c37] at H
        have c37b0 : (a0_2 == 2) = false := beq_eq_false_iff_ne.mpr c37
        have c37b1 : (a0_2 != 2) = true := bne_iff_ne.mpr c37
        have H' := Aside0.mk H
        clear H
        have hnb40 := NB109_110.out
        have hnc40 := NB110_109.out
        have hcz41_0 : w31.cell? ⟨gb109, 0, none⟩ = some (.string a0_0) := (blk_cell BK109.out 0).trans rfl
        have hcz41_1 : w31.cell? ⟨gb109, 1, none⟩ = some (.string a0_1) := (blk_cell BK109.out 1).trans rfl
        have hcz41_2 : w31.cell? ⟨gb109, 2, none⟩ = some (.int .i64 a0_2) := (blk_cell BK109.out 2).trans rfl
        have hcz41_3 : w31.cell? ⟨gb109, 3, none⟩ = some (.int .i64 a0_3) := (blk_cell BK109.out 3).trans rfl
        have hcz41_4 : w31.cell? ⟨gb109, 4, none⟩ = some (.int .i64 a0_4) := (blk_cell BK109.out 4).trans rfl
        have hcz41_5 : w31.cell? ⟨gb109, 5, none⟩ = some (.int .i64 a0_5) := (blk_cell BK109.out 5).trans rfl
        go_wp2
        repeat (go_quiet (fail); try go_wp2)
        go_meet
        case rel => exact ⟨_, ((a0_2 != 3)), (by first | rfl | (simp; done) | (simp [*]; done)), H', ⟨by have := HJ2.out; first | omega | exact Nat.le_refl _⟩, ⟨by (with_reducible repeat (first | refine blk_drewN ?_ _ | refine blk_drew ?_ | refine blk_alloc ?_ _)); exact BK109.out⟩, ⟨by (with_reducible repeat (first | refine blk_drewN ?_ _ | refine blk_drew ?_ | refine blk_alloc ?_ _)); exact BK110.out⟩, ⟨by repeat (first | (with_reducible first | exact HB.out | apply below_alloc | apply pw_below_drewN | apply below_drew1 | refine below_set ?_ GE109.out | refine below_set ?_ GE110.out) | exact HB.out)⟩⟩
     case rest =>
      clear HC28
      try clear c1
      try clear c2
      try clear p2
      try clear c3
      try clear c4
      try clear c6
      try clear c8
      try clear c8b0
      try clear c8b1
      try clear c9
      try clear c9b0
      try clear c10
      try clear c12
      try clear c14
      try clear c14b0
      try clear c14b1
      try clear c15
      try clear c15b0
      try clear c15b1
      try clear c16
      try clear c16b0
      try clear c17
      try clear c20
      try clear c23
      try clear c26
      try clear c27
      try clear c27b0
      try clear c27b1
      try clear c29
      try clear c34
      try clear c34b0
      try clear c34b1
      try clear c35
      try clear c37
      try clear c37b0
      try clear c37b1
      try clear c38
      try clear c40
      try clear hcz11_0
      try clear hcz11_1
      try clear hcz11_2
      try clear hcz11_3
      try clear hcz11_4
      try clear hcz11_5
      try clear hcz13_0
      try clear hcz13_1
      try clear hcz13_2
      try clear hcz13_3
      try clear hcz13_4
      try clear hcz13_5
      try clear hcz18_0
      try clear hcz18_1
      try clear hcz18_10
      try clear hcz18_11
      try clear hcz18_2
      try clear hcz18_3
      try clear hcz18_4
      try clear hcz18_5
      try clear hcz18_6
      try clear hcz18_7
      try clear hcz18_8
      try clear hcz18_9
      try clear hcz19_0
      try clear hcz19_1
      try clear hcz19_2
      try clear hcz19_3
      try clear hcz19_4
      try clear hcz19_5
      try clear hcz21_0
      try clear hcz21_1
      try clear hcz21_10
      try clear hcz21_11
      try clear hcz21_2
      try clear hcz21_3
      try clear hcz21_4
      try clear hcz21_5
      try clear hcz21_6
      try clear hcz21_7
      try clear hcz21_8
      try clear hcz21_9
      try clear hcz22_0
      try clear hcz22_1
      try clear hcz22_2
      try clear hcz22_3
      try clear hcz22_4
      try clear hcz22_5
      try clear hcz24_0
      try clear hcz24_1
      try clear hcz24_10
      try clear hcz24_11
      try clear hcz24_2
      try clear hcz24_3
      try clear hcz24_4
      try clear hcz24_5
      try clear hcz24_6
      try clear hcz24_7
      try clear hcz24_8
      try clear hcz24_9
      try clear hcz30_0
      try clear hcz30_1
      try clear hcz30_2
      try clear hcz30_3
      try clear hcz30_4
      try clear hcz30_5
      try clear hcz32_0
      try clear hcz32_1
      try clear hcz32_2
      try clear hcz32_3
      try clear hcz32_4
      try clear hcz32_5
      try clear hcz33_0
      try clear hcz33_1
      try clear hcz33_10
      try clear hcz33_11
      try clear hcz33_2
      try clear hcz33_3
      try clear hcz33_4
      try clear hcz33_5
      try clear hcz33_6
      try clear hcz33_7
      try clear hcz33_8
      try clear hcz33_9
      try clear hcz36_0
      try clear hcz36_1
      try clear hcz36_2
      try clear hcz36_3
      try clear hcz36_4
      try clear hcz36_5
      try clear hcz39_0
      try clear hcz39_1
      try clear hcz39_2
      try clear hcz39_3
      try clear hcz39_4
      try clear hcz39_5
      try clear hcz41_0
      try clear hcz41_1
      try clear hcz41_2
      try clear hcz41_3
      try clear hcz41_4
      try clear hcz41_5
      try clear hcz7_0
      try clear hcz7_1
      try clear hcz7_2
      try clear hcz7_3
      try clear hcz7_4
      try clear hcz7_5
      try clear hfz11_0
      try clear hfz11_1
      try clear hfz11_2
      try clear hfz11_3
      try clear hfz11_4
      try clear hfz11_5
      try clear hfz13_0
      try clear hfz13_1
      try clear hfz13_2
      try clear hfz13_3
      try clear hfz13_4
      try clear hfz13_5
      try clear hfz18_0
      try clear hfz18_1
      try clear hfz18_10
      try clear hfz18_11
      try clear hfz18_2
      try clear hfz18_3
      try clear hfz18_4
      try clear hfz18_5
      try clear hfz18_6
      try clear hfz18_7
      try clear hfz18_8
      try clear hfz18_9
      try clear hfz19_0
      try clear hfz19_1
      try clear hfz19_2
      try clear hfz19_3
      try clear hfz19_4
      try clear hfz19_5
      try clear hfz21_0
      try clear hfz21_1
      try clear hfz21_10
      try clear hfz21_11
      try clear hfz21_2
      try clear hfz21_3
      try clear hfz21_4
      try clear hfz21_5
      try clear hfz21_6
      try clear hfz21_7
      try clear hfz21_8
      try clear hfz21_9
      try clear hfz22_0
      try clear hfz22_1
      try clear hfz22_2
      try clear hfz22_3
      try clear hfz22_4
      try clear hfz22_5
      try clear hfz24_0
      try clear hfz24_1
      try clear hfz24_10
      try clear hfz24_11
      try clear hfz24_2
      try clear hfz24_3
      try clear hfz24_4
      try clear hfz24_5
      try clear hfz24_6
      try clear hfz24_7
      try clear hfz24_8
      try clear hfz24_9
      try clear hfz30_0
      try clear hfz30_1
      try clear hfz30_2
      try clear hfz30_3
      try clear hfz30_4
      try clear hfz30_5
      try clear hfz32_0
      try clear hfz32_1
      try clear hfz32_2
      try clear hfz32_3
      try clear hfz32_4
      try clear hfz32_5
      try clear hfz33_0
      try clear hfz33_1
      try clear hfz33_10
      try clear hfz33_11
      try clear hfz33_2
      try clear hfz33_3
      try clear hfz33_4
      try clear hfz33_5
      try clear hfz33_6
      try clear hfz33_7
      try clear hfz33_8
      try clear hfz33_9
      try clear hfz36_0
      try clear hfz36_1
      try clear hfz36_2
      try clear hfz36_3
      try clear hfz36_4
      try clear hfz36_5
      try clear hfz39_0
      try clear hfz39_1
      try clear hfz39_2
      try clear hfz39_3
      try clear hfz39_4
      try clear hfz39_5
      try clear hfz41_0
      try clear hfz41_1
      try clear hfz41_2
      try clear hfz41_3
      try clear hfz41_4
      try clear hfz41_5
      try clear hfz7_0
      try clear hfz7_1
      try clear hfz7_2
      try clear hfz7_3
      try clear hfz7_4
      try clear hfz7_5
      try clear p2
      obtain ⟨kq, x49_27, rfl, HA, HJ27, BK109, BK110, HB⟩ := hcut
      cases kq with
      | zero => exact absurd HA.out (by simp [trend_Check.j1])
      | succ kj27 =>
       have H := HA.out
       clear HA
       simp only [trend_Check.j1] at H
       by_cases c42 : x49_27 = true
       ·subst c42
        have H1 : (some 1) = some r := by rw [if_pos rfl] at H; exact H
        clear H
        have H := H1
        clear H1
        obtain rfl := Option.some.inj H
        go_wp2
        repeat (go_quiet (fail); try go_wp2)
        go_ret
        exact ⟨by first | rfl | (simp [errW_none, errW_some] <;> rfl) | (simp [*, errW_none, errW_some] <;> rfl), by repeat (first | (with_reducible first | exact HB.out | apply below_alloc | apply pw_below_drewN | apply below_drew1 | refine below_set ?_ GE109.out | refine below_set ?_ GE110.out) | exact HB.out)⟩
       ·replace c42 := Bool.eq_false_iff.mpr c42
        subst c42
        have H1 : (if a0_5 < 1 then (some 6) else (if a0_5 > 1024 then (some 6) else (if x5_2 = true then (if x6_2 = true then (some 0) else (some 6)) else (some 6)))) = some r := by rw [if_neg (show ¬ (false = true) by decide)] at H; exact H
        clear H
        have H := H1
        clear H1
        by_cases c43 : a0_5 < 1
        ·rw [if_pos c43] at H
         have c43b0 : decide (a0_5 < 1) = true := decide_eq_true c43
         clear c43
         obtain rfl := Option.some.inj H
         have hnb44 := NB109_110.out
         have hnc44 := NB110_109.out
         have hcz45_0 : wc.cell? ⟨gb109, 0, none⟩ = some (.string a0_0) := (blk_cell BK109.out 0).trans rfl
         have hcz45_1 : wc.cell? ⟨gb109, 1, none⟩ = some (.string a0_1) := (blk_cell BK109.out 1).trans rfl
         have hcz45_2 : wc.cell? ⟨gb109, 2, none⟩ = some (.int .i64 a0_2) := (blk_cell BK109.out 2).trans rfl
         have hcz45_3 : wc.cell? ⟨gb109, 3, none⟩ = some (.int .i64 a0_3) := (blk_cell BK109.out 3).trans rfl
         have hcz45_4 : wc.cell? ⟨gb109, 4, none⟩ = some (.int .i64 a0_4) := (blk_cell BK109.out 4).trans rfl
         have hcz45_5 : wc.cell? ⟨gb109, 5, none⟩ = some (.int .i64 a0_5) := (blk_cell BK109.out 5).trans rfl
         go_wp2
         repeat (go_quiet (fail); try go_wp2)
         go_ret
         exact ⟨by first | rfl | (simp [errW_none, errW_some] <;> rfl) | (simp [*, errW_none, errW_some] <;> rfl), by repeat (first | (with_reducible first | exact HB.out | apply below_alloc | apply pw_below_drewN | apply below_drew1 | refine below_set ?_ GE109.out | refine below_set ?_ GE110.out) | exact HB.out)⟩
        ·rw [if_neg c43] at H
         have c43b0 : decide (a0_5 < 1) = false := decide_eq_false c43
         clear c43
         by_cases c46 : a0_5 > 1024
         ·rw [if_pos c46] at H
          have c46b0 : decide (1024 < a0_5) = true := decide_eq_true c46
          clear c46
          obtain rfl := Option.some.inj H
          have hnb47 := NB109_110.out
          have hnc47 := NB110_109.out
          have hcz48_0 : wc.cell? ⟨gb109, 0, none⟩ = some (.string a0_0) := (blk_cell BK109.out 0).trans rfl
          have hcz48_1 : wc.cell? ⟨gb109, 1, none⟩ = some (.string a0_1) := (blk_cell BK109.out 1).trans rfl
          have hcz48_2 : wc.cell? ⟨gb109, 2, none⟩ = some (.int .i64 a0_2) := (blk_cell BK109.out 2).trans rfl
          have hcz48_3 : wc.cell? ⟨gb109, 3, none⟩ = some (.int .i64 a0_3) := (blk_cell BK109.out 3).trans rfl
          have hcz48_4 : wc.cell? ⟨gb109, 4, none⟩ = some (.int .i64 a0_4) := (blk_cell BK109.out 4).trans rfl
          have hcz48_5 : wc.cell? ⟨gb109, 5, none⟩ = some (.int .i64 a0_5) := (blk_cell BK109.out 5).trans rfl
          go_wp2
          repeat (go_quiet (fail); try go_wp2)
          go_ret
          exact ⟨by first | rfl | (simp [errW_none, errW_some] <;> rfl) | (simp [*, errW_none, errW_some] <;> rfl), by repeat (first | (with_reducible first | exact HB.out | apply below_alloc | apply pw_below_drewN | apply below_drew1 | refine below_set ?_ GE109.out | refine below_set ?_ GE110.out) | exact HB.out)⟩
         ·rw [if_neg c46] at H
          have c46b0 : decide (1024 < a0_5) = false := decide_eq_false c46
          clear c46
          by_cases c49 : x5_2 = true
          ·subst c49
           have H1 : (if x6_2 = true then (some 0) else (some 6)) = some r := by rw [if_pos rfl] at H; exact H
           clear H
           have H := H1
           clear H1
           by_cases c50 : x6_2 = true
           ·subst c50
            have H1 : (some 0) = some r := by rw [if_pos rfl] at H; exact H
            clear H
            have H := H1
            clear H1
            obtain rfl := Option.some.inj H
            have hnb51 := NB109_110.out
            have hnc51 := NB110_109.out
            have hcz52_0 : wc.cell? ⟨gb109, 0, none⟩ = some (.string a0_0) := (blk_cell BK109.out 0).trans rfl
            have hcz52_1 : wc.cell? ⟨gb109, 1, none⟩ = some (.string a0_1) := (blk_cell BK109.out 1).trans rfl
            have hcz52_2 : wc.cell? ⟨gb109, 2, none⟩ = some (.int .i64 a0_2) := (blk_cell BK109.out 2).trans rfl
            have hcz52_3 : wc.cell? ⟨gb109, 3, none⟩ = some (.int .i64 a0_3) := (blk_cell BK109.out 3).trans rfl
            have hcz52_4 : wc.cell? ⟨gb109, 4, none⟩ = some (.int .i64 a0_4) := (blk_cell BK109.out 4).trans rfl
            have hcz52_5 : wc.cell? ⟨gb109, 5, none⟩ = some (.int .i64 a0_5) := (blk_cell BK109.out 5).trans rfl
            go_wp2
            repeat (go_quiet (fail); try go_wp2)
            go_ret
            exact ⟨by first | rfl | (simp [errW_none, errW_some] <;> rfl) | (simp [*, errW_none, errW_some] <;> rfl), by repeat (first | (with_reducible first | exact HB.out | apply below_alloc | apply pw_below_drewN | apply below_drew1 | refine below_set ?_ GE109.out | refine below_set ?_ GE110.out) | exact HB.out)⟩
           ·replace c50 := Bool.eq_false_iff.mpr c50
            subst c50
            have H1 : (some 6) = some r := by rw [if_neg (show ¬ (false = true) by decide)] at H; exact H
            clear H
            have H := H1
            clear H1
            obtain rfl := Option.some.inj H
            have hnb53 := NB109_110.out
            have hnc53 := NB110_109.out
            have hcz54_0 : wc.cell? ⟨gb109, 0, none⟩ = some (.string a0_0) := (blk_cell BK109.out 0).trans rfl
            have hcz54_1 : wc.cell? ⟨gb109, 1, none⟩ = some (.string a0_1) := (blk_cell BK109.out 1).trans rfl
            have hcz54_2 : wc.cell? ⟨gb109, 2, none⟩ = some (.int .i64 a0_2) := (blk_cell BK109.out 2).trans rfl
            have hcz54_3 : wc.cell? ⟨gb109, 3, none⟩ = some (.int .i64 a0_3) := (blk_cell BK109.out 3).trans rfl
            have hcz54_4 : wc.cell? ⟨gb109, 4, none⟩ = some (.int .i64 a0_4) := (blk_cell BK109.out 4).trans rfl
            have hcz54_5 : wc.cell? ⟨gb109, 5, none⟩ = some (.int .i64 a0_5) := (blk_cell BK109.out 5).trans rfl
            go_wp2
            repeat (go_quiet (fail); try go_wp2)
            go_ret
            exact ⟨by first | rfl | (simp [errW_none, errW_some] <;> rfl) | (simp [*, errW_none, errW_some] <;> rfl), by repeat (first | (with_reducible first | exact HB.out | apply below_alloc | apply pw_below_drewN | apply below_drew1 | refine below_set ?_ GE109.out | refine below_set ?_ GE110.out) | exact HB.out)⟩
          ·replace c49 := Bool.eq_false_iff.mpr c49
           subst c49
           have H1 : (some 6) = some r := by rw [if_neg (show ¬ (false = true) by decide)] at H; exact H
           clear H
           have H := H1
           clear H1
           obtain rfl := Option.some.inj H
           have hnb55 := NB109_110.out
           have hnc55 := NB110_109.out
           have hcz56_0 : wc.cell? ⟨gb109, 0, none⟩ = some (.string a0_0) := (blk_cell BK109.out 0).trans rfl
           have hcz56_1 : wc.cell? ⟨gb109, 1, none⟩ = some (.string a0_1) := (blk_cell BK109.out 1).trans rfl
           have hcz56_2 : wc.cell? ⟨gb109, 2, none⟩ = some (.int .i64 a0_2) := (blk_cell BK109.out 2).trans rfl
           have hcz56_3 : wc.cell? ⟨gb109, 3, none⟩ = some (.int .i64 a0_3) := (blk_cell BK109.out 3).trans rfl
           have hcz56_4 : wc.cell? ⟨gb109, 4, none⟩ = some (.int .i64 a0_4) := (blk_cell BK109.out 4).trans rfl
           have hcz56_5 : wc.cell? ⟨gb109, 5, none⟩ = some (.int .i64 a0_5) := (blk_cell BK109.out 5).trans rfl
           go_wp2
           repeat (go_quiet (fail); try go_wp2)
           go_ret
           exact ⟨by first | rfl | (simp [errW_none, errW_some] <;> rfl) | (simp [*, errW_none, errW_some] <;> rfl), by repeat (first | (with_reducible first | exact HB.out | apply below_alloc | apply pw_below_drewN | apply below_drew1 | refine below_set ?_ GE109.out | refine below_set ?_ GE110.out) | exact HB.out)⟩
    ·rw [if_neg c27] at H
     have c27b0 : (a0_1.toList == a1_0.toList) = false := beq_eq_false_iff_ne.mpr c27
     have c27b1 : (a0_1.toList != a1_0.toList) = true := bne_iff_ne.mpr c27
     obtain rfl := Option.some.inj H
     have hnb57 := NB109_110.out
     have hnc57 := NB110_109.out
     have hcz58_0 : wc.cell? ⟨gb109, 0, none⟩ = some (.string a0_0) := (blk_cell BK109.out 0).trans rfl
     have hcz58_1 : wc.cell? ⟨gb109, 1, none⟩ = some (.string a0_1) := (blk_cell BK109.out 1).trans rfl
     have hcz58_2 : wc.cell? ⟨gb109, 2, none⟩ = some (.int .i64 a0_2) := (blk_cell BK109.out 2).trans rfl
     have hcz58_3 : wc.cell? ⟨gb109, 3, none⟩ = some (.int .i64 a0_3) := (blk_cell BK109.out 3).trans rfl
     have hcz58_4 : wc.cell? ⟨gb109, 4, none⟩ = some (.int .i64 a0_4) := (blk_cell BK109.out 4).trans rfl
     have hcz58_5 : wc.cell? ⟨gb109, 5, none⟩ = some (.int .i64 a0_5) := (blk_cell BK109.out 5).trans rfl
     go_wp2_with (first | (go_at_call 29; (with_reducible refine (lexer_Name.calls a0_0 true _ ?side99  A25.out).mono ?_); (case side99 => first | exact HG.out | exact Glob.below HG.out (by repeat (first | (with_reducible first | exact HB.out | apply below_alloc | apply pw_below_drewN | apply below_drew1 | refine below_set ?_ GE109.out | refine below_set ?_ GE110.out) | exact HB.out))); rintro e w59 ⟨rfl, hb⟩; have n0_ := Aside0.mk (blk_below (g := gb109) (o := .cells #[.string a0_0, .string a0_1, .int .i64 a0_2, .int .i64 a0_3, .int .i64 a0_4, .int .i64 a0_5] 23 (0, 0)) (by (with_reducible repeat (first | refine blk_drewN ?_ _ | refine blk_drew ?_ | refine blk_alloc ?_ _)); exact BK109.out) hb); have n1_ := Aside0.mk (blk_below (g := gb110) (o := .cells #[.string a1_0, .int .i64 a1_1, .int .i64 a1_2, .string a1_3, .int .i64 a1_4, .int .i64 a1_5, .int .i64 a1_6, .slice A1_7 l1_7.length c1_7, .int .i64 a1_8, .int .i64 a1_9, .int .i64 a1_10, .int .i64 a1_11] 51 (0, 0)) (by (with_reducible repeat (first | refine blk_drewN ?_ _ | refine blk_drew ?_ | refine blk_alloc ?_ _)); exact BK110.out) hb); have n2_ := Aside0.mk (below_step (by repeat (first | (with_reducible first | exact HB.out | apply below_alloc | apply pw_below_drewN | apply below_drew1 | refine below_set ?_ GE109.out | refine below_set ?_ GE110.out) | exact HB.out)) hb); clear BK109; clear BK110; clear HB; have BK109 := n0_; have BK110 := n1_; have HB := n2_; clear n0_ n1_ n2_; (try clear hb); (try clear hb2); (try clear hk); (try clear hi); have hcz60_0 : w59.cell? ⟨gb109, 0, none⟩ = some (.string a0_0) := (blk_cell BK109.out 0).trans rfl; have hcz60_1 : w59.cell? ⟨gb109, 1, none⟩ = some (.string a0_1) := (blk_cell BK109.out 1).trans rfl; have hcz60_2 : w59.cell? ⟨gb109, 2, none⟩ = some (.int .i64 a0_2) := (blk_cell BK109.out 2).trans rfl; have hcz60_3 : w59.cell? ⟨gb109, 3, none⟩ = some (.int .i64 a0_3) := (blk_cell BK109.out 3).trans rfl; have hcz60_4 : w59.cell? ⟨gb109, 4, none⟩ = some (.int .i64 a0_4) := (blk_cell BK109.out 4).trans rfl; have hcz60_5 : w59.cell? ⟨gb109, 5, none⟩ = some (.int .i64 a0_5) := (blk_cell BK109.out 5).trans rfl; have hcz61_0 : w59.cell? ⟨gb110, 0, none⟩ = some (.string a1_0) := (blk_cell BK110.out 0).trans rfl; have hcz61_1 : w59.cell? ⟨gb110, 1, none⟩ = some (.int .i64 a1_1) := (blk_cell BK110.out 1).trans rfl; have hcz61_2 : w59.cell? ⟨gb110, 2, none⟩ = some (.int .i64 a1_2) := (blk_cell BK110.out 2).trans rfl; have hcz61_3 : w59.cell? ⟨gb110, 3, none⟩ = some (.string a1_3) := (blk_cell BK110.out 3).trans rfl; have hcz61_4 : w59.cell? ⟨gb110, 4, none⟩ = some (.int .i64 a1_4) := (blk_cell BK110.out 4).trans rfl; have hcz61_5 : w59.cell? ⟨gb110, 5, none⟩ = some (.int .i64 a1_5) := (blk_cell BK110.out 5).trans rfl; have hcz61_6 : w59.cell? ⟨gb110, 6, none⟩ = some (.int .i64 a1_6) := (blk_cell BK110.out 6).trans rfl; have hcz61_7 : w59.cell? ⟨gb110, 7, none⟩ = some (.slice A1_7 l1_7.length c1_7) := (blk_cell BK110.out 7).trans rfl; have hcz61_8 : w59.cell? ⟨gb110, 8, none⟩ = some (.int .i64 a1_8) := (blk_cell BK110.out 8).trans rfl; have hcz61_9 : w59.cell? ⟨gb110, 9, none⟩ = some (.int .i64 a1_9) := (blk_cell BK110.out 9).trans rfl; have hcz61_10 : w59.cell? ⟨gb110, 10, none⟩ = some (.int .i64 a1_10) := (blk_cell BK110.out 10).trans rfl; have hcz61_11 : w59.cell? ⟨gb110, 11, none⟩ = some (.int .i64 a1_11) := (blk_cell BK110.out 11).trans rfl))
     repeat (go_quiet (first | (go_at_call 29; (with_reducible refine (lexer_Name.calls a0_0 true _ ?side99  A25.out).mono ?_); (case side99 => first | exact HG.out | exact Glob.below HG.out (by repeat (first | (with_reducible first | exact HB.out | apply below_alloc | apply pw_below_drewN | apply below_drew1 | refine below_set ?_ GE109.out | refine below_set ?_ GE110.out) | exact HB.out))); rintro e w59 ⟨rfl, hb⟩; have n0_ := Aside0.mk (blk_below (g := gb109) (o := .cells #[.string a0_0, .string a0_1, .int .i64 a0_2, .int .i64 a0_3, .int .i64 a0_4, .int .i64 a0_5] 23 (0, 0)) (by (with_reducible repeat (first | refine blk_drewN ?_ _ | refine blk_drew ?_ | refine blk_alloc ?_ _)); exact BK109.out) hb); have n1_ := Aside0.mk (blk_below (g := gb110) (o := .cells #[.string a1_0, .int .i64 a1_1, .int .i64 a1_2, .string a1_3, .int .i64 a1_4, .int .i64 a1_5, .int .i64 a1_6, .slice A1_7 l1_7.length c1_7, .int .i64 a1_8, .int .i64 a1_9, .int .i64 a1_10, .int .i64 a1_11] 51 (0, 0)) (by (with_reducible repeat (first | refine blk_drewN ?_ _ | refine blk_drew ?_ | refine blk_alloc ?_ _)); exact BK110.out) hb); have n2_ := Aside0.mk (below_step (by repeat (first | (with_reducible first | exact HB.out | apply below_alloc | apply pw_below_drewN | apply below_drew1 | refine below_set ?_ GE109.out | refine below_set ?_ GE110.out) | exact HB.out)) hb); clear BK109; clear BK110; clear HB; have BK109 := n0_; have BK110 := n1_; have HB := n2_; clear n0_ n1_ n2_; (try clear hb); (try clear hb2); (try clear hk); (try clear hi); have hcz60_0 : w59.cell? ⟨gb109, 0, none⟩ = some (.string a0_0) := (blk_cell BK109.out 0).trans rfl; have hcz60_1 : w59.cell? ⟨gb109, 1, none⟩ = some (.string a0_1) := (blk_cell BK109.out 1).trans rfl; have hcz60_2 : w59.cell? ⟨gb109, 2, none⟩ = some (.int .i64 a0_2) := (blk_cell BK109.out 2).trans rfl; have hcz60_3 : w59.cell? ⟨gb109, 3, none⟩ = some (.int .i64 a0_3) := (blk_cell BK109.out 3).trans rfl; have hcz60_4 : w59.cell? ⟨gb109, 4, none⟩ = some (.int .i64 a0_4) := (blk_cell BK109.out 4).trans rfl; have hcz60_5 : w59.cell? ⟨gb109, 5, none⟩ = some (.int .i64 a0_5) := (blk_cell BK109.out 5).trans rfl; have hcz61_0 : w59.cell? ⟨gb110, 0, none⟩ = some (.string a1_0) := (blk_cell BK110.out 0).trans rfl; have hcz61_1 : w59.cell? ⟨gb110, 1, none⟩ = some (.int .i64 a1_1) := (blk_cell BK110.out 1).trans rfl; have hcz61_2 : w59.cell? ⟨gb110, 2, none⟩ = some (.int .i64 a1_2) := (blk_cell BK110.out 2).trans rfl; have hcz61_3 : w59.cell? ⟨gb110, 3, none⟩ = some (.string a1_3) := (blk_cell BK110.out 3).trans rfl; have hcz61_4 : w59.cell? ⟨gb110, 4, none⟩ = some (.int .i64 a1_4) := (blk_cell BK110.out 4).trans rfl; have hcz61_5 : w59.cell? ⟨gb110, 5, none⟩ = some (.int .i64 a1_5) := (blk_cell BK110.out 5).trans rfl; have hcz61_6 : w59.cell? ⟨gb110, 6, none⟩ = some (.int .i64 a1_6) := (blk_cell BK110.out 6).trans rfl; have hcz61_7 : w59.cell? ⟨gb110, 7, none⟩ = some (.slice A1_7 l1_7.length c1_7) := (blk_cell BK110.out 7).trans rfl; have hcz61_8 : w59.cell? ⟨gb110, 8, none⟩ = some (.int .i64 a1_8) := (blk_cell BK110.out 8).trans rfl; have hcz61_9 : w59.cell? ⟨gb110, 9, none⟩ = some (.int .i64 a1_9) := (blk_cell BK110.out 9).trans rfl; have hcz61_10 : w59.cell? ⟨gb110, 10, none⟩ = some (.int .i64 a1_10) := (blk_cell BK110.out 10).trans rfl; have hcz61_11 : w59.cell? ⟨gb110, 11, none⟩ = some (.int .i64 a1_11) := (blk_cell BK110.out 11).trans rfl)); try go_wp2_with (first | (go_at_call 29; (with_reducible refine (lexer_Name.calls a0_0 true _ ?side99  A25.out).mono ?_); (case side99 => first | exact HG.out | exact Glob.below HG.out (by repeat (first | (with_reducible first | exact HB.out | apply below_alloc | apply pw_below_drewN | apply below_drew1 | refine below_set ?_ GE109.out | refine below_set ?_ GE110.out) | exact HB.out))); rintro e w59 ⟨rfl, hb⟩; have n0_ := Aside0.mk (blk_below (g := gb109) (o := .cells #[.string a0_0, .string a0_1, .int .i64 a0_2, .int .i64 a0_3, .int .i64 a0_4, .int .i64 a0_5] 23 (0, 0)) (by (with_reducible repeat (first | refine blk_drewN ?_ _ | refine blk_drew ?_ | refine blk_alloc ?_ _)); exact BK109.out) hb); have n1_ := Aside0.mk (blk_below (g := gb110) (o := .cells #[.string a1_0, .int .i64 a1_1, .int .i64 a1_2, .string a1_3, .int .i64 a1_4, .int .i64 a1_5, .int .i64 a1_6, .slice A1_7 l1_7.length c1_7, .int .i64 a1_8, .int .i64 a1_9, .int .i64 a1_10, .int .i64 a1_11] 51 (0, 0)) (by (with_reducible repeat (first | refine blk_drewN ?_ _ | refine blk_drew ?_ | refine blk_alloc ?_ _)); exact BK110.out) hb); have n2_ := Aside0.mk (below_step (by repeat (first | (with_reducible first | exact HB.out | apply below_alloc | apply pw_below_drewN | apply below_drew1 | refine below_set ?_ GE109.out | refine below_set ?_ GE110.out) | exact HB.out)) hb); clear BK109; clear BK110; clear HB; have BK109 := n0_; have BK110 := n1_; have HB := n2_; clear n0_ n1_ n2_; (try clear hb); (try clear hb2); (try clear hk); (try clear hi); have hcz60_0 : w59.cell? ⟨gb109, 0, none⟩ = some (.string a0_0) := (blk_cell BK109.out 0).trans rfl; have hcz60_1 : w59.cell? ⟨gb109, 1, none⟩ = some (.string a0_1) := (blk_cell BK109.out 1).trans rfl; have hcz60_2 : w59.cell? ⟨gb109, 2, none⟩ = some (.int .i64 a0_2) := (blk_cell BK109.out 2).trans rfl; have hcz60_3 : w59.cell? ⟨gb109, 3, none⟩ = some (.int .i64 a0_3) := (blk_cell BK109.out 3).trans rfl; have hcz60_4 : w59.cell? ⟨gb109, 4, none⟩ = some (.int .i64 a0_4) := (blk_cell BK109.out 4).trans rfl; have hcz60_5 : w59.cell? ⟨gb109, 5, none⟩ = some (.int .i64 a0_5) := (blk_cell BK109.out 5).trans rfl; have hcz61_0 : w59.cell? ⟨gb110, 0, none⟩ = some (.string a1_0) := (blk_cell BK110.out 0).trans rfl; have hcz61_1 : w59.cell? ⟨gb110, 1, none⟩ = some (.int .i64 a1_1) := (blk_cell BK110.out 1).trans rfl; have hcz61_2 : w59.cell? ⟨gb110, 2, none⟩ = some (.int .i64 a1_2) := (blk_cell BK110.out 2).trans rfl; have hcz61_3 : w59.cell? ⟨gb110, 3, none⟩ = some (.string a1_3) := (blk_cell BK110.out 3).trans rfl; have hcz61_4 : w59.cell? ⟨gb110, 4, none⟩ = some (.int .i64 a1_4) := (blk_cell BK110.out 4).trans rfl; have hcz61_5 : w59.cell? ⟨gb110, 5, none⟩ = some (.int .i64 a1_5) := (blk_cell BK110.out 5).trans rfl; have hcz61_6 : w59.cell? ⟨gb110, 6, none⟩ = some (.int .i64 a1_6) := (blk_cell BK110.out 6).trans rfl; have hcz61_7 : w59.cell? ⟨gb110, 7, none⟩ = some (.slice A1_7 l1_7.length c1_7) := (blk_cell BK110.out 7).trans rfl; have hcz61_8 : w59.cell? ⟨gb110, 8, none⟩ = some (.int .i64 a1_8) := (blk_cell BK110.out 8).trans rfl; have hcz61_9 : w59.cell? ⟨gb110, 9, none⟩ = some (.int .i64 a1_9) := (blk_cell BK110.out 9).trans rfl; have hcz61_10 : w59.cell? ⟨gb110, 10, none⟩ = some (.int .i64 a1_10) := (blk_cell BK110.out 10).trans rfl; have hcz61_11 : w59.cell? ⟨gb110, 11, none⟩ = some (.int .i64 a1_11) := (blk_cell BK110.out 11).trans rfl)))
     go_ret
     exact ⟨by first | rfl | (simp [errW_none, errW_some] <;> rfl) | (simp [*, errW_none, errW_some] <;> rfl), by repeat (first | (with_reducible first | exact HB.out | apply below_alloc | apply pw_below_drewN | apply below_drew1 | refine below_set ?_ GE109.out | refine below_set ?_ GE110.out) | exact HB.out)⟩
   ·replace c26 := Bool.eq_false_iff.mpr c26
    subst c26
    have H1 : (some 4) = some r := by rw [if_neg (show ¬ (false = true) by decide)] at H; exact H
    clear H
    have H := H1
    clear H1
    obtain rfl := Option.some.inj H
    have hnb62 := NB109_110.out
    have hnc62 := NB110_109.out
    have hcz63_0 : wc.cell? ⟨gb109, 0, none⟩ = some (.string a0_0) := (blk_cell BK109.out 0).trans rfl
    have hcz63_1 : wc.cell? ⟨gb109, 1, none⟩ = some (.string a0_1) := (blk_cell BK109.out 1).trans rfl
    have hcz63_2 : wc.cell? ⟨gb109, 2, none⟩ = some (.int .i64 a0_2) := (blk_cell BK109.out 2).trans rfl
    have hcz63_3 : wc.cell? ⟨gb109, 3, none⟩ = some (.int .i64 a0_3) := (blk_cell BK109.out 3).trans rfl
    have hcz63_4 : wc.cell? ⟨gb109, 4, none⟩ = some (.int .i64 a0_4) := (blk_cell BK109.out 4).trans rfl
    have hcz63_5 : wc.cell? ⟨gb109, 5, none⟩ = some (.int .i64 a0_5) := (blk_cell BK109.out 5).trans rfl
    go_wp2_with (first | (go_at_call 29; (with_reducible refine (lexer_Name.calls a0_0 false _ ?side99  A25.out).mono ?_); (case side99 => first | exact HG.out | exact Glob.below HG.out (by repeat (first | (with_reducible first | exact HB.out | apply below_alloc | apply pw_below_drewN | apply below_drew1 | refine below_set ?_ GE109.out | refine below_set ?_ GE110.out) | exact HB.out))); rintro e w64 ⟨rfl, hb⟩; have n0_ := Aside0.mk (blk_below (g := gb109) (o := .cells #[.string a0_0, .string a0_1, .int .i64 a0_2, .int .i64 a0_3, .int .i64 a0_4, .int .i64 a0_5] 23 (0, 0)) (by (with_reducible repeat (first | refine blk_drewN ?_ _ | refine blk_drew ?_ | refine blk_alloc ?_ _)); exact BK109.out) hb); have n1_ := Aside0.mk (blk_below (g := gb110) (o := .cells #[.string a1_0, .int .i64 a1_1, .int .i64 a1_2, .string a1_3, .int .i64 a1_4, .int .i64 a1_5, .int .i64 a1_6, .slice A1_7 l1_7.length c1_7, .int .i64 a1_8, .int .i64 a1_9, .int .i64 a1_10, .int .i64 a1_11] 51 (0, 0)) (by (with_reducible repeat (first | refine blk_drewN ?_ _ | refine blk_drew ?_ | refine blk_alloc ?_ _)); exact BK110.out) hb); have n2_ := Aside0.mk (below_step (by repeat (first | (with_reducible first | exact HB.out | apply below_alloc | apply pw_below_drewN | apply below_drew1 | refine below_set ?_ GE109.out | refine below_set ?_ GE110.out) | exact HB.out)) hb); clear BK109; clear BK110; clear HB; have BK109 := n0_; have BK110 := n1_; have HB := n2_; clear n0_ n1_ n2_; (try clear hb); (try clear hb2); (try clear hk); (try clear hi)))
    repeat (go_quiet (first | (go_at_call 29; (with_reducible refine (lexer_Name.calls a0_0 false _ ?side99  A25.out).mono ?_); (case side99 => first | exact HG.out | exact Glob.below HG.out (by repeat (first | (with_reducible first | exact HB.out | apply below_alloc | apply pw_below_drewN | apply below_drew1 | refine below_set ?_ GE109.out | refine below_set ?_ GE110.out) | exact HB.out))); rintro e w64 ⟨rfl, hb⟩; have n0_ := Aside0.mk (blk_below (g := gb109) (o := .cells #[.string a0_0, .string a0_1, .int .i64 a0_2, .int .i64 a0_3, .int .i64 a0_4, .int .i64 a0_5] 23 (0, 0)) (by (with_reducible repeat (first | refine blk_drewN ?_ _ | refine blk_drew ?_ | refine blk_alloc ?_ _)); exact BK109.out) hb); have n1_ := Aside0.mk (blk_below (g := gb110) (o := .cells #[.string a1_0, .int .i64 a1_1, .int .i64 a1_2, .string a1_3, .int .i64 a1_4, .int .i64 a1_5, .int .i64 a1_6, .slice A1_7 l1_7.length c1_7, .int .i64 a1_8, .int .i64 a1_9, .int .i64 a1_10, .int .i64 a1_11] 51 (0, 0)) (by (with_reducible repeat (first | refine blk_drewN ?_ _ | refine blk_drew ?_ | refine blk_alloc ?_ _)); exact BK110.out) hb); have n2_ := Aside0.mk (below_step (by repeat (first | (with_reducible first | exact HB.out | apply below_alloc | apply pw_below_drewN | apply below_drew1 | refine below_set ?_ GE109.out | refine below_set ?_ GE110.out) | exact HB.out)) hb); clear BK109; clear BK110; clear HB; have BK109 := n0_; have BK110 := n1_; have HB := n2_; clear n0_ n1_ n2_; (try clear hb); (try clear hb2); (try clear hk); (try clear hi))); try go_wp2_with (first | (go_at_call 29; (with_reducible refine (lexer_Name.calls a0_0 false _ ?side99  A25.out).mono ?_); (case side99 => first | exact HG.out | exact Glob.below HG.out (by repeat (first | (with_reducible first | exact HB.out | apply below_alloc | apply pw_below_drewN | apply below_drew1 | refine below_set ?_ GE109.out | refine below_set ?_ GE110.out) | exact HB.out))); rintro e w64 ⟨rfl, hb⟩; have n0_ := Aside0.mk (blk_below (g := gb109) (o := .cells #[.string a0_0, .string a0_1, .int .i64 a0_2, .int .i64 a0_3, .int .i64 a0_4, .int .i64 a0_5] 23 (0, 0)) (by (with_reducible repeat (first | refine blk_drewN ?_ _ | refine blk_drew ?_ | refine blk_alloc ?_ _)); exact BK109.out) hb); have n1_ := Aside0.mk (blk_below (g := gb110) (o := .cells #[.string a1_0, .int .i64 a1_1, .int .i64 a1_2, .string a1_3, .int .i64 a1_4, .int .i64 a1_5, .int .i64 a1_6, .slice A1_7 l1_7.length c1_7, .int .i64 a1_8, .int .i64 a1_9, .int .i64 a1_10, .int .i64 a1_11] 51 (0, 0)) (by (with_reducible repeat (first | refine blk_drewN ?_ _ | refine blk_drew ?_ | refine blk_alloc ?_ _)); exact BK110.out) hb); have n2_ := Aside0.mk (below_step (by repeat (first | (with_reducible first | exact HB.out | apply below_alloc | apply pw_below_drewN | apply below_drew1 | refine below_set ?_ GE109.out | refine below_set ?_ GE110.out) | exact HB.out)) hb); clear BK109; clear BK110; clear HB; have BK109 := n0_; have BK110 := n1_; have HB := n2_; clear n0_ n1_ n2_; (try clear hb); (try clear hb2); (try clear hk); (try clear hi))))
    go_ret
    exact ⟨by first | rfl | (simp [errW_none, errW_some] <;> rfl) | (simp [*, errW_none, errW_some] <;> rfl), by repeat (first | (with_reducible first | exact HB.out | apply below_alloc | apply pw_below_drewN | apply below_drew1 | refine below_set ?_ GE109.out | refine below_set ?_ GE110.out) | exact HB.out)⟩
end Go.Proofs.YtbccjcdmpiolpaaDoor.T
end
section
namespace Go.Proofs.YtbccjcdmpiolpaaDoor.T
open Go.RowKit Go.Proofs.YtbccjcdmpiolpaaDoorW.PrintWords Go.Proofs.YtbccjcdmpiolpaaDoorW.PrintLast Go.Proofs.YtbccjcdmpiolpaaDoorW.PrintMore
attribute [local go_sem] max2_int min2_int max_two min_two max_three min_three max_four min_four
set_option linter.unusedVariables false
set_option linter.unusedSimpArgs false
def plenumlaw41_reading.f (a0 : Int) (a1 : Int) : Option (Int × Int × Int × Int) := some (1, a1, 0, a0)
set_option maxHeartbeats 8000000 in
set_option maxRecDepth 100000 in
theorem plenumlaw41_reading.calls (a0 : Int) (a1 : Int) (r1 : Int) (r2 : Int) (r3 : Int) (r4 : Int) (w : World) (hG : Glob w) (h : plenumlaw41_reading.f a0 a1 = some (r1, r2, r3, r4)) :
  Calls Tryd.prog 23 #[.int .i64 a0, .int .i64 a1] w fun e w' => e = .returned (.agg #[.int .i64 r1, .int .i64 r2, .int .i64 r3, .int .i64 r4]) ∧ Below w.heap.size w w' := by
 have hu32 := Tryd.underlying32
 have hu30 := Tryd.underlying30
 have HG := Aside0.mk hG
 clear hG
 have HB := Aside0.mk (Below.refl w.heap.size w)
 have H : (some (1, a1, 0, a0)) = some (r1, r2, r3, r4) := h
 clear h
 simp only [Option.some.injEq, Prod.mk.injEq] at H
 obtain ⟨rfl, rfl, rfl, rfl⟩ := H
 go_enter Tryd.func23, Tryd.ntmps23
 go_wp2_with (first | ((with_reducible refine gate_dst (N := 4) rfl ?_); refine box_event ?hg (N := 4) ?hd (cs := #[.int .i64 0, .int .i64 0, .int .i64 0, .int .i64 0]) (t := 32) ?hr ?_; (case hd => rfl); (case hg => rfl); (case hr => first | (go_simp; done) | (go_simp; rfl)); intro gb162 hg w3 hbox hb; have n0_ := Aside0.mk (below_step (by repeat (first | (with_reducible first | exact HB.out | apply below_alloc | apply pw_below_drewN | apply below_drew1) | exact HB.out)) hb); have n1_ := Aside0.mk (hbox); have n2_ := Aside0.mk ((by rw [hg]; exact (below_size (by repeat (first | (with_reducible first | exact HB.out | apply below_alloc | apply pw_below_drewN | apply below_drew1) | exact HB.out))) : w.heap.size ≤ gb162)); have n3_ := Aside0.mk ((by rw [hg]; exact (below_size (by repeat (first | (with_reducible first | exact HB.out | apply below_alloc | apply pw_below_drewN | apply below_drew1) | exact HB.out))) : w.heap.size ≤ gb162)); clear HB; have HB := n0_; have BK162 := n1_; have GW162 := n2_; have GE162 := n3_; clear n0_ n1_ n2_ n3_; clear hb hbox hg; have hcz4_0 : w3.cell? ⟨gb162, 0, none⟩ = some (.int .i64 0) := (blk_cell BK162.out 0).trans rfl; have hcz4_1 : w3.cell? ⟨gb162, 1, none⟩ = some (.int .i64 0) := (blk_cell BK162.out 1).trans rfl; have hcz4_2 : w3.cell? ⟨gb162, 2, none⟩ = some (.int .i64 0) := (blk_cell BK162.out 2).trans rfl; have hcz4_3 : w3.cell? ⟨gb162, 3, none⟩ = some (.int .i64 0) := (blk_cell BK162.out 3).trans rfl; have hfz4_0 := blk_frozen BK162.out 0; have hfz4_1 := blk_frozen BK162.out 1; have hfz4_2 := blk_frozen BK162.out 2; have hfz4_3 := blk_frozen BK162.out 3))
 refine bodyPost_ret (results_cell_row rfl _ _ gb162 32 #[.int .i64 1, .int .i64 a1, .int .i64 0, .int .i64 a0] (0, 0) _ rfl (by (with_reducible repeat (first | refine blk_drewN ?_ _ | refine blk_drew ?_ | refine blk_alloc ?_ _)); refine blk_put (cs := #[.int .i64 1, .int .i64 a1, .int .i64 0, .int .i64 0]) ?_ 3 _ rfl; (with_reducible repeat (first | refine blk_drewN ?_ _ | refine blk_drew ?_ | refine blk_alloc ?_ _)); refine blk_put (cs := #[.int .i64 1, .int .i64 a1, .int .i64 0, .int .i64 0]) ?_ 2 _ rfl; (with_reducible repeat (first | refine blk_drewN ?_ _ | refine blk_drew ?_ | refine blk_alloc ?_ _)); refine blk_put (cs := #[.int .i64 1, .int .i64 0, .int .i64 0, .int .i64 0]) ?_ 1 _ rfl; (with_reducible repeat (first | refine blk_drewN ?_ _ | refine blk_drew ?_ | refine blk_alloc ?_ _)); refine blk_put (cs := #[.int .i64 0, .int .i64 0, .int .i64 0, .int .i64 0]) ?_ 0 _ rfl; (with_reducible repeat (first | refine blk_drewN ?_ _ | refine blk_drew ?_ | refine blk_alloc ?_ _)); exact BK162.out) Tryd.underlying32 rfl (by kernel_rfl)) rfl ?_
 exact ⟨by first | rfl | (simp [errW_none, errW_some] <;> rfl) | (simp [*, errW_none, errW_some] <;> rfl), by repeat (first | (with_reducible first | exact HB.out | apply below_alloc | apply pw_below_drewN | apply below_drew1 | refine below_set ?_ GE162.out) | exact HB.out)⟩
end Go.Proofs.YtbccjcdmpiolpaaDoor.T
end
section
namespace Go.Proofs.YtbccjcdmpiolpaaDoor.T
open Go.RowKit Go.Proofs.YtbccjcdmpiolpaaDoor.Pure Go.Proofs.YtbccjcdmpiolpaaDoorW.PrintWords Go.Proofs.YtbccjcdmpiolpaaDoorW.PrintLast Go.Proofs.YtbccjcdmpiolpaaDoorW.PrintMore
set_option linter.unusedVariables false
set_option linter.unusedSimpArgs false
attribute [local go_sem] max2_int min2_int max_two min_two
set_option maxHeartbeats 16000000 in
set_option maxRecDepth 100000 in
theorem trigE_calls (B g : Nat) (L : Lg) (at_ : Int) (w : World) (h : LogAt B g L w) (h1 : L.now ≤ at_) (h2 : L.way ≠ 3) :
  Calls Tryd.prog 24 #[.pointer (some ⟨g, 0, none⟩), .int .i64 at_] w fun e w' => e = .returned (.int .i64 8) ∧ w' = w := by
 obtain ⟨v0, ring, f, hG, hge, _⟩ := h
 have c6 := (blk_cell hG 6).trans rfl
 have c2 := (blk_cell hG 2).trans rfl
 have hb : decide (at_ < L.now) = false := decide_eq_false (by omega)
 have hb2 : (L.way != 3) = true := bne_iff_ne.mpr h2
 clear hG hge h1 h2
 go_enter Tryd.func24, Tryd.ntmps24
 go_wp2
 go_ret
 exact ⟨rfl, rfl⟩
abbrev sLog : ByteArray := ⟨#[108, 111, 103]⟩
abbrev sTemp : ByteArray := ⟨#[116, 101, 109, 112]⟩
def aL0 : Lg := ⟨sLog, sTemp, 1, 60, 0, 2, 100, false, 0, 0, 0, 0, 0, []⟩
def aL1 : Lg := ⟨sLog, sTemp, 1, 60, 0, 2, 110, true, 1, 20000, 0, 110, 0, []⟩
def aR1 : S44 := ⟨1, 120, ⟨1, 20000⟩, 0, 0⟩
def aR2 : S44 := ⟨2, 180, ⟨1, 20000⟩, 0, 0⟩
def aR3 : S44 := ⟨3, 240, ⟨1, 22000⟩, 0, 0⟩
def aL2 : Lg := ⟨sLog, sTemp, 1, 60, 0, 2, 200, true, 1, 21000, 0, 200, 2, [aR1, aR2]⟩
def aL3 : Lg := ⟨sLog, sTemp, 1, 60, 0, 2, 240, true, 1, 22000, 0, 240, 3, [aR2, aR3]⟩
def aK : Lg := ⟨sLog, sTemp, 1, 60, 0, 2, 240, false, 0, 0, 0, 0, 3, [aR2, aR3]⟩
def aK2 : Lg := ⟨sLog, sTemp, 1, 60, 0, 2, 500, false, 0, 0, 0, 0, 3, [aR2, aR3]⟩
theorem ob1 (d : Bool) : aL0.obs 1 20000 0 110 d = (aL1, 0, 0) := by cases d <;> kernel_rfl
theorem ob2 (d : Bool) : aL1.obs 1 21000 0 200 d = (aL2, 2, 0) := by cases d <;> kernel_rfl
theorem ob3 (d : Bool) : aL2.obs 1 22000 0 240 d = (aL3, 1, 0) := by cases d <;> kernel_rfl
theorem af1 : aL3.after 0 10 = ([⟨1, 0, ⟨0, 0⟩, 0, 1⟩, aR2, aR3], 0) := by kernel_rfl
theorem tk1 : aK.tick 500 = (aK2, 0, 0) := by kernel_rfl
theorem rs1 : restS (strOfNums (saveB 3 240 [aR2, aR3])) 2 = some (3, 240, [aR2, aR3]) := by kernel_rfl
theorem ck1 : trend_Check.f 10 sLog sTemp 1 60 0 2 sTemp 1 0 ⟨#[]⟩ 0 0 0 [] 0 0 0 0 = some 0 := by kernel_rfl
theorem ck2 : trend_Check.f 10 sLog sTemp 1 60 0 2 ⟨#[]⟩ 0 0 ⟨#[]⟩ 0 0 0 [] 0 0 0 0 = some 3 := by kernel_rfl
theorem sm1 : plenumref41_Same.f 10 [aR2, aR3] [aR2, aR3] = some true := by kernel_rfl
end Go.Proofs.YtbccjcdmpiolpaaDoor.T
end
section
namespace Go.Proofs.YtbccjcdmpiolpaaDoor.T
open Go.RowKit Go.Proofs.YtbccjcdmpiolpaaDoor.Pure Go.Proofs.YtbccjcdmpiolpaaDoorW.PrintWords Go.Proofs.YtbccjcdmpiolpaaDoorW.PrintLast Go.Proofs.YtbccjcdmpiolpaaDoorW.PrintMore
set_option linter.unusedVariables false
set_option linter.unusedSimpArgs false
attribute [local go_sem] max2_int min2_int max_two min_two
theorem ckA (w : World) (hG : Glob w) : Calls Tryd.prog 17 #[.agg #[.string sLog, .string sTemp, .int .i64 1, .int .i64 60, .int .i64 0, .int .i64 2], .agg #[.string sTemp, .int .i64 1, .int .i64 0, .string ⟨#[]⟩, .int .i64 0, .int .i64 0, .int .i64 0, .slice none 0 0, .int .i64 0, .int .i64 0, .int .i64 0, .int .i64 0]] w fun e w' => e = .returned (.int .i64 0) ∧ Below w.heap.size w w' :=
 trend_Check.calls 10 sLog sTemp 1 60 0 2 sTemp 1 0 ⟨#[]⟩ 0 0 0 none 0 [] 0 0 0 0 0 w hG (Kd.C_nil _ _) (Nat.le_refl _) ck1
theorem ckB (w : World) (hG : Glob w) : Calls Tryd.prog 17 #[.agg #[.string sLog, .string sTemp, .int .i64 1, .int .i64 60, .int .i64 0, .int .i64 2], .agg #[.string ⟨#[]⟩, .int .i64 0, .int .i64 0, .string ⟨#[]⟩, .int .i64 0, .int .i64 0, .int .i64 0, .slice none 0 0, .int .i64 0, .int .i64 0, .int .i64 0, .int .i64 0]] w fun e w' => e = .returned (.int .i64 3) ∧ Below w.heap.size w w' :=
 trend_Check.calls 10 sLog sTemp 1 60 0 2 ⟨#[]⟩ 0 0 ⟨#[]⟩ 0 0 0 none 0 [] 0 0 0 0 3 w hG (Kd.C_nil _ _) (Nat.le_refl _) ck2
theorem smA (A B : Option Addr) (c d : Nat) (w : World) (hG : Glob w) (h1 : Kd.C k44 w A 2 [aR2, aR3]) (h2 : 2 ≤ c) (h3 : Kd.C k44 w B 2 [aR2, aR3]) (h4 : 2 ≤ d) : Calls Tryd.prog 21 #[.slice A 2 c, .slice B 2 d] w fun e w' => e = .returned (.bool true) ∧ Drawn0 w w' :=
 plenumref41_Same.calls 10 A c [aR2, aR3] B d [aR2, aR3] true w hG h1 h2 h3 h4 sm1
theorem elemA {w : World} {A : Option Addr} (h : Kd.C k44 w A 3 [⟨1, 0, ⟨0, 0⟩, 0, 1⟩, aR2, aR3]) : (∃ ad, A = some ad) ∧ ∀ ad : Addr, A = some ad → w.cell? ad = some (.int .i64 1) ∧ w.cell? ⟨ad.block, ad.off + 1, none⟩ = some (.int .i64 0) ∧ w.cell? ⟨ad.block, ad.off + 2, none⟩ = some (.int .i64 0) ∧ w.cell? ⟨ad.block, ad.off + 3, none⟩ = some (.int .i64 0) ∧ w.cell? ⟨ad.block, ad.off + 4, none⟩ = some (.int .i64 0) ∧ w.cell? ⟨ad.block, ad.off + 5, none⟩ = some (.int .i64 1) ∧ w.cell? ⟨ad.block, ad.off + 6 + 1, none⟩ = some (.int .i64 180) := by
 obtain ⟨ad, ea, z0, z1, z2, z3, z4, z5⟩ := at_T44 h 0 (by decide) (by decide)
 obtain ⟨ad2, eb, y0, y1, y2, y3, y4, y5⟩ := at_T44 h 1 (by decide) (by decide)
 refine ⟨⟨ad, ea⟩, fun a e => ?_⟩
 rw [e] at ea eb
 injection ea with ea
 injection eb with eb
 subst ea eb
 exact ⟨z0, z1, z2, z3, z4, z5, y1⟩
theorem okaL0 : OkL aL0 := ⟨by decide, by decide, by decide, by decide, by decide, by decide, by decide, fun _ => by decide⟩
theorem okaL1 : OkL aL1 := ⟨by decide, by decide, by decide, by decide, by decide, by decide, by decide, fun _ => by decide⟩
theorem okaL2 : OkL aL2 := ⟨by decide, by decide, by decide, by decide, by decide, by decide, by decide, fun _ => by decide⟩
theorem okaK : OkL aK := ⟨by decide, by decide, by decide, by decide, by decide, by decide, by decide, fun _ => by decide⟩
theorem okR : ∀ x ∈ aL3.recs, Ok44 x := by
 intro x hx
 rcases List.mem_cons.1 hx with rfl | hx
 ·exact ⟨by decide, by decide⟩
 rcases List.mem_cons.1 hx with rfl | hx
 ·exact ⟨by decide, by decide⟩
 ·cases hx
set_option maxHeartbeats 16000000 in
set_option maxRecDepth 100000 in
theorem awake_calls (w : World) (hG : Glob w) : Calls Tryd.prog 8 #[] w fun e w' => e = .returned (.bool true) ∧ Below w.heap.size w w' := by
 have H0 := Aside0.mk (show 0 < w.heap.size by obtain ⟨t, h⟩ := hG; exact blk_lt h)
 have HG := Aside0.mk hG
 have hu44 := Tryd.underlying44
 have hu30 := Tryd.underlying30
 clear hG
 go_enter Tryd.func8, Tryd.ntmps8
 go_wp2_with (first | ((with_reducible refine gate_dst (N := 1) rfl ?_); refine box_event ?hg (N := 1) ?hd (cs := #[.string ⟨#[]⟩, .string ⟨#[]⟩, .int .i64 0, .int .i64 0, .int .i64 0, .int .i64 0]) (t := 23) ?hr ?_; (case hd => rfl); (case hg => rfl); (case hr => first | (go_simp; done) | (go_simp; rfl)); intro gr hgz w1 hbox hb; have HR1 := Aside0.mk hbox; have HB1 := Aside0.mk hb; have HGR := Aside0.mk (show w.heap.size ≤ gr by rw [hgz]; exact Nat.le_refl _); clear hb hbox hgz) | (refine wpList_store_row rfl 23 (.tmp 1) (.tmp 15) rfl gr #[.string sLog, .string sTemp, .int .i64 1, .int .i64 60, .int .i64 0, .int .i64 2] rfl rfl 23 #[.string ⟨#[]⟩, .string ⟨#[]⟩, .int .i64 0, .int .i64 0, .int .i64 0, .int .i64 0] HR1.out (by kernel_rfl) rfl (by simp [Value.oneCell']) ?_; have HR2 := Aside0.mk (setRow_heap _ _ _ #[.string sLog, .string sTemp, .int .i64 1, .int .i64 60, .int .i64 0, .int .i64 2] _ _ HR1.out); have HB2 := Aside0.mk (below_setRow HB1.out HGR.out #[.string sLog, .string sTemp, .int .i64 1, .int .i64 60, .int .i64 0, .int .i64 2]); generalize w1.setRow gr #[.string sLog, .string sTemp, .int .i64 1, .int .i64 60, .int .i64 0, .int .i64 2] = w2 at HR2 HB2 ⊢; have x0 : w2.cell? ⟨gr, 0, none⟩ = some (.string sLog) := (blk_cell HR2.out 0).trans rfl; have x1 : w2.cell? ⟨gr, 1, none⟩ = some (.string sTemp) := (blk_cell HR2.out 1).trans rfl; have x2 : w2.cell? ⟨gr, 2, none⟩ = some (.int .i64 1) := (blk_cell HR2.out 2).trans rfl; have x3 : w2.cell? ⟨gr, 3, none⟩ = some (.int .i64 60) := (blk_cell HR2.out 3).trans rfl; have x4 : w2.cell? ⟨gr, 4, none⟩ = some (.int .i64 0) := (blk_cell HR2.out 4).trans rfl; have x5 : w2.cell? ⟨gr, 5, none⟩ = some (.int .i64 2) := (blk_cell HR2.out 5).trans rfl;  skip) | (go_at_call 10; (with_reducible refine (new_calls sLog sTemp 1 60 0 2 100 w2).mono ?_); rintro e w3 ⟨g, rfl, hi, hb⟩; have HI3 := Aside0.mk (show LogAt w.heap.size g aL0 w3 from hi.lower HB2.out.size); have HB3 := Aside0.mk (below_step HB2.out hb); have HR3 := Aside0.mk (blk_below HR2.out hb); clear x0 x1 x2 x3 x4 x5; have x0 : w3.cell? ⟨gr, 0, none⟩ = some (.string sLog) := (blk_cell HR3.out 0).trans rfl; have x1 : w3.cell? ⟨gr, 1, none⟩ = some (.string sTemp) := (blk_cell HR3.out 1).trans rfl; have x2 : w3.cell? ⟨gr, 2, none⟩ = some (.int .i64 1) := (blk_cell HR3.out 2).trans rfl; have x3 : w3.cell? ⟨gr, 3, none⟩ = some (.int .i64 60) := (blk_cell HR3.out 3).trans rfl; have x4 : w3.cell? ⟨gr, 4, none⟩ = some (.int .i64 0) := (blk_cell HR3.out 4).trans rfl; have x5 : w3.cell? ⟨gr, 5, none⟩ = some (.int .i64 2) := (blk_cell HR3.out 5).trans rfl;  clear hi hb))
 have HNE := Aside0.mk (show gr ≠ g by obtain ⟨v, r, f, h, _⟩ := HI3.out; exact blk_ne HR3.out h (by decide))
 go_wp2_with (first | (go_at_call 17; (with_reducible refine (ckA w3 (Glob.below HG.out HB3.out)).mono ?_); rintro e w4 ⟨rfl, hb⟩; have HI4 := Aside0.mk (HI3.out.below hb); have HB4 := Aside0.mk (below_step HB3.out hb); have HR4 := Aside0.mk (blk_below HR3.out hb); clear x0 x1 x2 x3 x4 x5; have x0 : w4.cell? ⟨gr, 0, none⟩ = some (.string sLog) := (blk_cell HR4.out 0).trans rfl; have x1 : w4.cell? ⟨gr, 1, none⟩ = some (.string sTemp) := (blk_cell HR4.out 1).trans rfl; have x2 : w4.cell? ⟨gr, 2, none⟩ = some (.int .i64 1) := (blk_cell HR4.out 2).trans rfl; have x3 : w4.cell? ⟨gr, 3, none⟩ = some (.int .i64 60) := (blk_cell HR4.out 3).trans rfl; have x4 : w4.cell? ⟨gr, 4, none⟩ = some (.int .i64 0) := (blk_cell HR4.out 4).trans rfl; have x5 : w4.cell? ⟨gr, 5, none⟩ = some (.int .i64 2) := (blk_cell HR4.out 5).trans rfl;  clear hb) | (go_at_call 17; (with_reducible refine (ckB w4 (Glob.below HG.out HB4.out)).mono ?_); rintro e w5 ⟨rfl, hb⟩; have HI5 := Aside0.mk (HI4.out.below hb); have HB5 := Aside0.mk (below_step HB4.out hb); have HR5 := Aside0.mk (blk_below HR4.out hb); clear x0 x1 x2 x3 x4 x5; have x0 : w5.cell? ⟨gr, 0, none⟩ = some (.string sLog) := (blk_cell HR5.out 0).trans rfl; have x1 : w5.cell? ⟨gr, 1, none⟩ = some (.string sTemp) := (blk_cell HR5.out 1).trans rfl; have x2 : w5.cell? ⟨gr, 2, none⟩ = some (.int .i64 1) := (blk_cell HR5.out 2).trans rfl; have x3 : w5.cell? ⟨gr, 3, none⟩ = some (.int .i64 60) := (blk_cell HR5.out 3).trans rfl; have x4 : w5.cell? ⟨gr, 4, none⟩ = some (.int .i64 0) := (blk_cell HR5.out 4).trans rfl; have x5 : w5.cell? ⟨gr, 5, none⟩ = some (.int .i64 2) := (blk_cell HR5.out 5).trans rfl;  clear hb) | (go_at_call 23; (with_reducible refine (plenumlaw41_reading.calls 110 20000 1 20000 0 110 w5 (Glob.below HG.out HB5.out) rfl).mono ?_); rintro e w6 ⟨rfl, hb⟩; have HI6 := Aside0.mk (HI5.out.below hb); have HB6 := Aside0.mk (below_step HB5.out hb); have HR6 := Aside0.mk (blk_below HR5.out hb); clear x0 x1 x2 x3 x4 x5; have x0 : w6.cell? ⟨gr, 0, none⟩ = some (.string sLog) := (blk_cell HR6.out 0).trans rfl; have x1 : w6.cell? ⟨gr, 1, none⟩ = some (.string sTemp) := (blk_cell HR6.out 1).trans rfl; have x2 : w6.cell? ⟨gr, 2, none⟩ = some (.int .i64 1) := (blk_cell HR6.out 2).trans rfl; have x3 : w6.cell? ⟨gr, 3, none⟩ = some (.int .i64 60) := (blk_cell HR6.out 3).trans rfl; have x4 : w6.cell? ⟨gr, 4, none⟩ = some (.int .i64 0) := (blk_cell HR6.out 4).trans rfl; have x5 : w6.cell? ⟨gr, 5, none⟩ = some (.int .i64 2) := (blk_cell HR6.out 5).trans rfl;  clear hb) | (go_at_call 15; (with_reducible refine (obs_calls w.heap.size g aL0 1 20000 0 110 w6 HI6.out HB6.out.size okaL0 (by decide)).mono ?_); rintro e w7 ⟨d, he, hi, hb, hk⟩; rw [ob1 d] at he hi; replace he : e = .returned (.tuple #[.int .i64 0, .int .i64 0]) := he; subst he; have HR7 := Aside0.mk (hk.keep _ _ _ HR6.out (by decide) HNE.out); have HI7 := Aside0.mk (show LogAt w.heap.size g aL1 w7 from hi); have HB7 := Aside0.mk (HB6.out.trans hb); clear x0 x1 x2 x3 x4 x5; have x0 : w7.cell? ⟨gr, 0, none⟩ = some (.string sLog) := (blk_cell HR7.out 0).trans rfl; have x1 : w7.cell? ⟨gr, 1, none⟩ = some (.string sTemp) := (blk_cell HR7.out 1).trans rfl; have x2 : w7.cell? ⟨gr, 2, none⟩ = some (.int .i64 1) := (blk_cell HR7.out 2).trans rfl; have x3 : w7.cell? ⟨gr, 3, none⟩ = some (.int .i64 60) := (blk_cell HR7.out 3).trans rfl; have x4 : w7.cell? ⟨gr, 4, none⟩ = some (.int .i64 0) := (blk_cell HR7.out 4).trans rfl; have x5 : w7.cell? ⟨gr, 5, none⟩ = some (.int .i64 2) := (blk_cell HR7.out 5).trans rfl;  clear hi hb hk) | (go_at_call 23; (with_reducible refine (plenumlaw41_reading.calls 200 21000 1 21000 0 200 w7 (Glob.below HG.out HB7.out) rfl).mono ?_); rintro e w8 ⟨rfl, hb⟩; have HI8 := Aside0.mk (HI7.out.below hb); have HB8 := Aside0.mk (below_step HB7.out hb); have HR8 := Aside0.mk (blk_below HR7.out hb); clear x0 x1 x2 x3 x4 x5; have x0 : w8.cell? ⟨gr, 0, none⟩ = some (.string sLog) := (blk_cell HR8.out 0).trans rfl; have x1 : w8.cell? ⟨gr, 1, none⟩ = some (.string sTemp) := (blk_cell HR8.out 1).trans rfl; have x2 : w8.cell? ⟨gr, 2, none⟩ = some (.int .i64 1) := (blk_cell HR8.out 2).trans rfl; have x3 : w8.cell? ⟨gr, 3, none⟩ = some (.int .i64 60) := (blk_cell HR8.out 3).trans rfl; have x4 : w8.cell? ⟨gr, 4, none⟩ = some (.int .i64 0) := (blk_cell HR8.out 4).trans rfl; have x5 : w8.cell? ⟨gr, 5, none⟩ = some (.int .i64 2) := (blk_cell HR8.out 5).trans rfl;  clear hb) | (go_at_call 15; (with_reducible refine (obs_calls w.heap.size g aL1 1 21000 0 200 w8 HI8.out HB8.out.size okaL1 (by decide)).mono ?_); rintro e w9 ⟨d, he, hi, hb, hk⟩; rw [ob2 d] at he hi; replace he : e = .returned (.tuple #[.int .i64 2, .int .i64 0]) := he; subst he; have HR9 := Aside0.mk (hk.keep _ _ _ HR8.out (by decide) HNE.out); have HI9 := Aside0.mk (show LogAt w.heap.size g aL2 w9 from hi); have HB9 := Aside0.mk (HB8.out.trans hb); clear x0 x1 x2 x3 x4 x5; have x0 : w9.cell? ⟨gr, 0, none⟩ = some (.string sLog) := (blk_cell HR9.out 0).trans rfl; have x1 : w9.cell? ⟨gr, 1, none⟩ = some (.string sTemp) := (blk_cell HR9.out 1).trans rfl; have x2 : w9.cell? ⟨gr, 2, none⟩ = some (.int .i64 1) := (blk_cell HR9.out 2).trans rfl; have x3 : w9.cell? ⟨gr, 3, none⟩ = some (.int .i64 60) := (blk_cell HR9.out 3).trans rfl; have x4 : w9.cell? ⟨gr, 4, none⟩ = some (.int .i64 0) := (blk_cell HR9.out 4).trans rfl; have x5 : w9.cell? ⟨gr, 5, none⟩ = some (.int .i64 2) := (blk_cell HR9.out 5).trans rfl;  clear hi hb hk) | (go_at_call 23; (with_reducible refine (plenumlaw41_reading.calls 240 22000 1 22000 0 240 w9 (Glob.below HG.out HB9.out) rfl).mono ?_); rintro e w10 ⟨rfl, hb⟩; have HI10 := Aside0.mk (HI9.out.below hb); have HB10 := Aside0.mk (below_step HB9.out hb); have HR10 := Aside0.mk (blk_below HR9.out hb); clear x0 x1 x2 x3 x4 x5; have x0 : w10.cell? ⟨gr, 0, none⟩ = some (.string sLog) := (blk_cell HR10.out 0).trans rfl; have x1 : w10.cell? ⟨gr, 1, none⟩ = some (.string sTemp) := (blk_cell HR10.out 1).trans rfl; have x2 : w10.cell? ⟨gr, 2, none⟩ = some (.int .i64 1) := (blk_cell HR10.out 2).trans rfl; have x3 : w10.cell? ⟨gr, 3, none⟩ = some (.int .i64 60) := (blk_cell HR10.out 3).trans rfl; have x4 : w10.cell? ⟨gr, 4, none⟩ = some (.int .i64 0) := (blk_cell HR10.out 4).trans rfl; have x5 : w10.cell? ⟨gr, 5, none⟩ = some (.int .i64 2) := (blk_cell HR10.out 5).trans rfl;  clear hb) | (go_at_call 15; (with_reducible refine (obs_calls w.heap.size g aL2 1 22000 0 240 w10 HI10.out HB10.out.size okaL2 (by decide)).mono ?_); rintro e w11 ⟨d, he, hi, hb, hk⟩; rw [ob3 d] at he hi; replace he : e = .returned (.tuple #[.int .i64 1, .int .i64 0]) := he; subst he; have HR11 := Aside0.mk (hk.keep _ _ _ HR10.out (by decide) HNE.out); have HI11 := Aside0.mk (show LogAt w.heap.size g aL3 w11 from hi); have HB11 := Aside0.mk (HB10.out.trans hb); clear x0 x1 x2 x3 x4 x5; have x0 : w11.cell? ⟨gr, 0, none⟩ = some (.string sLog) := (blk_cell HR11.out 0).trans rfl; have x1 : w11.cell? ⟨gr, 1, none⟩ = some (.string sTemp) := (blk_cell HR11.out 1).trans rfl; have x2 : w11.cell? ⟨gr, 2, none⟩ = some (.int .i64 1) := (blk_cell HR11.out 2).trans rfl; have x3 : w11.cell? ⟨gr, 3, none⟩ = some (.int .i64 60) := (blk_cell HR11.out 3).trans rfl; have x4 : w11.cell? ⟨gr, 4, none⟩ = some (.int .i64 0) := (blk_cell HR11.out 4).trans rfl; have x5 : w11.cell? ⟨gr, 5, none⟩ = some (.int .i64 2) := (blk_cell HR11.out 5).trans rfl;  clear hi hb hk) | (go_at_call 13; (with_reducible refine (after_calls w.heap.size g aL3 0 10 w11 HI11.out (by decide) (by decide) (by decide)).mono ?_); rintro e w12 hp; rw [af1] at hp; obtain ⟨vm, rfl, hr, hb⟩ := hp; obtain ⟨Am, cm, em, hcm, hCm⟩ := Kd.R_reads hr; have em2 : vm = .slice Am 3 cm := em; clear em; subst em2; have HM12 := Aside0.mk hr; have HI12 := Aside0.mk (HI11.out.below hb); have HB12 := Aside0.mk (below_step HB11.out hb); have HR12 := Aside0.mk (blk_below HR11.out hb); clear x0 x1 x2 x3 x4 x5; have x0 : w12.cell? ⟨gr, 0, none⟩ = some (.string sLog) := (blk_cell HR12.out 0).trans rfl; have x1 : w12.cell? ⟨gr, 1, none⟩ = some (.string sTemp) := (blk_cell HR12.out 1).trans rfl; have x2 : w12.cell? ⟨gr, 2, none⟩ = some (.int .i64 1) := (blk_cell HR12.out 2).trans rfl; have x3 : w12.cell? ⟨gr, 3, none⟩ = some (.int .i64 60) := (blk_cell HR12.out 3).trans rfl; have x4 : w12.cell? ⟨gr, 4, none⟩ = some (.int .i64 0) := (blk_cell HR12.out 4).trans rfl; have x5 : w12.cell? ⟨gr, 5, none⟩ = some (.int .i64 2) := (blk_cell HR12.out 5).trans rfl;  clear hb hr hcm hCm))
 obtain ⟨sv, HSV⟩ : ∃ s, Aside0 (strOfNums (saveB 3 240 [aR2, aR3]) = s) := ⟨_, ⟨rfl⟩⟩
 have HRS := Aside0.mk (show restS sv 2 = some (3, 240, [aR2, aR3]) by rw [← HSV.out]; exact rs1)
 have HSZ := Aside0.mk (show sv.size ≤ 140737488355327 by rw [← HSV.out]; rw [strOfNums_size]; exact Nat.le_trans (show (saveB 3 240 [aR2, aR3]).length ≤ 1000 from Nat.le_of_ble_eq_true (by kernel_rfl)) (by decide))
 have HI13 := Aside0.mk HI12.out.drew
 have HB13 := Aside0.mk (below_drew1 HB12.out)
 have HR13 := Aside0.mk (blk_drew HR12.out)
 have HM13 := Aside0.mk (Kd.R_drew HM12.out)
 refine start_ (n := 9) (S := fun w' => w'.cell? ⟨gr, 0, none⟩ = some (.string sLog) ∧ w'.cell? ⟨gr, 1, none⟩ = some (.string sTemp) ∧ w'.cell? ⟨gr, 2, none⟩ = some (.int .i64 1) ∧ w'.cell? ⟨gr, 3, none⟩ = some (.int .i64 60) ∧ w'.cell? ⟨gr, 4, none⟩ = some (.int .i64 0) ∧ w'.cell? ⟨gr, 5, none⟩ = some (.int .i64 2)) (ds := []) #[Yn, Yn, Yn, Yn, Yn, Yn, Yn, Yn, Yn] (by kernel_rfl) rfl rfl ⟨x0, x1, x2, x3, x4, x5⟩ (fun hHeld => ?_)
 generalize w12.drew = w13 at HI13 HB13 HR13 HM13 hHeld ⊢
 refine pure_ (i := 1) (N := some 57) (v := ?_) (a' := ?_) (Bz 9 0x2) rfl rfl (by kernel_rfl) (fun _ _ _ h => h) (Or.inl ⟨by rfl, ?_⟩) ?_ ?_
 rotate_left
 ·intro w'; go_simp; with_reducible rfl
 rotate_left; ·simp only [Act.put, Z1, Z2, Z3, i64_w, i32_w]; rfl
 refine take_ (i := 0) (N := some 56) (v := ?_) (a' := ?_) (Bz 9 0x3) rfl rfl (by kernel_rfl) (fun _ _ _ h => h) (Or.inl ⟨by rfl, ?_⟩) hHeld ?_ ?_
 rotate_left
 ·rintro w' ⟨s0, s1, s2, s3, s4, s5⟩; go_simp; with_reducible rfl
 rotate_left; ·simp only [Act.put, Z1, Z2, Z3, i64_w, i32_w]; rfl
 refine one_ (i := 2) (N := some 58) #[Y, Y, Y, Yn, Yn, Yn, Yn, Yn, Yn] rfl rfl (by kernel_rfl) (by decide) (fun K hK => ?_)
 refine goes_ Tryd.func22 (by kernel_rfl) rfl #[.pointer (some ⟨g, 0, none⟩)] (by rfl) rfl rfl (by simp only [List.map_toArray, List.map_cons, List.map_nil]; rfl) ?_
 with_reducible refine (save_calls w.heap.size g aL3 w13 (Glob.below HG.out HB13.out) HI13.out (Nat.lt_of_lt_of_le H0.out HB13.out.size) (by decide) okR).mono ?_
 rintro e w14 ⟨rfl, hb⟩
 refine ⟨_, rfl, ?_⟩
 rw [show strOfNums (saveB aL3.total aL3.now aL3.recs) = sv from HSV.out]
 have HI14 := Aside0.mk (HI13.out.below hb)
 have HB14 := Aside0.mk (below_step HB13.out hb)
 have HR14 := Aside0.mk (blk_below HR13.out hb)
 have HM14 := Aside0.mk (Kd.R_below HM13.out hb)
 clear hb
 refine hK.out _ _ ⟨(blk_cell HR14.out 0).trans rfl, (blk_cell HR14.out 1).trans rfl, (blk_cell HR14.out 2).trans rfl, (blk_cell HR14.out 3).trans rfl, (blk_cell HR14.out 4).trans rfl, (blk_cell HR14.out 5).trans rfl⟩ (fun hHeld => ?_)
 clear hK K
 refine norm_ (a' := ?_) ?_ ?_
 rotate_left
 ·show Act.put _ (some 58) _ = _
  simp only [Act.put, Z1, Z2, Z3, i64_w, i32_w]
  rfl
 refine one_ (i := 3) (N := some 59) #[Y, Y, Y, Y, Yn, Yn, Yn, Yn, Yn] rfl rfl (by kernel_rfl) (by decide) (fun K hK => ?_)
 refine goes_ Tryd.func19 (by kernel_rfl) rfl #[.agg #[.string sLog, .string sTemp, .int .i64 1, .int .i64 60, .int .i64 0, .int .i64 2], .string sv] (by rfl) rfl rfl (by simp only [List.map_toArray, List.map_cons, List.map_nil]; rfl) ?_
 with_reducible refine (restore_calls sLog sTemp 1 60 0 2 sv w14 (Glob.below HG.out HB14.out) HSZ.out).mono ?_
 rintro e w15 hp
 rw [HRS.out] at hp
 obtain ⟨hb, g2, rfl, hk⟩ := hp
 refine ⟨_, rfl, ?_⟩
 have HK15 := Aside0.mk (show LogAt w14.heap.size g2 aK w15 from hk)
 have HBB15 := Aside0.mk hb
 have HR15 := Aside0.mk (blk_below HR14.out hb)
 clear hb hk
 refine hK.out _ _ ⟨(blk_cell HR15.out 0).trans rfl, (blk_cell HR15.out 1).trans rfl, (blk_cell HR15.out 2).trans rfl, (blk_cell HR15.out 3).trans rfl, (blk_cell HR15.out 4).trans rfl, (blk_cell HR15.out 5).trans rfl⟩ (fun hHeld => ?_)
 clear hK K
 refine norm_ (a' := ?_) ?_ ?_
 rotate_left
 ·show Act.put _ (some 59) _ = _
  simp only [Act.put, Z1, Z2, Z3, i64_w, i32_w]
  rfl
 refine pure_ (i := 4) (N := some 55) (v := ?_) (a' := ?_) (Bz 9 0x1f) rfl rfl (by kernel_rfl) (fun _ _ _ h => h) (Or.inl ⟨by rfl, ?_⟩) ?_ ?_
 rotate_left
 ·intro w'; go_simp; with_reducible rfl
 rotate_left; ·simp only [Act.put, Z1, Z2, Z3, i64_w, i32_w]; rfl
 refine pure_ (i := 5) (N := some 60) (v := ?_) (a' := ?_) (Bz 9 0x3f) rfl rfl (by kernel_rfl) (fun _ _ _ h => h) (Or.inl ⟨by rfl, ?_⟩) ?_ ?_
 rotate_left
 ·intro w'; go_simp; with_reducible rfl
 rotate_left; ·simp only [Act.put, Z1, Z2, Z3, i64_w, i32_w]; rfl
 refine pure_ (i := 6) (N := some 61) (v := ?_) (a' := ?_) (Bz 9 0x7f) rfl rfl (by kernel_rfl) (fun _ _ _ h => h) (Or.inl ⟨by rfl, ?_⟩) ?_ ?_
 rotate_left
 ·intro w'; go_simp; with_reducible rfl
 rotate_left; ·simp only [Act.put, Z1, Z2, Z3, i64_w, i32_w]; rfl
 refine pure_ (i := 7) (N := some 11) (v := ?_) (a' := ?_) (Bz 9 0xff) rfl rfl (by kernel_rfl) (fun _ _ _ h => h) (Or.inl ⟨by rfl, ?_⟩) ?_ ?_
 rotate_left
 ·intro w'; go_simp; with_reducible rfl
 rotate_left; ·simp only [Act.put, Z1, Z2, Z3, i64_w, i32_w]; rfl
 refine pure_ (i := 8) (N := some 12) (v := ?_) (a' := ?_) (Bz 9 0x1ff) rfl rfl (by kernel_rfl) (fun _ _ _ h => h) (Or.inl ⟨by rfl, ?_⟩) ?_ ?_
 rotate_left
 ·intro w'; go_simp; with_reducible rfl
 rotate_left; ·simp only [Act.put, Z1, Z2, Z3, i64_w, i32_w]; rfl
 refine done_ (by kernel_rfl) ?_
 clear x0 x1 x2 x3 x4 x5 hHeld
 go_wp2_with (go_at_call 16; (with_reducible refine (tick_calls w14.heap.size g2 aK 500 w15 HK15.out HBB15.out.size okaK (by decide)).mono ?_); rintro e w16 ⟨he, hi, hb, hk⟩; rw [tk1] at he hi; replace he : e = .returned (.tuple #[.int .i64 0, .int .i64 0]) := he; subst he; have HK16 := Aside0.mk (show LogAt w14.heap.size g2 aK2 w16 from hi); have HBB16 := Aside0.mk (HBB15.out.trans hb); have HI16 := Aside0.mk (HI14.out.below HBB16.out); have HM16 := Aside0.mk (Kd.R_below HM14.out HBB16.out); clear hi hb hk; obtain ⟨_, _, hCm⟩ := Kd.R_reads' HM16.out; obtain ⟨⟨ad, ea⟩, hz⟩ := elemA hCm; subst ea; obtain ⟨z0, z1, z2, z3, z4, z5, y1⟩ := hz ad rfl; clear hz; clear hCm)
 go_wp2_with (first | (go_at_call 12; (with_reducible refine (total_calls w.heap.size g aL3 w16 HI16.out).mono ?_); rintro e wq ⟨he, rfl⟩; replace he : e = .returned (.int .i64 3) := he; subst he) | (go_at_call 24; (with_reducible refine (trigE_calls w.heap.size g aL3 300 _ HI16.out (by decide) (by decide)).mono ?_); rintro e wq2 ⟨rfl, rfl⟩) | (go_at_call 14; (with_reducible refine (records_calls w14.heap.size g2 aK2 _ HK16.out (by decide)).mono ?_); rintro e w17 ⟨v17, rfl, hr, hb⟩; obtain ⟨A17, c17, e17, hc17, hC17⟩ := Kd.R_reads hr; have e17b : v17 = .slice A17 2 c17 := e17; clear e17; subst e17b; have HV17 := Aside0.mk hr; have HI17 := Aside0.mk (HI16.out.below hb); have HBB17 := Aside0.mk (below_step HBB16.out hb); clear hb hr hc17 hC17) | (go_at_call 14; (with_reducible refine (records_calls w.heap.size g aL3 w17 HI17.out (by decide)).mono ?_); rintro e w18 ⟨v18, rfl, hr, hb⟩; obtain ⟨A18, c18, e18, hc18, hC18⟩ := Kd.R_reads hr; have e18b : v18 = .slice A18 2 c18 := e18; clear e18; subst e18b; have HV18 := Aside0.mk hr; have HV17b := Aside0.mk (Kd.R_below HV17.out hb); have HBB18 := Aside0.mk (below_step HBB17.out hb); have HC1 := Aside0.mk (show Kd.C k44 w18 A17 2 [aR2, aR3] from (Kd.R_reads' HV17b.out).2.2); have HC2 := Aside0.mk (show Kd.C k44 w18 A18 2 [aR2, aR3] from (Kd.R_reads' HV18.out).2.2); have HC3 := Aside0.mk (show 2 ≤ c17 from (Kd.R_reads' HV17b.out).2.1); have HC4 := Aside0.mk (show 2 ≤ c18 from (Kd.R_reads' HV18.out).2.1); clear hb hr hc18 hC18) | (go_at_call 21; (with_reducible refine (smA A17 A18 c17 c18 w18 (Glob.below HG.out (below_step HB14.out HBB18.out)) HC1.out HC3.out HC2.out HC4.out).mono ?_); rintro e w19 ⟨rfl, nd, rfl⟩))
 go_ret
 exact ⟨rfl, by have := below_step HB14.out HBB18.out; exact pw_below_drewN this nd⟩
end Go.Proofs.YtbccjcdmpiolpaaDoor.T
end
