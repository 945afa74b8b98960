/- TrendEveryCard: one part of the proof that the law answers true for every input, and that its arguments read afterwards as before. No condition. -/
import Derived.Test.YtbccjcdmpiolpaaDoorCEvery5
import Derived.Outline
import Derived.Deep.OwnRows
import Derived.Deep.MidRow
import Derived.LoopTactic
import Derived.ProofKit
import Derived.Deep.Slices
import Derived.SizedLaws
import Derived.OpenShut
import Derived.DataReads
import Derived.SevenTiedAt
import Derived.WalkKit
import Derived.ShutString
import Derived.ChangeOld
import Derived.Below
import Derived.Test.YtbccjcdmpiolpaaDoorCards
import Derived.Test.YtbccjcdmpiolpaaDoorRows
import Derived.Test.YtbccjcdmpiolpaaDoorTie
section
namespace Go.Proofs.YtbccjcdmpiolpaaDoor.T
open Go.RowKit Go.Proofs.YtbccjcdmpiolpaaDoorW.PrintWords Go.Proofs.YtbccjcdmpiolpaaDoorW.PrintLast Go.Proofs.YtbccjcdmpiolpaaDoorW.PrintMore
attribute [local go_sem] max2_int min2_int max_two min_two max_three min_three max_four min_four
set_option linter.unusedVariables false
set_option linter.unusedSimpArgs false
mutual
def trend_Check.j0 : Nat → Bool → Bool → ByteArray → ByteArray → Int → Int → Int → Int → ByteArray → Int → Int → ByteArray → Int → Int → Int → List ByteArray → Int → Int → Int → Int → Option (Int)
 | 0, _, _, _, _, _, _, _, _, _, _, _, _, _, _, _, _, _, _, _, _ => none
 | k + 1, x5, x6, x110000, x110001, x110002, x110003, x110004, x110005, x111000, x111001, x111002, x111003, x111004, x111005, x111006, x111007, x111008, x111009, x111010, x111011 => (lexer_Name.f x110000).bind fun t111 => (if t111 = true then (if x110001.toList = x111000.toList then (if x110002 = 1 then (trend_Check.j1 k x5 x6 false x110000 x110001 x110002 x110003 x110004 x110005) else (if x110002 = 2 then (trend_Check.j1 k x5 x6 false x110000 x110001 x110002 x110003 x110004 x110005) else (trend_Check.j1 k x5 x6 (x110002 != 3) x110000 x110001 x110002 x110003 x110004 x110005))) else (some 3)) else (some 4))
def trend_Check.j1 : Nat → Bool → Bool → Bool → ByteArray → ByteArray → Int → Int → Int → Int → Option (Int)
 | 0, _, _, _, _, _, _, _, _, _ => none
 | k + 1, x5, x6, x49, x110000, x110001, x110002, x110003, x110004, x110005 => if x49 = true then (some 1) else (if x110005 < 1 then (some 6) else (if x110005 > 1024 then (some 6) else (if x5 = true then (if x6 = true then (some 0) else (some 6)) else (some 6))))
end
def trend_Check.f (k : Nat) (a0_0 : ByteArray) (a0_1 : ByteArray) (a0_2 : Int) (a0_3 : Int) (a0_4 : Int) (a0_5 : Int) (a1_0 : ByteArray) (a1_1 : Int) (a1_2 : Int) (a1_3 : ByteArray) (a1_4 : Int) (a1_5 : Int) (a1_6 : Int) (l1_7 : List ByteArray) (a1_8 : Int) (a1_9 : Int) (a1_10 : Int) (a1_11 : Int) : Option (Int) := if a0_2 = 1 then (if a0_3 ≥ 1 then (trend_Check.j0 k (decide (a0_3 ≤ 86400)) (a0_4 == 0) a0_0 a0_1 a0_2 a0_3 a0_4 a0_5 a1_0 a1_1 a1_2 a1_3 a1_4 a1_5 a1_6 l1_7 a1_8 a1_9 a1_10 a1_11) else (trend_Check.j0 k false (a0_4 == 0) a0_0 a0_1 a0_2 a0_3 a0_4 a0_5 a1_0 a1_1 a1_2 a1_3 a1_4 a1_5 a1_6 l1_7 a1_8 a1_9 a1_10 a1_11)) else (if a0_2 = 2 then (if a1_1 = 1 then (if a0_4 ≥ 1 then (trend_Check.j0 k (a0_3 == 0) (decide (a0_4 ≤ 1000000000000)) a0_0 a0_1 a0_2 a0_3 a0_4 a0_5 a1_0 a1_1 a1_2 a1_3 a1_4 a1_5 a1_6 l1_7 a1_8 a1_9 a1_10 a1_11) else (trend_Check.j0 k (a0_3 == 0) false a0_0 a0_1 a0_2 a0_3 a0_4 a0_5 a1_0 a1_1 a1_2 a1_3 a1_4 a1_5 a1_6 l1_7 a1_8 a1_9 a1_10 a1_11)) else (trend_Check.j0 k (a0_3 == 0) (a0_4 == 0) a0_0 a0_1 a0_2 a0_3 a0_4 a0_5 a1_0 a1_1 a1_2 a1_3 a1_4 a1_5 a1_6 l1_7 a1_8 a1_9 a1_10 a1_11)) else (trend_Check.j0 k (a0_3 == 0) (a0_4 == 0) a0_0 a0_1 a0_2 a0_3 a0_4 a0_5 a1_0 a1_1 a1_2 a1_3 a1_4 a1_5 a1_6 l1_7 a1_8 a1_9 a1_10 a1_11))
set_option maxHeartbeats 8000000 in
set_option maxRecDepth 100000 in
theorem trend_Check.calls (k : Nat) (a0_0 : ByteArray) (a0_1 : ByteArray) (a0_2 : Int) (a0_3 : Int) (a0_4 : Int) (a0_5 : Int) (a1_0 : ByteArray) (a1_1 : Int) (a1_2 : Int) (a1_3 : ByteArray) (a1_4 : Int) (a1_5 : Int) (a1_6 : Int) (A1_7 : Option Addr) (c1_7 : Nat) (l1_7 : List ByteArray) (a1_8 : Int) (a1_9 : Int) (a1_10 : Int) (a1_11 : Int) (r : Int) (w : World) (hG : Glob w) (hr1_7 : Kd.C Kd.string w A1_7 l1_7.length l1_7) (hc1_7 : l1_7.length ≤ c1_7) (h : trend_Check.f k a0_0 a0_1 a0_2 a0_3 a0_4 a0_5 a1_0 a1_1 a1_2 a1_3 a1_4 a1_5 a1_6 l1_7 a1_8 a1_9 a1_10 a1_11 = some r) :
  Calls Tryd.prog 17 #[.agg #[.string a0_0, .string a0_1, .int .i64 a0_2, .int .i64 a0_3, .int .i64 a0_4, .int .i64 a0_5], .agg #[.string a1_0, .int .i64 a1_1, .int .i64 a1_2, .string a1_3, .int .i64 a1_4, .int .i64 a1_5, .int .i64 a1_6, .slice A1_7 l1_7.length c1_7, .int .i64 a1_8, .int .i64 a1_9, .int .i64 a1_10, .int .i64 a1_11]] w fun e w' => e = .returned (.int .i64 r) ∧ Below w.heap.size w w' := by
 have hu23 := Tryd.underlying23
 have hu51 := Tryd.underlying51
 have HG := Aside0.mk hG
 clear hG
 have HR1_7 := Aside0.mk hr1_7
 have HC1_7 := Aside0.mk hc1_7
 clear hr1_7 hc1_7
 have HB := Aside0.mk (Below.refl w.heap.size w)
 have H : (if a0_2 = 1 then (if a0_3 ≥ 1 then (trend_Check.j0 k (decide (a0_3 ≤ 86400)) (a0_4 == 0) a0_0 a0_1 a0_2 a0_3 a0_4 a0_5 a1_0 a1_1 a1_2 a1_3 a1_4 a1_5 a1_6 l1_7 a1_8 a1_9 a1_10 a1_11) else (trend_Check.j0 k false (a0_4 == 0) a0_0 a0_1 a0_2 a0_3 a0_4 a0_5 a1_0 a1_1 a1_2 a1_3 a1_4 a1_5 a1_6 l1_7 a1_8 a1_9 a1_10 a1_11)) else (if a0_2 = 2 then (if a1_1 = 1 then (if a0_4 ≥ 1 then (trend_Check.j0 k (a0_3 == 0) (decide (a0_4 ≤ 1000000000000)) a0_0 a0_1 a0_2 a0_3 a0_4 a0_5 a1_0 a1_1 a1_2 a1_3 a1_4 a1_5 a1_6 l1_7 a1_8 a1_9 a1_10 a1_11) else (trend_Check.j0 k (a0_3 == 0) false a0_0 a0_1 a0_2 a0_3 a0_4 a0_5 a1_0 a1_1 a1_2 a1_3 a1_4 a1_5 a1_6 l1_7 a1_8 a1_9 a1_10 a1_11)) else (trend_Check.j0 k (a0_3 == 0) (a0_4 == 0) a0_0 a0_1 a0_2 a0_3 a0_4 a0_5 a1_0 a1_1 a1_2 a1_3 a1_4 a1_5 a1_6 l1_7 a1_8 a1_9 a1_10 a1_11)) else (trend_Check.j0 k (a0_3 == 0) (a0_4 == 0) a0_0 a0_1 a0_2 a0_3 a0_4 a0_5 a1_0 a1_1 a1_2 a1_3 a1_4 a1_5 a1_6 l1_7 a1_8 a1_9 a1_10 a1_11))) = some r := h
 clear h
 have HC3 := Aside0.mk H
 clear H
 go_enter Tryd.func17, Tryd.ntmps17
 go_upto_block 0 with (first | ((with_reducible refine gate_dst (N := 2) rfl ?_); refine box_event ?hg (N := 2) ?hd (cs := #[.string a0_0, .string a0_1, .int .i64 a0_2, .int .i64 a0_3, .int .i64 a0_4, .int .i64 a0_5]) (t := 23) ?hr ?_; (case hd => rfl); (case hg => rfl); (case hr => first | (go_simp; done) | (go_simp; rfl)); intro gb109 hg w4 hbox hb; have n0_ := Aside0.mk (below_step (by repeat (first | (with_reducible first | exact HB.out | apply below_alloc | apply pw_below_drewN | apply below_drew1) | exact HB.out)) hb); have n1_ := Aside0.mk (hbox); have n2_ := Aside0.mk ((by rw [hg]; exact (below_size (by repeat (first | (with_reducible first | exact HB.out | apply below_alloc | apply pw_below_drewN | apply below_drew1) | exact HB.out))) : w.heap.size ≤ gb109)); have n3_ := Aside0.mk ((by rw [hg]; exact (below_size (by repeat (first | (with_reducible first | exact HB.out | apply below_alloc | apply pw_below_drewN | apply below_drew1) | exact HB.out))) : w.heap.size ≤ gb109)); clear HB; have HB := n0_; have BK109 := n1_; have GW109 := n2_; have GE109 := n3_; clear n0_ n1_ n2_ n3_; clear hb hbox hg) | ((with_reducible refine gate_dst (N := 3) rfl ?_); refine box_event ?hg (N := 3) ?hd (cs := #[.string a1_0, .int .i64 a1_1, .int .i64 a1_2, .string a1_3, .int .i64 a1_4, .int .i64 a1_5, .int .i64 a1_6, .slice A1_7 l1_7.length c1_7, .int .i64 a1_8, .int .i64 a1_9, .int .i64 a1_10, .int .i64 a1_11]) (t := 51) ?hr ?_; (case hd => rfl); (case hg => rfl); (case hr => first | (go_simp; done) | (go_simp; rfl)); intro gb110 hg w5 hbox hb; have n0_ := Aside0.mk (blk_below (g := gb109) (o := .cells #[.string a0_0, .string a0_1, .int .i64 a0_2, .int .i64 a0_3, .int .i64 a0_4, .int .i64 a0_5] 23 (0, 0)) (by (with_reducible repeat (first | refine blk_drewN ?_ _ | refine blk_drew ?_ | refine blk_alloc ?_ _)); exact BK109.out) hb); have n1_ := Aside0.mk (below_step (by repeat (first | (with_reducible first | exact HB.out | apply below_alloc | apply pw_below_drewN | apply below_drew1 | refine below_set ?_ GE109.out) | exact HB.out)) hb); have n2_ := Aside0.mk (hbox); have n3_ := Aside0.mk ((by rw [hg]; exact (below_size (by repeat (first | (with_reducible first | exact HB.out | apply below_alloc | apply pw_below_drewN | apply below_drew1 | refine below_set ?_ GE109.out) | exact HB.out))) : w.heap.size ≤ gb110)); have n4_ := Aside0.mk ((by rw [hg]; exact (below_size (by repeat (first | (with_reducible first | exact HB.out | apply below_alloc | apply pw_below_drewN | apply below_drew1 | refine below_set ?_ GE109.out) | exact HB.out))) : w.heap.size ≤ gb110)); have n5_ := Aside0.mk ((by rw [hg]; exact Nat.ne_of_lt (blk_lt (g := gb109) (o := .cells #[.string a0_0, .string a0_1, .int .i64 a0_2, .int .i64 a0_3, .int .i64 a0_4, .int .i64 a0_5] 23 (0, 0)) (by (with_reducible repeat (first | refine blk_drewN ?_ _ | refine blk_drew ?_ | refine blk_alloc ?_ _)); exact BK109.out)) : gb109 ≠ gb110)); have n6_ := Aside0.mk ((by rw [hg]; exact Nat.ne_of_gt (blk_lt (g := gb109) (o := .cells #[.string a0_0, .string a0_1, .int .i64 a0_2, .int .i64 a0_3, .int .i64 a0_4, .int .i64 a0_5] 23 (0, 0)) (by (with_reducible repeat (first | refine blk_drewN ?_ _ | refine blk_drew ?_ | refine blk_alloc ?_ _)); exact BK109.out)) : gb110 ≠ gb109)); clear BK109; clear HB; have BK109 := n0_; have HB := n1_; have BK110 := n2_; have GW110 := n3_; have GE110 := n4_; have NB109_110 := n5_; have NB110_109 := n6_; clear n0_ n1_ n2_ n3_ n4_ n5_ n6_; clear hb hbox hg; have hnb6 := NB109_110.out; have hnc6 := NB110_109.out; have hcz7_0 : w5.cell? ⟨gb109, 0, none⟩ = some (.string a0_0) := (blk_cell BK109.out 0).trans rfl; have hcz7_1 : w5.cell? ⟨gb109, 1, none⟩ = some (.string a0_1) := (blk_cell BK109.out 1).trans rfl; have hcz7_2 : w5.cell? ⟨gb109, 2, none⟩ = some (.int .i64 a0_2) := (blk_cell BK109.out 2).trans rfl; have hcz7_3 : w5.cell? ⟨gb109, 3, none⟩ = some (.int .i64 a0_3) := (blk_cell BK109.out 3).trans rfl; have hcz7_4 : w5.cell? ⟨gb109, 4, none⟩ = some (.int .i64 a0_4) := (blk_cell BK109.out 4).trans rfl; have hcz7_5 : w5.cell? ⟨gb109, 5, none⟩ = some (.int .i64 a0_5) := (blk_cell BK109.out 5).trans rfl; have hfz7_0 := blk_frozen BK109.out 0; have hfz7_1 := blk_frozen BK109.out 1; have hfz7_2 := blk_frozen BK109.out 2; have hfz7_3 := blk_frozen BK109.out 3; have hfz7_4 := blk_frozen BK109.out 4; have hfz7_5 := blk_frozen BK109.out 5))
 repeat (go_quiet (first | ((with_reducible refine gate_dst (N := 2) rfl ?_); refine box_event ?hg (N := 2) ?hd (cs := #[.string a0_0, .string a0_1, .int .i64 a0_2, .int .i64 a0_3, .int .i64 a0_4, .int .i64 a0_5]) (t := 23) ?hr ?_; (case hd => rfl); (case hg => rfl); (case hr => first | (go_simp; done) | (go_simp; rfl)); intro gb109 hg w4 hbox hb; have n0_ := Aside0.mk (below_step (by repeat (first | (with_reducible first | exact HB.out | apply below_alloc | apply pw_below_drewN | apply below_drew1) | exact HB.out)) hb); have n1_ := Aside0.mk (hbox); have n2_ := Aside0.mk ((by rw [hg]; exact (below_size (by repeat (first | (with_reducible first | exact HB.out | apply below_alloc | apply pw_below_drewN | apply below_drew1) | exact HB.out))) : w.heap.size ≤ gb109)); have n3_ := Aside0.mk ((by rw [hg]; exact (below_size (by repeat (first | (with_reducible first | exact HB.out | apply below_alloc | apply pw_below_drewN | apply below_drew1) | exact HB.out))) : w.heap.size ≤ gb109)); clear HB; have HB := n0_; have BK109 := n1_; have GW109 := n2_; have GE109 := n3_; clear n0_ n1_ n2_ n3_; clear hb hbox hg) | ((with_reducible refine gate_dst (N := 3) rfl ?_); refine box_event ?hg (N := 3) ?hd (cs := #[.string a1_0, .int .i64 a1_1, .int .i64 a1_2, .string a1_3, .int .i64 a1_4, .int .i64 a1_5, .int .i64 a1_6, .slice A1_7 l1_7.length c1_7, .int .i64 a1_8, .int .i64 a1_9, .int .i64 a1_10, .int .i64 a1_11]) (t := 51) ?hr ?_; (case hd => rfl); (case hg => rfl); (case hr => first | (go_simp; done) | (go_simp; rfl)); intro gb110 hg w5 hbox hb; have n0_ := Aside0.mk (blk_below (g := gb109) (o := .cells #[.string a0_0, .string a0_1, .int .i64 a0_2, .int .i64 a0_3, .int .i64 a0_4, .int .i64 a0_5] 23 (0, 0)) (by (with_reducible repeat (first | refine blk_drewN ?_ _ | refine blk_drew ?_ | refine blk_alloc ?_ _)); exact BK109.out) hb); have n1_ := Aside0.mk (below_step (by repeat (first | (with_reducible first | exact HB.out | apply below_alloc | apply pw_below_drewN | apply below_drew1 | refine below_set ?_ GE109.out) | exact HB.out)) hb); have n2_ := Aside0.mk (hbox); have n3_ := Aside0.mk ((by rw [hg]; exact (below_size (by repeat (first | (with_reducible first | exact HB.out | apply below_alloc | apply pw_below_drewN | apply below_drew1 | refine below_set ?_ GE109.out) | exact HB.out))) : w.heap.size ≤ gb110)); have n4_ := Aside0.mk ((by rw [hg]; exact (below_size (by repeat (first | (with_reducible first | exact HB.out | apply below_alloc | apply pw_below_drewN | apply below_drew1 | refine below_set ?_ GE109.out) | exact HB.out))) : w.heap.size ≤ gb110)); have n5_ := Aside0.mk ((by rw [hg]; exact Nat.ne_of_lt (blk_lt (g := gb109) (o := .cells #[.string a0_0, .string a0_1, .int .i64 a0_2, .int .i64 a0_3, .int .i64 a0_4, .int .i64 a0_5] 23 (0, 0)) (by (with_reducible repeat (first | refine blk_drewN ?_ _ | refine blk_drew ?_ | refine blk_alloc ?_ _)); exact BK109.out)) : gb109 ≠ gb110)); have n6_ := Aside0.mk ((by rw [hg]; exact Nat.ne_of_gt (blk_lt (g := gb109) (o := .cells #[.string a0_0, .string a0_1, .int .i64 a0_2, .int .i64 a0_3, .int .i64 a0_4, .int .i64 a0_5] 23 (0, 0)) (by (with_reducible repeat (first | refine blk_drewN ?_ _ | refine blk_drew ?_ | refine blk_alloc ?_ _)); exact BK109.out)) : gb110 ≠ gb109)); clear BK109; clear HB; have BK109 := n0_; have HB := n1_; have BK110 := n2_; have GW110 := n3_; have GE110 := n4_; have NB109_110 := n5_; have NB110_109 := n6_; clear n0_ n1_ n2_ n3_ n4_ n5_ n6_; clear hb hbox hg; have hnb6 := NB109_110.out; have hnc6 := NB110_109.out; have hcz7_0 : w5.cell? ⟨gb109, 0, none⟩ = some (.string a0_0) := (blk_cell BK109.out 0).trans rfl; have hcz7_1 : w5.cell? ⟨gb109, 1, none⟩ = some (.string a0_1) := (blk_cell BK109.out 1).trans rfl; have hcz7_2 : w5.cell? ⟨gb109, 2, none⟩ = some (.int .i64 a0_2) := (blk_cell BK109.out 2).trans rfl; have hcz7_3 : w5.cell? ⟨gb109, 3, none⟩ = some (.int .i64 a0_3) := (blk_cell BK109.out 3).trans rfl; have hcz7_4 : w5.cell? ⟨gb109, 4, none⟩ = some (.int .i64 a0_4) := (blk_cell BK109.out 4).trans rfl; have hcz7_5 : w5.cell? ⟨gb109, 5, none⟩ = some (.int .i64 a0_5) := (blk_cell BK109.out 5).trans rfl; have hfz7_0 := blk_frozen BK109.out 0; have hfz7_1 := blk_frozen BK109.out 1; have hfz7_2 := blk_frozen BK109.out 2; have hfz7_3 := blk_frozen BK109.out 3; have hfz7_4 := blk_frozen BK109.out 4; have hfz7_5 := blk_frozen BK109.out 5)); go_upto_block 0 with (first | ((with_reducible refine gate_dst (N := 2) rfl ?_); refine box_event ?hg (N := 2) ?hd (cs := #[.string a0_0, .string a0_1, .int .i64 a0_2, .int .i64 a0_3, .int .i64 a0_4, .int .i64 a0_5]) (t := 23) ?hr ?_; (case hd => rfl); (case hg => rfl); (case hr => first | (go_simp; done) | (go_simp; rfl)); intro gb109 hg w4 hbox hb; have n0_ := Aside0.mk (below_step (by repeat (first | (with_reducible first | exact HB.out | apply below_alloc | apply pw_below_drewN | apply below_drew1) | exact HB.out)) hb); have n1_ := Aside0.mk (hbox); have n2_ := Aside0.mk ((by rw [hg]; exact (below_size (by repeat (first | (with_reducible first | exact HB.out | apply below_alloc | apply pw_below_drewN | apply below_drew1) | exact HB.out))) : w.heap.size ≤ gb109)); have n3_ := Aside0.mk ((by rw [hg]; exact (below_size (by repeat (first | (with_reducible first | exact HB.out | apply below_alloc | apply pw_below_drewN | apply below_drew1) | exact HB.out))) : w.heap.size ≤ gb109)); clear HB; have HB := n0_; have BK109 := n1_; have GW109 := n2_; have GE109 := n3_; clear n0_ n1_ n2_ n3_; clear hb hbox hg) | ((with_reducible refine gate_dst (N := 3) rfl ?_); refine box_event ?hg (N := 3) ?hd (cs := #[.string a1_0, .int .i64 a1_1, .int .i64 a1_2, .string a1_3, .int .i64 a1_4, .int .i64 a1_5, .int .i64 a1_6, .slice A1_7 l1_7.length c1_7, .int .i64 a1_8, .int .i64 a1_9, .int .i64 a1_10, .int .i64 a1_11]) (t := 51) ?hr ?_; (case hd => rfl); (case hg => rfl); (case hr => first | (go_simp; done) | (go_simp; rfl)); intro gb110 hg w5 hbox hb; have n0_ := Aside0.mk (blk_below (g := gb109) (o := .cells #[.string a0_0, .string a0_1, .int .i64 a0_2, .int .i64 a0_3, .int .i64 a0_4, .int .i64 a0_5] 23 (0, 0)) (by (with_reducible repeat (first | refine blk_drewN ?_ _ | refine blk_drew ?_ | refine blk_alloc ?_ _)); exact BK109.out) hb); have n1_ := Aside0.mk (below_step (by repeat (first | (with_reducible first | exact HB.out | apply below_alloc | apply pw_below_drewN | apply below_drew1 | refine below_set ?_ GE109.out) | exact HB.out)) hb); have n2_ := Aside0.mk (hbox); have n3_ := Aside0.mk ((by rw [hg]; exact (below_size (by repeat (first | (with_reducible first | exact HB.out | apply below_alloc | apply pw_below_drewN | apply below_drew1 | refine below_set ?_ GE109.out) | exact HB.out))) : w.heap.size ≤ gb110)); have n4_ := Aside0.mk ((by rw [hg]; exact (below_size (by repeat (first | (with_reducible first | exact HB.out | apply below_alloc | apply pw_below_drewN | apply below_drew1 | refine below_set ?_ GE109.out) | exact HB.out))) : w.heap.size ≤ gb110)); have n5_ := Aside0.mk ((by rw [hg]; exact Nat.ne_of_lt (blk_lt (g := gb109) (o := .cells #[.string a0_0, .string a0_1, .int .i64 a0_2, .int .i64 a0_3, .int .i64 a0_4, .int .i64 a0_5] 23 (0, 0)) (by (with_reducible repeat (first | refine blk_drewN ?_ _ | refine blk_drew ?_ | refine blk_alloc ?_ _)); exact BK109.out)) : gb109 ≠ gb110)); have n6_ := Aside0.mk ((by rw [hg]; exact Nat.ne_of_gt (blk_lt (g := gb109) (o := .cells #[.string a0_0, .string a0_1, .int .i64 a0_2, .int .i64 a0_3, .int .i64 a0_4, .int .i64 a0_5] 23 (0, 0)) (by (with_reducible repeat (first | refine blk_drewN ?_ _ | refine blk_drew ?_ | refine blk_alloc ?_ _)); exact BK109.out)) : gb110 ≠ gb109)); clear BK109; clear HB; have BK109 := n0_; have HB := n1_; have BK110 := n2_; have GW110 := n3_; have GE110 := n4_; have NB109_110 := n5_; have NB110_109 := n6_; clear n0_ n1_ n2_ n3_ n4_ n5_ n6_; clear hb hbox hg; have hnb6 := NB109_110.out; have hnc6 := NB110_109.out; have hcz7_0 : w5.cell? ⟨gb109, 0, none⟩ = some (.string a0_0) := (blk_cell BK109.out 0).trans rfl; have hcz7_1 : w5.cell? ⟨gb109, 1, none⟩ = some (.string a0_1) := (blk_cell BK109.out 1).trans rfl; have hcz7_2 : w5.cell? ⟨gb109, 2, none⟩ = some (.int .i64 a0_2) := (blk_cell BK109.out 2).trans rfl; have hcz7_3 : w5.cell? ⟨gb109, 3, none⟩ = some (.int .i64 a0_3) := (blk_cell BK109.out 3).trans rfl; have hcz7_4 : w5.cell? ⟨gb109, 4, none⟩ = some (.int .i64 a0_4) := (blk_cell BK109.out 4).trans rfl; have hcz7_5 : w5.cell? ⟨gb109, 5, none⟩ = some (.int .i64 a0_5) := (blk_cell BK109.out 5).trans rfl; have hfz7_0 := blk_frozen BK109.out 0; have hfz7_1 := blk_frozen BK109.out 1; have hfz7_2 := blk_frozen BK109.out 2; have hfz7_3 := blk_frozen BK109.out 3; have hfz7_4 := blk_frozen BK109.out 4; have hfz7_5 := blk_frozen BK109.out 5)))
 (try simp only [Act.put, List.setIfInBounds_toArray, List.set_cons_zero, List.set_cons_succ])
 go_cut [5, 6] (fun v5 v6 wc => ∃ (kq : Nat) (x5_2 : Bool) (x6_2 : Bool), v5 = .bool x5_2 ∧ v6 = .bool x6_2 ∧ Aside0 (trend_Check.j0 kq x5_2 x6_2 a0_0 a0_1 a0_2 a0_3 a0_4 a0_5 a1_0 a1_1 a1_2 a1_3 a1_4 a1_5 a1_6 l1_7 a1_8 a1_9 a1_10 a1_11 = some r) ∧ Aside0 (kq ≤ k) ∧ Aside0 (wc.heap[gb109]? = some (.cells #[.string a0_0, .string a0_1, .int .i64 a0_2, .int .i64 a0_3, .int .i64 a0_4, .int .i64 a0_5] 23 (0, 0))) ∧ Aside0 (wc.heap[gb110]? = some (.cells #[.string a1_0, .int .i64 a1_1, .int .i64 a1_2, .string a1_3, .int .i64 a1_4, .int .i64 a1_5, .int .i64 a1_6, (.slice A1_7 l1_7.length c1_7), .int .i64 a1_8, .int .i64 a1_9, .int .i64 a1_10, .int .i64 a1_11] 51 (0, 0))) ∧ Aside0 (Below w.heap.size w wc))
 case first =>
  have H := HC3.out
  clear HC3
  by_cases c8 : a0_2 = 1
  ·rw [if_pos c8] at H
   have c8b0 : (a0_2 == 1) = true := beq_iff_eq.mpr c8
   have c8b1 : (a0_2 != 1) = false := bne_eq_false_iff_eq.mpr c8
   clear c8
   (first | rw [c8b0] | (simp only [i64_w, i32_w]; rw [c8b0]) | skip)
   by_cases c9 : a0_3 ≥ 1
   ·rw [if_pos c9] at H
    have c9b0 : decide (1 ≤ a0_3) = true := decide_eq_true c9
    clear c9
    have H' := Aside0.mk H
    clear H
    have hnb10 := NB109_110.out
    have hnc10 := NB110_109.out
    have hcz11_0 : w5.cell? ⟨gb109, 0, none⟩ = some (.string a0_0) := (blk_cell BK109.out 0).trans rfl
    have hcz11_1 : w5.cell? ⟨gb109, 1, none⟩ = some (.string a0_1) := (blk_cell BK109.out 1).trans rfl
    have hcz11_2 : w5.cell? ⟨gb109, 2, none⟩ = some (.int .i64 a0_2) := (blk_cell BK109.out 2).trans rfl
    have hcz11_3 : w5.cell? ⟨gb109, 3, none⟩ = some (.int .i64 a0_3) := (blk_cell BK109.out 3).trans rfl
    have hcz11_4 : w5.cell? ⟨gb109, 4, none⟩ = some (.int .i64 a0_4) := (blk_cell BK109.out 4).trans rfl
    have hcz11_5 : w5.cell? ⟨gb109, 5, none⟩ = some (.int .i64 a0_5) := (blk_cell BK109.out 5).trans rfl
    have hfz11_0 := blk_frozen BK109.out 0
    have hfz11_1 := blk_frozen BK109.out 1
    have hfz11_2 := blk_frozen BK109.out 2
    have hfz11_3 := blk_frozen BK109.out 3
    have hfz11_4 := blk_frozen BK109.out 4
    have hfz11_5 := blk_frozen BK109.out 5
    go_wp2
    repeat (go_quiet (fail); try go_wp2)
    go_meet
    case rel => exact ⟨_, (decide (a0_3 ≤ 86400)), ((a0_4 == 0)), (by first | rfl | (simp; done) | (simp [*]; done)), (by first | rfl | (simp; done) | (simp [*]; done)), H', ⟨by first | omega | exact Nat.le_refl _⟩, ⟨by (with_reducible repeat (first | refine blk_drewN ?_ _ | refine blk_drew ?_ | refine blk_alloc ?_ _)); exact BK109.out⟩, ⟨by (with_reducible repeat (first | refine blk_drewN ?_ _ | refine blk_drew ?_ | refine blk_alloc ?_ _)); exact BK110.out⟩, ⟨by repeat (first | (with_reducible first | exact HB.out | apply below_alloc | apply pw_below_drewN | apply below_drew1 | refine below_set ?_ GE109.out | refine below_set ?_ GE110.out) | exact HB.out)⟩⟩
   ·rw [if_neg c9] at H
    have c9b0 : decide (1 ≤ a0_3) = false := decide_eq_false c9
    clear c9
    have H' := Aside0.mk H
    clear H
    have hnb12 := NB109_110.out
    have hnc12 := NB110_109.out
    have hcz13_0 : w5.cell? ⟨gb109, 0, none⟩ = some (.string a0_0) := (blk_cell BK109.out 0).trans rfl
    have hcz13_1 : w5.cell? ⟨gb109, 1, none⟩ = some (.string a0_1) := (blk_cell BK109.out 1).trans rfl
    have hcz13_2 : w5.cell? ⟨gb109, 2, none⟩ = some (.int .i64 a0_2) := (blk_cell BK109.out 2).trans rfl
    have hcz13_3 : w5.cell? ⟨gb109, 3, none⟩ = some (.int .i64 a0_3) := (blk_cell BK109.out 3).trans rfl
    have hcz13_4 : w5.cell? ⟨gb109, 4, none⟩ = some (.int .i64 a0_4) := (blk_cell BK109.out 4).trans rfl
    have hcz13_5 : w5.cell? ⟨gb109, 5, none⟩ = some (.int .i64 a0_5) := (blk_cell BK109.out 5).trans rfl
    have hfz13_0 := blk_frozen BK109.out 0
    have hfz13_1 := blk_frozen BK109.out 1
    have hfz13_2 := blk_frozen BK109.out 2
    have hfz13_3 := blk_frozen BK109.out 3
    have hfz13_4 := blk_frozen BK109.out 4
    have hfz13_5 := blk_frozen BK109.out 5
    go_wp2
    repeat (go_quiet (fail); try go_wp2)
    go_meet
    case rel => exact ⟨_, (false), ((a0_4 == 0)), (by first | rfl | (simp; done) | (simp [*]; done)), (by first | rfl | (simp; done) | (simp [*]; done)), H', ⟨by first | omega | exact Nat.le_refl _⟩, ⟨by (with_reducible repeat (first | refine blk_drewN ?_ _ | refine blk_drew ?_ | refine blk_alloc ?_ _)); exact BK109.out⟩, ⟨by (with_reducible repeat (first | refine blk_drewN ?_ _ | refine blk_drew ?_ | refine blk_alloc ?_ _)); exact BK110.out⟩, ⟨by repeat (first | (with_reducible first | exact HB.out | apply below_alloc | apply pw_below_drewN | apply below_drew1 | refine below_set ?_ GE109.out | refine below_set ?_ GE110.out) | exact HB.out)⟩⟩
  ·rw [if_neg c8] at H
   have c8b0 : (a0_2 == 1) = false := beq_eq_false_iff_ne.mpr c8
   have c8b1 : (a0_2 != 1) = true := bne_iff_ne.mpr c8
   (first | rw [c8b0] | (simp only [i64_w, i32_w]; rw [c8b0]) | skip)
   by_cases c14 : a0_2 = 2
   ·rw [if_pos c14] at H
    have c14b0 : (a0_2 == 2) = true := beq_iff_eq.mpr c14
    have c14b1 : (a0_2 != 2) = false := bne_eq_false_iff_eq.mpr c14
    clear c14
    by_cases c15 : a1_1 = 1
    ·rw [if_pos c15] at H
     have c15b0 : (a1_1 == 1) = true := beq_iff_eq.mpr c15
     have c15b1 : (a1_1 != 1) = false := bne_eq_false_iff_eq.mpr c15
     clear c15
     by_cases c16 : a0_4 ≥ 1
     ·rw [if_pos c16] at H
      have c16b0 : decide (1 ≤ a0_4) = true := decide_eq_true c16
      clear c16
      have H' := Aside0.mk H
      clear H
      have hnb17 := NB110_109.out
      have hnc17 := NB109_110.out
      have hcz18_0 : w5.cell? ⟨gb110, 0, none⟩ = some (.string a1_0) := (blk_cell BK110.out 0).trans rfl
      have hcz18_1 : w5.cell? ⟨gb110, 1, none⟩ = some (.int .i64 a1_1) := (blk_cell BK110.out 1).trans rfl
      have hcz18_2 : w5.cell? ⟨gb110, 2, none⟩ = some (.int .i64 a1_2) := (blk_cell BK110.out 2).trans rfl
      have hcz18_3 : w5.cell? ⟨gb110, 3, none⟩ = some (.string a1_3) := (blk_cell BK110.out 3).trans rfl
      have hcz18_4 : w5.cell? ⟨gb110, 4, none⟩ = some (.int .i64 a1_4) := (blk_cell BK110.out 4).trans rfl
      have hcz18_5 : w5.cell? ⟨gb110, 5, none⟩ = some (.int .i64 a1_5) := (blk_cell BK110.out 5).trans rfl
      have hcz18_6 : w5.cell? ⟨gb110, 6, none⟩ = some (.int .i64 a1_6) := (blk_cell BK110.out 6).trans rfl
      have hcz18_7 : w5.cell? ⟨gb110, 7, none⟩ = some (.slice A1_7 l1_7.length c1_7) := (blk_cell BK110.out 7).trans rfl
      have hcz18_8 : w5.cell? ⟨gb110, 8, none⟩ = some (.int .i64 a1_8) := (blk_cell BK110.out 8).trans rfl
      have hcz18_9 : w5.cell? ⟨gb110, 9, none⟩ = some (.int .i64 a1_9) := (blk_cell BK110.out 9).trans rfl
      have hcz18_10 : w5.cell? ⟨gb110, 10, none⟩ = some (.int .i64 a1_10) := (blk_cell BK110.out 10).trans rfl
      have hcz18_11 : w5.cell? ⟨gb110, 11, none⟩ = some (.int .i64 a1_11) := (blk_cell BK110.out 11).trans rfl
      have hfz18_0 := blk_frozen BK110.out 0
      have hfz18_1 := blk_frozen BK110.out 1
      have hfz18_2 := blk_frozen BK110.out 2
      have hfz18_3 := blk_frozen BK110.out 3
      have hfz18_4 := blk_frozen BK110.out 4
      have hfz18_5 := blk_frozen BK110.out 5
      have hfz18_6 := blk_frozen BK110.out 6
      have hfz18_7 := blk_frozen BK110.out 7
      have hfz18_8 := blk_frozen BK110.out 8
      have hfz18_9 := blk_frozen BK110.out 9
      have hfz18_10 := blk_frozen BK110.out 10
      have hfz18_11 := blk_frozen BK110.out 11
      have hcz19_0 : w5.cell? ⟨gb109, 0, none⟩ = some (.string a0_0) := (blk_cell BK109.out 0).trans rfl
      have hcz19_1 : w5.cell? ⟨gb109, 1, none⟩ = some (.string a0_1) := (blk_cell BK109.out 1).trans rfl
      have hcz19_2 : w5.cell? ⟨gb109, 2, none⟩ = some (.int .i64 a0_2) := (blk_cell BK109.out 2).trans rfl
      have hcz19_3 : w5.cell? ⟨gb109, 3, none⟩ = some (.int .i64 a0_3) := (blk_cell BK109.out 3).trans rfl
      have hcz19_4 : w5.cell? ⟨gb109, 4, none⟩ = some (.int .i64 a0_4) := (blk_cell BK109.out 4).trans rfl
      have hcz19_5 : w5.cell? ⟨gb109, 5, none⟩ = some (.int .i64 a0_5) := (blk_cell BK109.out 5).trans rfl
      have hfz19_0 := blk_frozen BK109.out 0
      have hfz19_1 := blk_frozen BK109.out 1
      have hfz19_2 := blk_frozen BK109.out 2
      have hfz19_3 := blk_frozen BK109.out 3
      have hfz19_4 := blk_frozen BK109.out 4
      have hfz19_5 := blk_frozen BK109.out 5
      go_wp2
      repeat (go_quiet (fail); try go_wp2)
      go_meet
      case rel => exact ⟨_, ((a0_3 == 0)), (decide (a0_4 ≤ 1000000000000)), (by first | rfl | (simp; done) | (simp [*]; done)), (by first | rfl | (simp; done) | (simp [*]; done)), H', ⟨by first | omega | exact Nat.le_refl _⟩, ⟨by (with_reducible repeat (first | refine blk_drewN ?_ _ | refine blk_drew ?_ | refine blk_alloc ?_ _)); exact BK109.out⟩, ⟨by (with_reducible repeat (first | refine blk_drewN ?_ _ | refine blk_drew ?_ | refine blk_alloc ?_ _)); exact BK110.out⟩, ⟨by repeat (first | (with_reducible first | exact HB.out | apply below_alloc | apply pw_below_drewN | apply below_drew1 | refine below_set ?_ GE109.out | refine below_set ?_ GE110.out) | exact HB.out)⟩⟩
     ·rw [if_neg c16] at H
      have c16b0 : decide (1 ≤ a0_4) = false := decide_eq_false c16
      clear c16
      have H' := Aside0.mk H
      clear H
      have hnb20 := NB110_109.out
      have hnc20 := NB109_110.out
      have hcz21_0 : w5.cell? ⟨gb110, 0, none⟩ = some (.string a1_0) := (blk_cell BK110.out 0).trans rfl
      have hcz21_1 : w5.cell? ⟨gb110, 1, none⟩ = some (.int .i64 a1_1) := (blk_cell BK110.out 1).trans rfl
      have hcz21_2 : w5.cell? ⟨gb110, 2, none⟩ = some (.int .i64 a1_2) := (blk_cell BK110.out 2).trans rfl
      have hcz21_3 : w5.cell? ⟨gb110, 3, none⟩ = some (.string a1_3) := (blk_cell BK110.out 3).trans rfl
      have hcz21_4 : w5.cell? ⟨gb110, 4, none⟩ = some (.int .i64 a1_4) := (blk_cell BK110.out 4).trans rfl
      have hcz21_5 : w5.cell? ⟨gb110, 5, none⟩ = some (.int .i64 a1_5) := (blk_cell BK110.out 5).trans rfl
      have hcz21_6 : w5.cell? ⟨gb110, 6, none⟩ = some (.int .i64 a1_6) := (blk_cell BK110.out 6).trans rfl
      have hcz21_7 : w5.cell? ⟨gb110, 7, none⟩ = some (.slice A1_7 l1_7.length c1_7) := (blk_cell BK110.out 7).trans rfl
      have hcz21_8 : w5.cell? ⟨gb110, 8, none⟩ = some (.int .i64 a1_8) := (blk_cell BK110.out 8).trans rfl
      have hcz21_9 : w5.cell? ⟨gb110, 9, none⟩ = some (.int .i64 a1_9) := (blk_cell BK110.out 9).trans rfl
      have hcz21_10 : w5.cell? ⟨gb110, 10, none⟩ = some (.int .i64 a1_10) := (blk_cell BK110.out 10).trans rfl
      have hcz21_11 : w5.cell? ⟨gb110, 11, none⟩ = some (.int .i64 a1_11) := (blk_cell BK110.out 11).trans rfl
      have hfz21_0 := blk_frozen BK110.out 0
      have hfz21_1 := blk_frozen BK110.out 1
      have hfz21_2 := blk_frozen BK110.out 2
      have hfz21_3 := blk_frozen BK110.out 3
      have hfz21_4 := blk_frozen BK110.out 4
      have hfz21_5 := blk_frozen BK110.out 5
      have hfz21_6 := blk_frozen BK110.out 6
      have hfz21_7 := blk_frozen BK110.out 7
      have hfz21_8 := blk_frozen BK110.out 8
      have hfz21_9 := blk_frozen BK110.out 9
      have hfz21_10 := blk_frozen BK110.out 10
      have hfz21_11 := blk_frozen BK110.out 11
      have hcz22_0 : w5.cell? ⟨gb109, 0, none⟩ = some (.string a0_0) := (blk_cell BK109.out 0).trans rfl
      have hcz22_1 : w5.cell? ⟨gb109, 1, none⟩ = some (.string a0_1) := (blk_cell BK109.out 1).trans rfl
      have hcz22_2 : w5.cell? ⟨gb109, 2, none⟩ = some (.int .i64 a0_2) := (blk_cell BK109.out 2).trans rfl
      have hcz22_3 : w5.cell? ⟨gb109, 3, none⟩ = some (.int .i64 a0_3) := (blk_cell BK109.out 3).trans rfl
      have hcz22_4 : w5.cell? ⟨gb109, 4, none⟩ = some (.int .i64 a0_4) := (blk_cell BK109.out 4).trans rfl
      have hcz22_5 : w5.cell? ⟨gb109, 5, none⟩ = some (.int .i64 a0_5) := (blk_cell BK109.out 5).trans rfl
      have hfz22_0 := blk_frozen BK109.out 0
      have hfz22_1 := blk_frozen BK109.out 1
      have hfz22_2 := blk_frozen BK109.out 2
      have hfz22_3 := blk_frozen BK109.out 3
      have hfz22_4 := blk_frozen BK109.out 4
      have hfz22_5 := blk_frozen BK109.out 5
      go_wp2
      repeat (go_quiet (fail); try go_wp2)
      go_meet
      case rel => exact ⟨_, ((a0_3 == 0)), (false), (by first | rfl | (simp; done) | (simp [*]; done)), (by first | rfl | (simp; done) | (simp [*]; done)), H', ⟨by first | omega | exact Nat.le_refl _⟩, ⟨by (with_reducible repeat (first | refine blk_drewN ?_ _ | refine blk_drew ?_ | refine blk_alloc ?_ _)); exact BK109.out⟩, ⟨by (with_reducible repeat (first | refine blk_drewN ?_ _ | refine blk_drew ?_ | refine blk_alloc ?_ _)); exact BK110.out⟩, ⟨by repeat (first | (with_reducible first | exact HB.out | apply below_alloc | apply pw_below_drewN | apply below_drew1 | refine below_set ?_ GE109.out | refine below_set ?_ GE110.out) | exact HB.out)⟩⟩
    ·rw [if_neg c15] at H
     have c15b0 : (a1_1 == 1) = false := beq_eq_false_iff_ne.mpr c15
     have c15b1 : (a1_1 != 1) = true := bne_iff_ne.mpr c15
     have H' := Aside0.mk H
     clear H
     have hnb23 := NB110_109.out
     have hnc23 := NB109_110.out
     have hcz24_0 : w5.cell? ⟨gb110, 0, none⟩ = some (.string a1_0) := (blk_cell BK110.out 0).trans rfl
     have hcz24_1 : w5.cell? ⟨gb110, 1, none⟩ = some (.int .i64 a1_1) := (blk_cell BK110.out 1).trans rfl
     have hcz24_2 : w5.cell? ⟨gb110, 2, none⟩ = some (.int .i64 a1_2) := (blk_cell BK110.out 2).trans rfl
     have hcz24_3 : w5.cell? ⟨gb110, 3, none⟩ = some (.string a1_3) := (blk_cell BK110.out 3).trans rfl
     have hcz24_4 : w5.cell? ⟨gb110, 4, none⟩ = some (.int .i64 a1_4) := (blk_cell BK110.out 4).trans rfl
     have hcz24_5 : w5.cell? ⟨gb110, 5, none⟩ = some (.int .i64 a1_5) := (blk_cell BK110.out 5).trans rfl
     have hcz24_6 : w5.cell? ⟨gb110, 6, none⟩ = some (.int .i64 a1_6) := (blk_cell BK110.out 6).trans rfl
     have hcz24_7 : w5.cell? ⟨gb110, 7, none⟩ = some (.slice A1_7 l1_7.length c1_7) := (blk_cell BK110.out 7).trans rfl
     have hcz24_8 : w5.cell? ⟨gb110, 8, none⟩ = some (.int .i64 a1_8) := (blk_cell BK110.out 8).trans rfl
     have hcz24_9 : w5.cell? ⟨gb110, 9, none⟩ = some (.int .i64 a1_9) := (blk_cell BK110.out 9).trans rfl
     have hcz24_10 : w5.cell? ⟨gb110, 10, none⟩ = some (.int .i64 a1_10) := (blk_cell BK110.out 10).trans rfl
     have hcz24_11 : w5.cell? ⟨gb110, 11, none⟩ = some (.int .i64 a1_11) := (blk_cell BK110.out 11).trans rfl
     have hfz24_0 := blk_frozen BK110.out 0
     have hfz24_1 := blk_frozen BK110.out 1
     have hfz24_2 := blk_frozen BK110.out 2
     have hfz24_3 := blk_frozen BK110.out 3
     have hfz24_4 := blk_frozen BK110.out 4
     have hfz24_5 := blk_frozen BK110.out 5
     have hfz24_6 := blk_frozen BK110.out 6
     have hfz24_7 := blk_frozen BK110.out 7
     have hfz24_8 := blk_frozen BK110.out 8
     have hfz24_9 := blk_frozen BK110.out 9
     have hfz24_10 := blk_frozen BK110.out 10
     have hfz24_11 := blk_frozen BK110.out 11
     go_wp2
     repeat (go_quiet (fail); try go_wp2)
     go_meet
     case rel => exact ⟨_, ((a0_3 == 0)), ((a0_4 == 0)), (by first | rfl | (simp; done) | (simp [*]; done)), (by first | rfl | (simp; done) | (simp [*]; done)), H', ⟨by first | omega | exact Nat.le_refl _⟩, ⟨by (with_reducible repeat (first | refine blk_drewN ?_ _ | refine blk_drew ?_ | refine blk_alloc ?_ _)); exact BK109.out⟩, ⟨by (with_reducible repeat (first | refine blk_drewN ?_ _ | refine blk_drew ?_ | refine blk_alloc ?_ _)); exact BK110.out⟩, ⟨by repeat (first | (with_reducible first | exact HB.out | apply below_alloc | apply pw_below_drewN | apply below_drew1 | refine below_set ?_ GE109.out | refine below_set ?_ GE110.out) | exact HB.out)⟩⟩
   ·rw [if_neg c14] at H
    have c14b0 : (a0_2 == 2) = false := beq_eq_false_iff_ne.mpr c14
    have c14b1 : (a0_2 != 2) = true := bne_iff_ne.mpr c14
    have H' := Aside0.mk H
    clear H
    go_wp2
    repeat (go_quiet (fail); try go_wp2)
    go_meet
    case rel => exact ⟨_, ((a0_3 == 0)), ((a0_4 == 0)), (by first | rfl | (simp; done) | (simp [*]; done)), (by first | rfl | (simp; done) | (simp [*]; done)), H', ⟨by first | omega | exact Nat.le_refl _⟩, ⟨by (with_reducible repeat (first | refine blk_drewN ?_ _ | refine blk_drew ?_ | refine blk_alloc ?_ _)); exact BK109.out⟩, ⟨by (with_reducible repeat (first | refine blk_drewN ?_ _ | refine blk_drew ?_ | refine blk_alloc ?_ _)); exact BK110.out⟩, ⟨by repeat (first | (with_reducible first | exact HB.out | apply below_alloc | apply pw_below_drewN | apply below_drew1 | refine below_set ?_ GE109.out | refine below_set ?_ GE110.out) | exact HB.out)⟩⟩
 case rest =>
  clear HC3
  try clear c1
  try clear c2
  try clear p2
  try clear c6
  try clear c8
  try clear c8b0
  try clear c8b1
  try clear c9
  try clear c9b0
  try clear c10
  try clear c12
  try clear c14
  try clear c14b0
  try clear c14b1
  try clear c15
  try clear c15b0
  try clear c15b1
  try clear c16
  try clear c16b0
  try clear c17
  try clear c20
  try clear c23
  try clear hcz11_0
  try clear hcz11_1
  try clear hcz11_2
  try clear hcz11_3
  try clear hcz11_4
  try clear hcz11_5
  try clear hcz13_0
  try clear hcz13_1
  try clear hcz13_2
  try clear hcz13_3
  try clear hcz13_4
  try clear hcz13_5
  try clear hcz18_0
  try clear hcz18_1
  try clear hcz18_10
  try clear hcz18_11
  try clear hcz18_2
  try clear hcz18_3
  try clear hcz18_4
  try clear hcz18_5
  try clear hcz18_6
  try clear hcz18_7
  try clear hcz18_8
  try clear hcz18_9
  try clear hcz19_0
  try clear hcz19_1
  try clear hcz19_2
  try clear hcz19_3
  try clear hcz19_4
  try clear hcz19_5
  try clear hcz21_0
  try clear hcz21_1
  try clear hcz21_10
  try clear hcz21_11
  try clear hcz21_2
  try clear hcz21_3
  try clear hcz21_4
  try clear hcz21_5
  try clear hcz21_6
  try clear hcz21_7
  try clear hcz21_8
  try clear hcz21_9
  try clear hcz22_0
  try clear hcz22_1
  try clear hcz22_2
  try clear hcz22_3
  try clear hcz22_4
  try clear hcz22_5
  try clear hcz24_0
  try clear hcz24_1
  try clear hcz24_10
  try clear hcz24_11
  try clear hcz24_2
  try clear hcz24_3
  try clear hcz24_4
  try clear hcz24_5
  try clear hcz24_6
  try clear hcz24_7
  try clear hcz24_8
  try clear hcz24_9
  try clear hcz7_0
  try clear hcz7_1
  try clear hcz7_2
  try clear hcz7_3
  try clear hcz7_4
  try clear hcz7_5
  try clear hfz11_0
  try clear hfz11_1
  try clear hfz11_2
  try clear hfz11_3
  try clear hfz11_4
  try clear hfz11_5
  try clear hfz13_0
  try clear hfz13_1
  try clear hfz13_2
  try clear hfz13_3
  try clear hfz13_4
  try clear hfz13_5
  try clear hfz18_0
  try clear hfz18_1
  try clear hfz18_10
  try clear hfz18_11
  try clear hfz18_2
  try clear hfz18_3
  try clear hfz18_4
  try clear hfz18_5
  try clear hfz18_6
  try clear hfz18_7
  try clear hfz18_8
  try clear hfz18_9
  try clear hfz19_0
  try clear hfz19_1
  try clear hfz19_2
  try clear hfz19_3
  try clear hfz19_4
  try clear hfz19_5
  try clear hfz21_0
  try clear hfz21_1
  try clear hfz21_10
  try clear hfz21_11
  try clear hfz21_2
  try clear hfz21_3
  try clear hfz21_4
  try clear hfz21_5
  try clear hfz21_6
  try clear hfz21_7
  try clear hfz21_8
  try clear hfz21_9
  try clear hfz22_0
  try clear hfz22_1
  try clear hfz22_2
  try clear hfz22_3
  try clear hfz22_4
  try clear hfz22_5
  try clear hfz24_0
  try clear hfz24_1
  try clear hfz24_10
  try clear hfz24_11
  try clear hfz24_2
  try clear hfz24_3
  try clear hfz24_4
  try clear hfz24_5
  try clear hfz24_6
  try clear hfz24_7
  try clear hfz24_8
  try clear hfz24_9
  try clear hfz7_0
  try clear hfz7_1
  try clear hfz7_2
  try clear hfz7_3
  try clear hfz7_4
  try clear hfz7_5
  obtain ⟨kq, x5_2, x6_2, rfl, rfl, HA, HJ2, BK109, BK110, HB⟩ := hcut
  cases kq with
  | zero => exact absurd HA.out (by simp [trend_Check.j0])
  | succ kj2 =>
   have H := HA.out
   clear HA
   simp only [trend_Check.j0] at H
   replace H := Option.bind_eq_some_iff.mp H
   obtain ⟨t111, A250, H⟩ := H
   replace H : (if t111 = true then (if a0_1.toList = a1_0.toList then (if a0_2 = 1 then (trend_Check.j1 kj2 x5_2 x6_2 false a0_0 a0_1 a0_2 a0_3 a0_4 a0_5) else (if a0_2 = 2 then (trend_Check.j1 kj2 x5_2 x6_2 false a0_0 a0_1 a0_2 a0_3 a0_4 a0_5) else (trend_Check.j1 kj2 x5_2 x6_2 (a0_2 != 3) a0_0 a0_1 a0_2 a0_3 a0_4 a0_5))) else (some 3)) else (some 4)) = some r := H
   have A25 := Aside0.mk A250
   clear A250
   by_cases c26 : t111 = true
   ·subst c26
    have H1 : (if a0_1.toList = a1_0.toList then (if a0_2 = 1 then (trend_Check.j1 kj2 x5_2 x6_2 false a0_0 a0_1 a0_2 a0_3 a0_4 a0_5) else (if a0_2 = 2 then (trend_Check.j1 kj2 x5_2 x6_2 false a0_0 a0_1 a0_2 a0_3 a0_4 a0_5) else (trend_Check.j1 kj2 x5_2 x6_2 (a0_2 != 3) a0_0 a0_1 a0_2 a0_3 a0_4 a0_5))) else (some 3)) = some r := by rw [if_pos rfl] at H; exact H
    clear H
    have H := H1
    clear H1
    by_cases c27 : a0_1.toList = a1_0.toList
    ·rw [if_pos c27] at H
     have c27b0 : (a0_1.toList == a1_0.toList) = true := beq_iff_eq.mpr c27
     have c27b1 : (a0_1.toList != a1_0.toList) = false := bne_eq_false_iff_eq.mpr c27
     clear c27
     have HC28 := Aside0.mk H
     clear H
     have hnb29 := NB109_110.out
     have hnc29 := NB110_109.out
     have hcz30_0 : wc.cell? ⟨gb109, 0, none⟩ = some (.string a0_0) := (blk_cell BK109.out 0).trans rfl
     have hcz30_1 : wc.cell? ⟨gb109, 1, none⟩ = some (.string a0_1) := (blk_cell BK109.out 1).trans rfl
     have hcz30_2 : wc.cell? ⟨gb109, 2, none⟩ = some (.int .i64 a0_2) := (blk_cell BK109.out 2).trans rfl
     have hcz30_3 : wc.cell? ⟨gb109, 3, none⟩ = some (.int .i64 a0_3) := (blk_cell BK109.out 3).trans rfl
     have hcz30_4 : wc.cell? ⟨gb109, 4, none⟩ = some (.int .i64 a0_4) := (blk_cell BK109.out 4).trans rfl
     have hcz30_5 : wc.cell? ⟨gb109, 5, none⟩ = some (.int .i64 a0_5) := (blk_cell BK109.out 5).trans rfl
     have hfz30_0 := blk_frozen BK109.out 0
     have hfz30_1 := blk_frozen BK109.out 1
     have hfz30_2 := blk_frozen BK109.out 2
     have hfz30_3 := blk_frozen BK109.out 3
     have hfz30_4 := blk_frozen BK109.out 4
     have hfz30_5 := blk_frozen BK109.out 5
     go_upto_region 12 with (first | (go_at_call 29; (with_reducible refine (lexer_Name.calls a0_0 true _ ?side99  A25.out).mono ?_); (case side99 => first | exact HG.out | exact Glob.below HG.out (by repeat (first | (with_reducible first | exact HB.out | apply below_alloc | apply pw_below_drewN | apply below_drew1 | refine below_set ?_ GE109.out | refine below_set ?_ GE110.out) | exact HB.out))); rintro e w31 ⟨rfl, hb⟩; have n0_ := Aside0.mk (blk_below (g := gb109) (o := .cells #[.string a0_0, .string a0_1, .int .i64 a0_2, .int .i64 a0_3, .int .i64 a0_4, .int .i64 a0_5] 23 (0, 0)) (by (with_reducible repeat (first | refine blk_drewN ?_ _ | refine blk_drew ?_ | refine blk_alloc ?_ _)); exact BK109.out) hb); have n1_ := Aside0.mk (blk_below (g := gb110) (o := .cells #[.string a1_0, .int .i64 a1_1, .int .i64 a1_2, .string a1_3, .int .i64 a1_4, .int .i64 a1_5, .int .i64 a1_6, .slice A1_7 l1_7.length c1_7, .int .i64 a1_8, .int .i64 a1_9, .int .i64 a1_10, .int .i64 a1_11] 51 (0, 0)) (by (with_reducible repeat (first | refine blk_drewN ?_ _ | refine blk_drew ?_ | refine blk_alloc ?_ _)); exact BK110.out) hb); have n2_ := Aside0.mk (below_step (by repeat (first | (with_reducible first | exact HB.out | apply below_alloc | apply pw_below_drewN | apply below_drew1 | refine below_set ?_ GE109.out | refine below_set ?_ GE110.out) | exact HB.out)) hb); clear BK109; clear BK110; clear HB; have BK109 := n0_; have BK110 := n1_; have HB := n2_; clear n0_ n1_ n2_; (try clear hb); (try clear hb2); (try clear hk); (try clear hi); have hcz32_0 : w31.cell? ⟨gb109, 0, none⟩ = some (.string a0_0) := (blk_cell BK109.out 0).trans rfl; have hcz32_1 : w31.cell? ⟨gb109, 1, none⟩ = some (.string a0_1) := (blk_cell BK109.out 1).trans rfl; have hcz32_2 : w31.cell? ⟨gb109, 2, none⟩ = some (.int .i64 a0_2) := (blk_cell BK109.out 2).trans rfl; have hcz32_3 : w31.cell? ⟨gb109, 3, none⟩ = some (.int .i64 a0_3) := (blk_cell BK109.out 3).trans rfl; have hcz32_4 : w31.cell? ⟨gb109, 4, none⟩ = some (.int .i64 a0_4) := (blk_cell BK109.out 4).trans rfl; have hcz32_5 : w31.cell? ⟨gb109, 5, none⟩ = some (.int .i64 a0_5) := (blk_cell BK109.out 5).trans rfl; have hfz32_0 := blk_frozen BK109.out 0; have hfz32_1 := blk_frozen BK109.out 1; have hfz32_2 := blk_frozen BK109.out 2; have hfz32_3 := blk_frozen BK109.out 3; have hfz32_4 := blk_frozen BK109.out 4; have hfz32_5 := blk_frozen BK109.out 5; have hcz33_0 : w31.cell? ⟨gb110, 0, none⟩ = some (.string a1_0) := (blk_cell BK110.out 0).trans rfl; have hcz33_1 : w31.cell? ⟨gb110, 1, none⟩ = some (.int .i64 a1_1) := (blk_cell BK110.out 1).trans rfl; have hcz33_2 : w31.cell? ⟨gb110, 2, none⟩ = some (.int .i64 a1_2) := (blk_cell BK110.out 2).trans rfl; have hcz33_3 : w31.cell? ⟨gb110, 3, none⟩ = some (.string a1_3) := (blk_cell BK110.out 3).trans rfl; have hcz33_4 : w31.cell? ⟨gb110, 4, none⟩ = some (.int .i64 a1_4) := (blk_cell BK110.out 4).trans rfl; have hcz33_5 : w31.cell? ⟨gb110, 5, none⟩ = some (.int .i64 a1_5) := (blk_cell BK110.out 5).trans rfl; have hcz33_6 : w31.cell? ⟨gb110, 6, none⟩ = some (.int .i64 a1_6) := (blk_cell BK110.out 6).trans rfl; have hcz33_7 : w31.cell? ⟨gb110, 7, none⟩ = some (.slice A1_7 l1_7.length c1_7) := (blk_cell BK110.out 7).trans rfl; have hcz33_8 : w31.cell? ⟨gb110, 8, none⟩ = some (.int .i64 a1_8) := (blk_cell BK110.out 8).trans rfl; have hcz33_9 : w31.cell? ⟨gb110, 9, none⟩ = some (.int .i64 a1_9) := (blk_cell BK110.out 9).trans rfl; have hcz33_10 : w31.cell? ⟨gb110, 10, none⟩ = some (.int .i64 a1_10) := (blk_cell BK110.out 10).trans rfl; have hcz33_11 : w31.cell? ⟨gb110, 11, none⟩ = some (.int .i64 a1_11) := (blk_cell BK110.out 11).trans rfl; have hfz33_0 := blk_frozen BK110.out 0; have hfz33_1 := blk_frozen BK110.out 1; have hfz33_2 := blk_frozen BK110.out 2; have hfz33_3 := blk_frozen BK110.out 3; have hfz33_4 := blk_frozen BK110.out 4; have hfz33_5 := blk_frozen BK110.out 5; have hfz33_6 := blk_frozen BK110.out 6; have hfz33_7 := blk_frozen BK110.out 7; have hfz33_8 := blk_frozen BK110.out 8; have hfz33_9 := blk_frozen BK110.out 9; have hfz33_10 := blk_frozen BK110.out 10; have hfz33_11 := blk_frozen BK110.out 11))
     repeat (go_quiet (first | (go_at_call 29; (with_reducible refine (lexer_Name.calls a0_0 true _ ?side99  A25.out).mono ?_); (case side99 => first | exact HG.out | exact Glob.below HG.out (by repeat (first | (with_reducible first | exact HB.out | apply below_alloc | apply pw_below_drewN | apply below_drew1 | refine below_set ?_ GE109.out | refine below_set ?_ GE110.out) | exact HB.out))); rintro e w31 ⟨rfl, hb⟩; have n0_ := Aside0.mk (blk_below (g := gb109) (o := .cells #[.string a0_0, .string a0_1, .int .i64 a0_2, .int .i64 a0_3, .int .i64 a0_4, .int .i64 a0_5] 23 (0, 0)) (by (with_reducible repeat (first | refine blk_drewN ?_ _ | refine blk_drew ?_ | refine blk_alloc ?_ _)); exact BK109.out) hb); have n1_ := Aside0.mk (blk_below (g := gb110) (o := .cells #[.string a1_0, .int .i64 a1_1, .int .i64 a1_2, .string a1_3, .int .i64 a1_4, .int .i64 a1_5, .int .i64 a1_6, .slice A1_7 l1_7.length c1_7, .int .i64 a1_8, .int .i64 a1_9, .int .i64 a1_10, .int .i64 a1_11] 51 (0, 0)) (by (with_reducible repeat (first | refine blk_drewN ?_ _ | refine blk_drew ?_ | refine blk_alloc ?_ _)); exact BK110.out) hb); have n2_ := Aside0.mk (below_step (by repeat (first | (with_reducible first | exact HB.out | apply below_alloc | apply pw_below_drewN | apply below_drew1 | refine below_set ?_ GE109.out | refine below_set ?_ GE110.out) | exact HB.out)) hb); clear BK109; clear BK110; clear HB; have BK109 := n0_; have BK110 := n1_; have HB := n2_; clear n0_ n1_ n2_; (try clear hb); (try clear hb2); (try clear hk); (try clear hi); have hcz32_0 : w31.cell? ⟨gb109, 0, none⟩ = some (.string a0_0) := (blk_cell BK109.out 0).trans rfl; have hcz32_1 : w31.cell? ⟨gb109, 1, none⟩ = some (.string a0_1) := (blk_cell BK109.out 1).trans rfl; have hcz32_2 : w31.cell? ⟨gb109, 2, none⟩ = some (.int .i64 a0_2) := (blk_cell BK109.out 2).trans rfl; have hcz32_3 : w31.cell? ⟨gb109, 3, none⟩ = some (.int .i64 a0_3) := (blk_cell BK109.out 3).trans rfl; have hcz32_4 : w31.cell? ⟨gb109, 4, none⟩ = some (.int .i64 a0_4) := (blk_cell BK109.out 4).trans rfl; have hcz32_5 : w31.cell? ⟨gb109, 5, none⟩ = some (.int .i64 a0_5) := (blk_cell BK109.out 5).trans rfl; have hfz32_0 := blk_frozen BK109.out 0; have hfz32_1 := blk_frozen BK109.out 1; have hfz32_2 := blk_frozen BK109.out 2; have hfz32_3 := blk_frozen BK109.out 3; have hfz32_4 := blk_frozen BK109.out 4; have hfz32_5 := blk_frozen BK109.out 5; have hcz33_0 : w31.cell? ⟨gb110, 0, none⟩ = some (.string a1_0) := (blk_cell BK110.out 0).trans rfl; have hcz33_1 : w31.cell? ⟨gb110, 1, none⟩ = some (.int .i64 a1_1) := (blk_cell BK110.out 1).trans rfl; have hcz33_2 : w31.cell? ⟨gb110, 2, none⟩ = some (.int .i64 a1_2) := (blk_cell BK110.out 2).trans rfl; have hcz33_3 : w31.cell? ⟨gb110, 3, none⟩ = some (.string a1_3) := (blk_cell BK110.out 3).trans rfl; have hcz33_4 : w31.cell? ⟨gb110, 4, none⟩ = some (.int .i64 a1_4) := (blk_cell BK110.out 4).trans rfl; have hcz33_5 : w31.cell? ⟨gb110, 5, none⟩ = some (.int .i64 a1_5) := (blk_cell BK110.out 5).trans rfl; have hcz33_6 : w31.cell? ⟨gb110, 6, none⟩ = some (.int .i64 a1_6) := (blk_cell BK110.out 6).trans rfl; have hcz33_7 : w31.cell? ⟨gb110, 7, none⟩ = some (.slice A1_7 l1_7.length c1_7) := (blk_cell BK110.out 7).trans rfl; have hcz33_8 : w31.cell? ⟨gb110, 8, none⟩ = some (.int .i64 a1_8) := (blk_cell BK110.out 8).trans rfl; have hcz33_9 : w31.cell? ⟨gb110, 9, none⟩ = some (.int .i64 a1_9) := (blk_cell BK110.out 9).trans rfl; have hcz33_10 : w31.cell? ⟨gb110, 10, none⟩ = some (.int .i64 a1_10) := (blk_cell BK110.out 10).trans rfl; have hcz33_11 : w31.cell? ⟨gb110, 11, none⟩ = some (.int .i64 a1_11) := (blk_cell BK110.out 11).trans rfl; have hfz33_0 := blk_frozen BK110.out 0; have hfz33_1 := blk_frozen BK110.out 1; have hfz33_2 := blk_frozen BK110.out 2; have hfz33_3 := blk_frozen BK110.out 3; have hfz33_4 := blk_frozen BK110.out 4; have hfz33_5 := blk_frozen BK110.out 5; have hfz33_6 := blk_frozen BK110.out 6; have hfz33_7 := blk_frozen BK110.out 7; have hfz33_8 := blk_frozen BK110.out 8; have hfz33_9 := blk_frozen BK110.out 9; have hfz33_10 := blk_frozen BK110.out 10; have hfz33_11 := blk_frozen BK110.out 11)); go_upto_region 12 with (first | (go_at_call 29; (with_reducible refine (lexer_Name.calls a0_0 true _ ?side99  A25.out).mono ?_); (case side99 => first | exact HG.out | exact Glob.below HG.out (by repeat (first | (with_reducible first | exact HB.out | apply below_alloc | apply pw_below_drewN | apply below_drew1 | refine below_set ?_ GE109.out | refine below_set ?_ GE110.out) | exact HB.out))); rintro e w31 ⟨rfl, hb⟩; have n0_ := Aside0.mk (blk_below (g := gb109) (o := .cells #[.string a0_0, .string a0_1, .int .i64 a0_2, .int .i64 a0_3, .int .i64 a0_4, .int .i64 a0_5] 23 (0, 0)) (by (with_reducible repeat (first | refine blk_drewN ?_ _ | refine blk_drew ?_ | refine blk_alloc ?_ _)); exact BK109.out) hb); have n1_ := Aside0.mk (blk_below (g := gb110) (o := .cells #[.string a1_0, .int .i64 a1_1, .int .i64 a1_2, .string a1_3, .int .i64 a1_4, .int .i64 a1_5, .int .i64 a1_6, .slice A1_7 l1_7.length c1_7, .int .i64 a1_8, .int .i64 a1_9, .int .i64 a1_10, .int .i64 a1_11] 51 (0, 0)) (by (with_reducible repeat (first | refine blk_drewN ?_ _ | refine blk_drew ?_ | refine blk_alloc ?_ _)); exact BK110.out) hb); have n2_ := Aside0.mk (below_step (by repeat (first | (with_reducible first | exact HB.out | apply below_alloc | apply pw_below_drewN | apply below_drew1 | refine below_set ?_ GE109.out | refine below_set ?_ GE110.out) | exact HB.out)) hb); clear BK109; clear BK110; clear HB; have BK109 := n0_; have BK110 := n1_; have HB := n2_; clear n0_ n1_ n2_; (try clear hb); (try clear hb2); (try clear hk); (try clear hi); have hcz32_0 : w31.cell? ⟨gb109, 0, none⟩ = some (.string a0_0) := (blk_cell BK109.out 0).trans rfl; have hcz32_1 : w31.cell? ⟨gb109, 1, none⟩ = some (.string a0_1) := (blk_cell BK109.out 1).trans rfl; have hcz32_2 : w31.cell? ⟨gb109, 2, none⟩ = some (.int .i64 a0_2) := (blk_cell BK109.out 2).trans rfl; have hcz32_3 : w31.cell? ⟨gb109, 3, none⟩ = some (.int .i64 a0_3) := (blk_cell BK109.out 3).trans rfl; have hcz32_4 : w31.cell? ⟨gb109, 4, none⟩ = some (.int .i64 a0_4) := (blk_cell BK109.out 4).trans rfl; have hcz32_5 : w31.cell? ⟨gb109, 5, none⟩ = some (.int .i64 a0_5) := (blk_cell BK109.out 5).trans rfl; have hfz32_0 := blk_frozen BK109.out 0; have hfz32_1 := blk_frozen BK109.out 1; have hfz32_2 := blk_frozen BK109.out 2; have hfz32_3 := blk_frozen BK109.out 3; have hfz32_4 := blk_frozen BK109.out 4; have hfz32_5 := blk_frozen BK109.out 5; have hcz33_0 : w31.cell? ⟨gb110, 0, none⟩ = some (.string a1_0) := (blk_cell BK110.out 0).trans rfl; have hcz33_1 : w31.cell? ⟨gb110, 1, none⟩ = some (.int .i64 a1_1) := (blk_cell BK110.out 1).trans rfl; have hcz33_2 : w31.cell? ⟨gb110, 2, none⟩ = some (.int .i64 a1_2) := (blk_cell BK110.out 2).trans rfl; have hcz33_3 : w31.cell? ⟨gb110, 3, none⟩ = some (.string a1_3) := (blk_cell BK110.out 3).trans rfl; have hcz33_4 : w31.cell? ⟨gb110, 4, none⟩ = some (.int .i64 a1_4) := (blk_cell BK110.out 4).trans rfl; have hcz33_5 : w31.cell? ⟨gb110, 5, none⟩ = some (.int .i64 a1_5) := (blk_cell BK110.out 5).trans rfl; have hcz33_6 : w31.cell? ⟨gb110, 6, none⟩ = some (.int .i64 a1_6) := (blk_cell BK110.out 6).trans rfl; have hcz33_7 : w31.cell? ⟨gb110, 7, none⟩ = some (.slice A1_7 l1_7.length c1_7) := (blk_cell BK110.out 7).trans rfl; have hcz33_8 : w31.cell? ⟨gb110, 8, none⟩ = some (.int .i64 a1_8) := (blk_cell BK110.out 8).trans rfl; have hcz33_9 : w31.cell? ⟨gb110, 9, none⟩ = some (.int .i64 a1_9) := (blk_cell BK110.out 9).trans rfl; have hcz33_10 : w31.cell? ⟨gb110, 10, none⟩ = some (.int .i64 a1_10) := (blk_cell BK110.out 10).trans rfl; have hcz33_11 : w31.cell? ⟨gb110, 11, none⟩ = some (.int .i64 a1_11) := (blk_cell BK110.out 11).trans rfl; have hfz33_0 := blk_frozen BK110.out 0; have hfz33_1 := blk_frozen BK110.out 1; have hfz33_2 := blk_frozen BK110.out 2; have hfz33_3 := blk_frozen BK110.out 3; have hfz33_4 := blk_frozen BK110.out 4; have hfz33_5 := blk_frozen BK110.out 5; have hfz33_6 := blk_frozen BK110.out 6; have hfz33_7 := blk_frozen BK110.out 7; have hfz33_8 := blk_frozen BK110.out 8; have hfz33_9 := blk_frozen BK110.out 9; have hfz33_10 := blk_frozen BK110.out 10; have hfz33_11 := blk_frozen BK110.out 11)))
     (try simp only [Act.put, List.setIfInBounds_toArray, List.set_cons_zero, List.set_cons_succ])
     go_cut [49] (fun v49 wc => ∃ (kq : Nat) (x49_27 : Bool), v49 = .bool x49_27 ∧ Aside0 (trend_Check.j1 kq x5_2 x6_2 x49_27 a0_0 a0_1 a0_2 a0_3 a0_4 a0_5 = some r) ∧ Aside0 (kq ≤ kj2) ∧ Aside0 (wc.heap[gb109]? = some (.cells #[.string a0_0, .string a0_1, .int .i64 a0_2, .int .i64 a0_3, .int .i64 a0_4, .int .i64 a0_5] 23 (0, 0))) ∧ Aside0 (wc.heap[gb110]? = some (.cells #[.string a1_0, .int .i64 a1_1, .int .i64 a1_2, .string a1_3, .int .i64 a1_4, .int .i64 a1_5, .int .i64 a1_6, (.slice A1_7 l1_7.length c1_7), .int .i64 a1_8, .int .i64 a1_9, .int .i64 a1_10, .int .i64 a1_11] 51 (0, 0))) ∧ Aside0 (Below w.heap.size w wc))
     case first =>
      have H := HC28.out
      clear HC28
      by_cases c34 : a0_2 = 1
      ·rw [if_pos c34] at H
       have c34b0 : (a0_2 == 1) = true := beq_iff_eq.mpr c34
       have c34b1 : (a0_2 != 1) = false := bne_eq_false_iff_eq.mpr c34
       clear c34
       (first | rw [c34b0] | (simp only [i64_w, i32_w]; rw [c34b0]) | skip)
       have H' := Aside0.mk H
       clear H
       have hnb35 := NB109_110.out
       have hnc35 := NB110_109.out
       have hcz36_0 : w31.cell? ⟨gb109, 0, none⟩ = some (.string a0_0) := (blk_cell BK109.out 0).trans rfl
       have hcz36_1 : w31.cell? ⟨gb109, 1, none⟩ = some (.string a0_1) := (blk_cell BK109.out 1).trans rfl
       have hcz36_2 : w31.cell? ⟨gb109, 2, none⟩ = some (.int .i64 a0_2) := (blk_cell BK109.out 2).trans rfl
       have hcz36_3 : w31.cell? ⟨gb109, 3, none⟩ = some (.int .i64 a0_3) := (blk_cell BK109.out 3).trans rfl
       have hcz36_4 : w31.cell? ⟨gb109, 4, none⟩ = some (.int .i64 a0_4) := (blk_cell BK109.out 4).trans rfl
       have hcz36_5 : w31.cell? ⟨gb109, 5, none⟩ = some (.int .i64 a0_5) := (blk_cell BK109.out 5).trans rfl
       have hfz36_0 := blk_frozen BK109.out 0
       have hfz36_1 := blk_frozen BK109.out 1
       have hfz36_2 := blk_frozen BK109.out 2
       have hfz36_3 := blk_frozen BK109.out 3
       have hfz36_4 := blk_frozen BK109.out 4
       have hfz36_5 := blk_frozen BK109.out 5
       go_wp2
       repeat (go_quiet (fail); try go_wp2)
       go_meet
       case rel => exact ⟨_, (false), (by first | rfl | (simp; done) | (simp [*]; done)), H', ⟨by have := HJ2.out; first | omega | exact Nat.le_refl _⟩, ⟨by (with_reducible repeat (first | refine blk_drewN ?_ _ | refine blk_drew ?_ | refine blk_alloc ?_ _)); exact BK109.out⟩, ⟨by (with_reducible repeat (first | refine blk_drewN ?_ _ | refine blk_drew ?_ | refine blk_alloc ?_ _)); exact BK110.out⟩, ⟨by repeat (first | (with_reducible first | exact HB.out | apply below_alloc | apply pw_below_drewN | apply below_drew1 | refine below_set ?_ GE109.out | refine below_set ?_ GE110.out) | exact HB.out)⟩⟩
      ·rw [if_neg c34] at H
       have c34b0 : (a0_2 == 1) = false := beq_eq_false_iff_ne.mpr c34
       have c34b1 : (a0_2 != 1) = true := bne_iff_ne.mpr c34
       (first | rw [c34b0] | (simp only [i64_w, i32_w]; rw [c34b0]) | skip)
       by_cases c37 : a0_2 = 2
       ·rw [if_pos c37] at H
        have c37b0 : (a0_2 == 2) = true := beq_iff_eq.mpr c37
        have c37b1 : (a0_2 != 2) = false := bne_eq_false_iff_eq.mpr c37
        clear c37
        have H' := Aside0.mk H
        clear H
        have hnb38 := NB109_110.out
        have hnc38 := NB110_109.out
        have hcz39_0 : w31.cell? ⟨gb109, 0, none⟩ = some (.string a0_0) := (blk_cell BK109.out 0).trans rfl
        have hcz39_1 : w31.cell? ⟨gb109, 1, none⟩ = some (.string a0_1) := (blk_cell BK109.out 1).trans rfl
        have hcz39_2 : w31.cell? ⟨gb109, 2, none⟩ = some (.int .i64 a0_2) := (blk_cell BK109.out 2).trans rfl
        have hcz39_3 : w31.cell? ⟨gb109, 3, none⟩ = some (.int .i64 a0_3) := (blk_cell BK109.out 3).trans rfl
        have hcz39_4 : w31.cell? ⟨gb109, 4, none⟩ = some (.int .i64 a0_4) := (blk_cell BK109.out 4).trans rfl
        have hcz39_5 : w31.cell? ⟨gb109, 5, none⟩ = some (.int .i64 a0_5) := (blk_cell BK109.out 5).trans rfl
        have hfz39_0 := blk_frozen BK109.out 0
        have hfz39_1 := blk_frozen BK109.out 1
        have hfz39_2 := blk_frozen BK109.out 2
        have hfz39_3 := blk_frozen BK109.out 3
        have hfz39_4 := blk_frozen BK109.out 4
        have hfz39_5 := blk_frozen BK109.out 5
        go_wp2
        repeat (go_quiet (fail); try go_wp2)
        go_meet
        case rel => exact ⟨_, (false), (by first | rfl | (simp; done) | (simp [*]; done)), H', ⟨by have := HJ2.out; first | omega | exact Nat.le_refl _⟩, ⟨by (with_reducible repeat (first | refine blk_drewN ?_ _ | refine blk_drew ?_ | refine blk_alloc ?_ _)); exact BK109.out⟩, ⟨by (with_reducible repeat (first | refine blk_drewN ?_ _ | refine blk_drew ?_ | refine blk_alloc ?_ _)); exact BK110.out⟩, ⟨by repeat (first | (with_reducible first | exact HB.out | apply below_alloc | apply pw_below_drewN | apply below_drew1 | refine below_set ?_ GE109.out | refine below_set ?_ GE110.out) | exact HB.out)⟩⟩
       ·rw [if_neg c37] at H
        have c37b0 : (a0_2 == 2) = false := beq_eq_false_iff_ne.mpr c37
        have c37b1 : (a0_2 != 2) = true := bne_iff_ne.mpr c37
        have H' := Aside0.mk H
        clear H
        have hnb40 := NB109_110.out
        have hnc40 := NB110_109.out
        have hcz41_0 : w31.cell? ⟨gb109, 0, none⟩ = some (.string a0_0) := (blk_cell BK109.out 0).trans rfl
        have hcz41_1 : w31.cell? ⟨gb109, 1, none⟩ = some (.string a0_1) := (blk_cell BK109.out 1).trans rfl
        have hcz41_2 : w31.cell? ⟨gb109, 2, none⟩ = some (.int .i64 a0_2) := (blk_cell BK109.out 2).trans rfl
        have hcz41_3 : w31.cell? ⟨gb109, 3, none⟩ = some (.int .i64 a0_3) := (blk_cell BK109.out 3).trans rfl
        have hcz41_4 : w31.cell? ⟨gb109, 4, none⟩ = some (.int .i64 a0_4) := (blk_cell BK109.out 4).trans rfl
        have hcz41_5 : w31.cell? ⟨gb109, 5, none⟩ = some (.int .i64 a0_5) := (blk_cell BK109.out 5).trans rfl
        have hfz41_0 := blk_frozen BK109.out 0
        have hfz41_1 := blk_frozen BK109.out 1
        have hfz41_2 := blk_frozen BK109.out 2
        have hfz41_3 := blk_frozen BK109.out 3
        have hfz41_4 := blk_frozen BK109.out 4
        have hfz41_5 := blk_frozen BK109.out 5
        go_wp2
        repeat (go_quiet (fail); try go_wp2)
        go_meet
        case rel => exact ⟨_, ((a0_2 != 3)), (by first | rfl | (simp; done) | (simp [*]; done)), H', ⟨by have := HJ2.out; first | omega | exact Nat.le_refl _⟩, ⟨by (with_reducible repeat (first | refine blk_drewN ?_ _ | refine blk_drew ?_ | refine blk_alloc ?_ _)); exact BK109.out⟩, ⟨by (with_reducible repeat (first | refine blk_drewN ?_ _ | refine blk_drew ?_ | refine blk_alloc ?_ _)); exact BK110.out⟩, ⟨by repeat (first | (with_reducible first | exact HB.out | apply below_alloc | apply pw_below_drewN | apply below_drew1 | refine below_set ?_ GE109.out | refine below_set ?_ GE110.out) | exact HB.out)⟩⟩
     case rest =>
      clear HC28
      try clear c1
      try clear c2
      try clear p2
      try clear c3
      try clear c4
      try clear c6
      try clear c8
      try clear c8b0
      try clear c8b1
      try clear c9
      try clear c9b0
      try clear c10
      try clear c12
      try clear c14
      try clear c14b0
      try clear c14b1
      try clear c15
      try clear c15b0
      try clear c15b1
      try clear c16
      try clear c16b0
      try clear c17
      try clear c20
      try clear c23
      try clear c26
      try clear c27
      try clear c27b0
      try clear c27b1
      try clear c29
      try clear c34
      try clear c34b0
      try clear c34b1
      try clear c35
      try clear c37
      try clear c37b0
      try clear c37b1
      try clear c38
      try clear c40
      try clear hcz11_0
      try clear hcz11_1
      try clear hcz11_2
      try clear hcz11_3
      try clear hcz11_4
      try clear hcz11_5
      try clear hcz13_0
      try clear hcz13_1
      try clear hcz13_2
      try clear hcz13_3
      try clear hcz13_4
      try clear hcz13_5
      try clear hcz18_0
      try clear hcz18_1
      try clear hcz18_10
      try clear hcz18_11
      try clear hcz18_2
      try clear hcz18_3
      try clear hcz18_4
      try clear hcz18_5
      try clear hcz18_6
      try clear hcz18_7
      try clear hcz18_8
      try clear hcz18_9
      try clear hcz19_0
      try clear hcz19_1
      try clear hcz19_2
      try clear hcz19_3
      try clear hcz19_4
      try clear hcz19_5
      try clear hcz21_0
      try clear hcz21_1
      try clear hcz21_10
      try clear hcz21_11
      try clear hcz21_2
      try clear hcz21_3
      try clear hcz21_4
      try clear hcz21_5
      try clear hcz21_6
      try clear hcz21_7
      try clear hcz21_8
      try clear hcz21_9
      try clear hcz22_0
      try clear hcz22_1
      try clear hcz22_2
      try clear hcz22_3
      try clear hcz22_4
      try clear hcz22_5
      try clear hcz24_0
      try clear hcz24_1
      try clear hcz24_10
      try clear hcz24_11
      try clear hcz24_2
      try clear hcz24_3
      try clear hcz24_4
      try clear hcz24_5
      try clear hcz24_6
      try clear hcz24_7
      try clear hcz24_8
      try clear hcz24_9
      try clear hcz30_0
      try clear hcz30_1
      try clear hcz30_2
      try clear hcz30_3
      try clear hcz30_4
      try clear hcz30_5
      try clear hcz32_0
      try clear hcz32_1
      try clear hcz32_2
      try clear hcz32_3
      try clear hcz32_4
      try clear hcz32_5
      try clear hcz33_0
      try clear hcz33_1
      try clear hcz33_10
      try clear hcz33_11
      try clear hcz33_2
      try clear hcz33_3
      try clear hcz33_4
      try clear hcz33_5
      try clear hcz33_6
      try clear hcz33_7
      try clear hcz33_8
      try clear hcz33_9
      try clear hcz36_0
      try clear hcz36_1
      try clear hcz36_2
      try clear hcz36_3
      try clear hcz36_4
      try clear hcz36_5
      try clear hcz39_0
      try clear hcz39_1
      try clear hcz39_2
      try clear hcz39_3
      try clear hcz39_4
      try clear hcz39_5
      try clear hcz41_0
      try clear hcz41_1
      try clear hcz41_2
      try clear hcz41_3
      try clear hcz41_4
      try clear hcz41_5
      try clear hcz7_0
      try clear hcz7_1
      try clear hcz7_2
      try clear hcz7_3
      try clear hcz7_4
      try clear hcz7_5
      try clear hfz11_0
      try clear hfz11_1
      try clear hfz11_2
      try clear hfz11_3
      try clear hfz11_4
      try clear hfz11_5
      try clear hfz13_0
      try clear hfz13_1
      try clear hfz13_2
      try clear hfz13_3
      try clear hfz13_4
      try clear hfz13_5
      try clear hfz18_0
      try clear hfz18_1
      try clear hfz18_10
      try clear hfz18_11
      try clear hfz18_2
      try clear hfz18_3
      try clear hfz18_4
      try clear hfz18_5
      try clear hfz18_6
      try clear hfz18_7
      try clear hfz18_8
      try clear hfz18_9
      try clear hfz19_0
      try clear hfz19_1
      try clear hfz19_2
      try clear hfz19_3
      try clear hfz19_4
      try clear hfz19_5
      try clear hfz21_0
      try clear hfz21_1
      try clear hfz21_10
      try clear hfz21_11
      try clear hfz21_2
      try clear hfz21_3
      try clear hfz21_4
      try clear hfz21_5
      try clear hfz21_6
      try clear hfz21_7
      try clear hfz21_8
      try clear hfz21_9
      try clear hfz22_0
      try clear hfz22_1
      try clear hfz22_2
      try clear hfz22_3
      try clear hfz22_4
      try clear hfz22_5
      try clear hfz24_0
      try clear hfz24_1
      try clear hfz24_10
      try clear hfz24_11
      try clear hfz24_2
      try clear hfz24_3
      try clear hfz24_4
      try clear hfz24_5
      try clear hfz24_6
      try clear hfz24_7
      try clear hfz24_8
      try clear hfz24_9
      try clear hfz30_0
      try clear hfz30_1
      try clear hfz30_2
      try clear hfz30_3
      try clear hfz30_4
      try clear hfz30_5
      try clear hfz32_0
      try clear hfz32_1
      try clear hfz32_2
      try clear hfz32_3
      try clear hfz32_4
      try clear hfz32_5
      try clear hfz33_0
      try clear hfz33_1
      try clear hfz33_10
      try clear hfz33_11
      try clear hfz33_2
      try clear hfz33_3
      try clear hfz33_4
      try clear hfz33_5
      try clear hfz33_6
      try clear hfz33_7
      try clear hfz33_8
      try clear hfz33_9
      try clear hfz36_0
      try clear hfz36_1
      try clear hfz36_2
      try clear hfz36_3
      try clear hfz36_4
      try clear hfz36_5
      try clear hfz39_0
      try clear hfz39_1
      try clear hfz39_2
      try clear hfz39_3
      try clear hfz39_4
      try clear hfz39_5
      try clear hfz41_0
      try clear hfz41_1
      try clear hfz41_2
      try clear hfz41_3
      try clear hfz41_4
      try clear hfz41_5
      try clear hfz7_0
      try clear hfz7_1
      try clear hfz7_2
      try clear hfz7_3
      try clear hfz7_4
      try clear hfz7_5
      try clear p2
      obtain ⟨kq, x49_27, rfl, HA, HJ27, BK109, BK110, HB⟩ := hcut
      cases kq with
      | zero => exact absurd HA.out (by simp [trend_Check.j1])
      | succ kj27 =>
       have H := HA.out
       clear HA
       simp only [trend_Check.j1] at H
       by_cases c42 : x49_27 = true
       ·subst c42
        have H1 : (some 1) = some r := by rw [if_pos rfl] at H; exact H
        clear H
        have H := H1
        clear H1
        obtain rfl := Option.some.inj H
        go_wp2
        repeat (go_quiet (fail); try go_wp2)
        go_ret
        exact ⟨by first | rfl | (simp [errW_none, errW_some] <;> rfl) | (simp [*, errW_none, errW_some] <;> rfl), by repeat (first | (with_reducible first | exact HB.out | apply below_alloc | apply pw_below_drewN | apply below_drew1 | refine below_set ?_ GE109.out | refine below_set ?_ GE110.out) | exact HB.out)⟩
       ·replace c42 := Bool.eq_false_iff.mpr c42
        subst c42
        have H1 : (if a0_5 < 1 then (some 6) else (if a0_5 > 1024 then (some 6) else (if x5_2 = true then (if x6_2 = true then (some 0) else (some 6)) else (some 6)))) = some r := by rw [if_neg (show ¬ (false = true) by decide)] at H; exact H
        clear H
        have H := H1
        clear H1
        by_cases c43 : a0_5 < 1
        ·rw [if_pos c43] at H
         have c43b0 : decide (a0_5 < 1) = true := decide_eq_true c43
         clear c43
         obtain rfl := Option.some.inj H
         have hnb44 := NB109_110.out
         have hnc44 := NB110_109.out
         have hcz45_0 : wc.cell? ⟨gb109, 0, none⟩ = some (.string a0_0) := (blk_cell BK109.out 0).trans rfl
         have hcz45_1 : wc.cell? ⟨gb109, 1, none⟩ = some (.string a0_1) := (blk_cell BK109.out 1).trans rfl
         have hcz45_2 : wc.cell? ⟨gb109, 2, none⟩ = some (.int .i64 a0_2) := (blk_cell BK109.out 2).trans rfl
         have hcz45_3 : wc.cell? ⟨gb109, 3, none⟩ = some (.int .i64 a0_3) := (blk_cell BK109.out 3).trans rfl
         have hcz45_4 : wc.cell? ⟨gb109, 4, none⟩ = some (.int .i64 a0_4) := (blk_cell BK109.out 4).trans rfl
         have hcz45_5 : wc.cell? ⟨gb109, 5, none⟩ = some (.int .i64 a0_5) := (blk_cell BK109.out 5).trans rfl
         have hfz45_0 := blk_frozen BK109.out 0
         have hfz45_1 := blk_frozen BK109.out 1
         have hfz45_2 := blk_frozen BK109.out 2
         have hfz45_3 := blk_frozen BK109.out 3
         have hfz45_4 := blk_frozen BK109.out 4
         have hfz45_5 := blk_frozen BK109.out 5
         go_wp2
         repeat (go_quiet (fail); try go_wp2)
         go_ret
         exact ⟨by first | rfl | (simp [errW_none, errW_some] <;> rfl) | (simp [*, errW_none, errW_some] <;> rfl), by repeat (first | (with_reducible first | exact HB.out | apply below_alloc | apply pw_below_drewN | apply below_drew1 | refine below_set ?_ GE109.out | refine below_set ?_ GE110.out) | exact HB.out)⟩
        ·rw [if_neg c43] at H
         have c43b0 : decide (a0_5 < 1) = false := decide_eq_false c43
         clear c43
         by_cases c46 : a0_5 > 1024
         ·rw [if_pos c46] at H
          have c46b0 : decide (1024 < a0_5) = true := decide_eq_true c46
          clear c46
          obtain rfl := Option.some.inj H
          have hnb47 := NB109_110.out
          have hnc47 := NB110_109.out
          have hcz48_0 : wc.cell? ⟨gb109, 0, none⟩ = some (.string a0_0) := (blk_cell BK109.out 0).trans rfl
          have hcz48_1 : wc.cell? ⟨gb109, 1, none⟩ = some (.string a0_1) := (blk_cell BK109.out 1).trans rfl
          have hcz48_2 : wc.cell? ⟨gb109, 2, none⟩ = some (.int .i64 a0_2) := (blk_cell BK109.out 2).trans rfl
          have hcz48_3 : wc.cell? ⟨gb109, 3, none⟩ = some (.int .i64 a0_3) := (blk_cell BK109.out 3).trans rfl
          have hcz48_4 : wc.cell? ⟨gb109, 4, none⟩ = some (.int .i64 a0_4) := (blk_cell BK109.out 4).trans rfl
          have hcz48_5 : wc.cell? ⟨gb109, 5, none⟩ = some (.int .i64 a0_5) := (blk_cell BK109.out 5).trans rfl
          have hfz48_0 := blk_frozen BK109.out 0
          have hfz48_1 := blk_frozen BK109.out 1
          have hfz48_2 := blk_frozen BK109.out 2
          have hfz48_3 := blk_frozen BK109.out 3
          have hfz48_4 := blk_frozen BK109.out 4
          have hfz48_5 := blk_frozen BK109.out 5
          go_wp2
          repeat (go_quiet (fail); try go_wp2)
          go_ret
          exact ⟨by first | rfl | (simp [errW_none, errW_some] <;> rfl) | (simp [*, errW_none, errW_some] <;> rfl), by repeat (first | (with_reducible first | exact HB.out | apply below_alloc | apply pw_below_drewN | apply below_drew1 | refine below_set ?_ GE109.out | refine below_set ?_ GE110.out) | exact HB.out)⟩
         ·rw [if_neg c46] at H
          have c46b0 : decide (1024 < a0_5) = false := decide_eq_false c46
          clear c46
          by_cases c49 : x5_2 = true
          ·subst c49
           have H1 : (if x6_2 = true then (some 0) else (some 6)) = some r := by rw [if_pos rfl] at H; exact H
           clear H
           have H := H1
           clear H1
           by_cases c50 : x6_2 = true
           ·subst c50
            have H1 : (some 0) = some r := by rw [if_pos rfl] at H; exact H
            clear H
            have H := H1
            clear H1
            obtain rfl := Option.some.inj H
            have hnb51 := NB109_110.out
            have hnc51 := NB110_109.out
            have hcz52_0 : wc.cell? ⟨gb109, 0, none⟩ = some (.string a0_0) := (blk_cell BK109.out 0).trans rfl
            have hcz52_1 : wc.cell? ⟨gb109, 1, none⟩ = some (.string a0_1) := (blk_cell BK109.out 1).trans rfl
            have hcz52_2 : wc.cell? ⟨gb109, 2, none⟩ = some (.int .i64 a0_2) := (blk_cell BK109.out 2).trans rfl
            have hcz52_3 : wc.cell? ⟨gb109, 3, none⟩ = some (.int .i64 a0_3) := (blk_cell BK109.out 3).trans rfl
            have hcz52_4 : wc.cell? ⟨gb109, 4, none⟩ = some (.int .i64 a0_4) := (blk_cell BK109.out 4).trans rfl
            have hcz52_5 : wc.cell? ⟨gb109, 5, none⟩ = some (.int .i64 a0_5) := (blk_cell BK109.out 5).trans rfl
            have hfz52_0 := blk_frozen BK109.out 0
            have hfz52_1 := blk_frozen BK109.out 1
            have hfz52_2 := blk_frozen BK109.out 2
            have hfz52_3 := blk_frozen BK109.out 3
            have hfz52_4 := blk_frozen BK109.out 4
            have hfz52_5 := blk_frozen BK109.out 5
            go_wp2
            repeat (go_quiet (fail); try go_wp2)
            go_ret
            exact ⟨by first | rfl | (simp [errW_none, errW_some] <;> rfl) | (simp [*, errW_none, errW_some] <;> rfl), by repeat (first | (with_reducible first | exact HB.out | apply below_alloc | apply pw_below_drewN | apply below_drew1 | refine below_set ?_ GE109.out | refine below_set ?_ GE110.out) | exact HB.out)⟩
           ·replace c50 := Bool.eq_false_iff.mpr c50
            subst c50
            have H1 : (some 6) = some r := by rw [if_neg (show ¬ (false = true) by decide)] at H; exact H
            clear H
            have H := H1
            clear H1
            obtain rfl := Option.some.inj H
            have hnb53 := NB109_110.out
            have hnc53 := NB110_109.out
            have hcz54_0 : wc.cell? ⟨gb109, 0, none⟩ = some (.string a0_0) := (blk_cell BK109.out 0).trans rfl
            have hcz54_1 : wc.cell? ⟨gb109, 1, none⟩ = some (.string a0_1) := (blk_cell BK109.out 1).trans rfl
            have hcz54_2 : wc.cell? ⟨gb109, 2, none⟩ = some (.int .i64 a0_2) := (blk_cell BK109.out 2).trans rfl
            have hcz54_3 : wc.cell? ⟨gb109, 3, none⟩ = some (.int .i64 a0_3) := (blk_cell BK109.out 3).trans rfl
            have hcz54_4 : wc.cell? ⟨gb109, 4, none⟩ = some (.int .i64 a0_4) := (blk_cell BK109.out 4).trans rfl
            have hcz54_5 : wc.cell? ⟨gb109, 5, none⟩ = some (.int .i64 a0_5) := (blk_cell BK109.out 5).trans rfl
            have hfz54_0 := blk_frozen BK109.out 0
            have hfz54_1 := blk_frozen BK109.out 1
            have hfz54_2 := blk_frozen BK109.out 2
            have hfz54_3 := blk_frozen BK109.out 3
            have hfz54_4 := blk_frozen BK109.out 4
            have hfz54_5 := blk_frozen BK109.out 5
            go_wp2
            repeat (go_quiet (fail); try go_wp2)
            go_ret
            exact ⟨by first | rfl | (simp [errW_none, errW_some] <;> rfl) | (simp [*, errW_none, errW_some] <;> rfl), by repeat (first | (with_reducible first | exact HB.out | apply below_alloc | apply pw_below_drewN | apply below_drew1 | refine below_set ?_ GE109.out | refine below_set ?_ GE110.out) | exact HB.out)⟩
          ·replace c49 := Bool.eq_false_iff.mpr c49
           subst c49
           have H1 : (some 6) = some r := by rw [if_neg (show ¬ (false = true) by decide)] at H; exact H
           clear H
           have H := H1
           clear H1
           obtain rfl := Option.some.inj H
           have hnb55 := NB109_110.out
           have hnc55 := NB110_109.out
           have hcz56_0 : wc.cell? ⟨gb109, 0, none⟩ = some (.string a0_0) := (blk_cell BK109.out 0).trans rfl
           have hcz56_1 : wc.cell? ⟨gb109, 1, none⟩ = some (.string a0_1) := (blk_cell BK109.out 1).trans rfl
           have hcz56_2 : wc.cell? ⟨gb109, 2, none⟩ = some (.int .i64 a0_2) := (blk_cell BK109.out 2).trans rfl
           have hcz56_3 : wc.cell? ⟨gb109, 3, none⟩ = some (.int .i64 a0_3) := (blk_cell BK109.out 3).trans rfl
           have hcz56_4 : wc.cell? ⟨gb109, 4, none⟩ = some (.int .i64 a0_4) := (blk_cell BK109.out 4).trans rfl
           have hcz56_5 : wc.cell? ⟨gb109, 5, none⟩ = some (.int .i64 a0_5) := (blk_cell BK109.out 5).trans rfl
           have hfz56_0 := blk_frozen BK109.out 0
           have hfz56_1 := blk_frozen BK109.out 1
           have hfz56_2 := blk_frozen BK109.out 2
           have hfz56_3 := blk_frozen BK109.out 3
           have hfz56_4 := blk_frozen BK109.out 4
           have hfz56_5 := blk_frozen BK109.out 5
           go_wp2
           repeat (go_quiet (fail); try go_wp2)
           go_ret
           exact ⟨by first | rfl | (simp [errW_none, errW_some] <;> rfl) | (simp [*, errW_none, errW_some] <;> rfl), by repeat (first | (with_reducible first | exact HB.out | apply below_alloc | apply pw_below_drewN | apply below_drew1 | refine below_set ?_ GE109.out | refine below_set ?_ GE110.out) | exact HB.out)⟩
    ·rw [if_neg c27] at H
     have c27b0 : (a0_1.toList == a1_0.toList) = false := beq_eq_false_iff_ne.mpr c27
     have c27b1 : (a0_1.toList != a1_0.toList) = true := bne_iff_ne.mpr c27
     obtain rfl := Option.some.inj H
     have hnb57 := NB109_110.out
     have hnc57 := NB110_109.out
     have hcz58_0 : wc.cell? ⟨gb109, 0, none⟩ = some (.string a0_0) := (blk_cell BK109.out 0).trans rfl
     have hcz58_1 : wc.cell? ⟨gb109, 1, none⟩ = some (.string a0_1) := (blk_cell BK109.out 1).trans rfl
     have hcz58_2 : wc.cell? ⟨gb109, 2, none⟩ = some (.int .i64 a0_2) := (blk_cell BK109.out 2).trans rfl
     have hcz58_3 : wc.cell? ⟨gb109, 3, none⟩ = some (.int .i64 a0_3) := (blk_cell BK109.out 3).trans rfl
     have hcz58_4 : wc.cell? ⟨gb109, 4, none⟩ = some (.int .i64 a0_4) := (blk_cell BK109.out 4).trans rfl
     have hcz58_5 : wc.cell? ⟨gb109, 5, none⟩ = some (.int .i64 a0_5) := (blk_cell BK109.out 5).trans rfl
     have hfz58_0 := blk_frozen BK109.out 0
     have hfz58_1 := blk_frozen BK109.out 1
     have hfz58_2 := blk_frozen BK109.out 2
     have hfz58_3 := blk_frozen BK109.out 3
     have hfz58_4 := blk_frozen BK109.out 4
     have hfz58_5 := blk_frozen BK109.out 5
     go_wp2_with (first | (go_at_call 29; (with_reducible refine (lexer_Name.calls a0_0 true _ ?side99  A25.out).mono ?_); (case side99 => first | exact HG.out | exact Glob.below HG.out (by repeat (first | (with_reducible first | exact HB.out | apply below_alloc | apply pw_below_drewN | apply below_drew1 | refine below_set ?_ GE109.out | refine below_set ?_ GE110.out) | exact HB.out))); rintro e w59 ⟨rfl, hb⟩; have n0_ := Aside0.mk (blk_below (g := gb109) (o := .cells #[.string a0_0, .string a0_1, .int .i64 a0_2, .int .i64 a0_3, .int .i64 a0_4, .int .i64 a0_5] 23 (0, 0)) (by (with_reducible repeat (first | refine blk_drewN ?_ _ | refine blk_drew ?_ | refine blk_alloc ?_ _)); exact BK109.out) hb); have n1_ := Aside0.mk (blk_below (g := gb110) (o := .cells #[.string a1_0, .int .i64 a1_1, .int .i64 a1_2, .string a1_3, .int .i64 a1_4, .int .i64 a1_5, .int .i64 a1_6, .slice A1_7 l1_7.length c1_7, .int .i64 a1_8, .int .i64 a1_9, .int .i64 a1_10, .int .i64 a1_11] 51 (0, 0)) (by (with_reducible repeat (first | refine blk_drewN ?_ _ | refine blk_drew ?_ | refine blk_alloc ?_ _)); exact BK110.out) hb); have n2_ := Aside0.mk (below_step (by repeat (first | (with_reducible first | exact HB.out | apply below_alloc | apply pw_below_drewN | apply below_drew1 | refine below_set ?_ GE109.out | refine below_set ?_ GE110.out) | exact HB.out)) hb); clear BK109; clear BK110; clear HB; have BK109 := n0_; have BK110 := n1_; have HB := n2_; clear n0_ n1_ n2_; (try clear hb); (try clear hb2); (try clear hk); (try clear hi); have hcz60_0 : w59.cell? ⟨gb109, 0, none⟩ = some (.string a0_0) := (blk_cell BK109.out 0).trans rfl; have hcz60_1 : w59.cell? ⟨gb109, 1, none⟩ = some (.string a0_1) := (blk_cell BK109.out 1).trans rfl; have hcz60_2 : w59.cell? ⟨gb109, 2, none⟩ = some (.int .i64 a0_2) := (blk_cell BK109.out 2).trans rfl; have hcz60_3 : w59.cell? ⟨gb109, 3, none⟩ = some (.int .i64 a0_3) := (blk_cell BK109.out 3).trans rfl; have hcz60_4 : w59.cell? ⟨gb109, 4, none⟩ = some (.int .i64 a0_4) := (blk_cell BK109.out 4).trans rfl; have hcz60_5 : w59.cell? ⟨gb109, 5, none⟩ = some (.int .i64 a0_5) := (blk_cell BK109.out 5).trans rfl; have hfz60_0 := blk_frozen BK109.out 0; have hfz60_1 := blk_frozen BK109.out 1; have hfz60_2 := blk_frozen BK109.out 2; have hfz60_3 := blk_frozen BK109.out 3; have hfz60_4 := blk_frozen BK109.out 4; have hfz60_5 := blk_frozen BK109.out 5; have hcz61_0 : w59.cell? ⟨gb110, 0, none⟩ = some (.string a1_0) := (blk_cell BK110.out 0).trans rfl; have hcz61_1 : w59.cell? ⟨gb110, 1, none⟩ = some (.int .i64 a1_1) := (blk_cell BK110.out 1).trans rfl; have hcz61_2 : w59.cell? ⟨gb110, 2, none⟩ = some (.int .i64 a1_2) := (blk_cell BK110.out 2).trans rfl; have hcz61_3 : w59.cell? ⟨gb110, 3, none⟩ = some (.string a1_3) := (blk_cell BK110.out 3).trans rfl; have hcz61_4 : w59.cell? ⟨gb110, 4, none⟩ = some (.int .i64 a1_4) := (blk_cell BK110.out 4).trans rfl; have hcz61_5 : w59.cell? ⟨gb110, 5, none⟩ = some (.int .i64 a1_5) := (blk_cell BK110.out 5).trans rfl; have hcz61_6 : w59.cell? ⟨gb110, 6, none⟩ = some (.int .i64 a1_6) := (blk_cell BK110.out 6).trans rfl; have hcz61_7 : w59.cell? ⟨gb110, 7, none⟩ = some (.slice A1_7 l1_7.length c1_7) := (blk_cell BK110.out 7).trans rfl; have hcz61_8 : w59.cell? ⟨gb110, 8, none⟩ = some (.int .i64 a1_8) := (blk_cell BK110.out 8).trans rfl; have hcz61_9 : w59.cell? ⟨gb110, 9, none⟩ = some (.int .i64 a1_9) := (blk_cell BK110.out 9).trans rfl; have hcz61_10 : w59.cell? ⟨gb110, 10, none⟩ = some (.int .i64 a1_10) := (blk_cell BK110.out 10).trans rfl; have hcz61_11 : w59.cell? ⟨gb110, 11, none⟩ = some (.int .i64 a1_11) := (blk_cell BK110.out 11).trans rfl; have hfz61_0 := blk_frozen BK110.out 0; have hfz61_1 := blk_frozen BK110.out 1; have hfz61_2 := blk_frozen BK110.out 2; have hfz61_3 := blk_frozen BK110.out 3; have hfz61_4 := blk_frozen BK110.out 4; have hfz61_5 := blk_frozen BK110.out 5; have hfz61_6 := blk_frozen BK110.out 6; have hfz61_7 := blk_frozen BK110.out 7; have hfz61_8 := blk_frozen BK110.out 8; have hfz61_9 := blk_frozen BK110.out 9; have hfz61_10 := blk_frozen BK110.out 10; have hfz61_11 := blk_frozen BK110.out 11))
     repeat (go_quiet (first | (go_at_call 29; (with_reducible refine (lexer_Name.calls a0_0 true _ ?side99  A25.out).mono ?_); (case side99 => first | exact HG.out | exact Glob.below HG.out (by repeat (first | (with_reducible first | exact HB.out | apply below_alloc | apply pw_below_drewN | apply below_drew1 | refine below_set ?_ GE109.out | refine below_set ?_ GE110.out) | exact HB.out))); rintro e w59 ⟨rfl, hb⟩; have n0_ := Aside0.mk (blk_below (g := gb109) (o := .cells #[.string a0_0, .string a0_1, .int .i64 a0_2, .int .i64 a0_3, .int .i64 a0_4, .int .i64 a0_5] 23 (0, 0)) (by (with_reducible repeat (first | refine blk_drewN ?_ _ | refine blk_drew ?_ | refine blk_alloc ?_ _)); exact BK109.out) hb); have n1_ := Aside0.mk (blk_below (g := gb110) (o := .cells #[.string a1_0, .int .i64 a1_1, .int .i64 a1_2, .string a1_3, .int .i64 a1_4, .int .i64 a1_5, .int .i64 a1_6, .slice A1_7 l1_7.length c1_7, .int .i64 a1_8, .int .i64 a1_9, .int .i64 a1_10, .int .i64 a1_11] 51 (0, 0)) (by (with_reducible repeat (first | refine blk_drewN ?_ _ | refine blk_drew ?_ | refine blk_alloc ?_ _)); exact BK110.out) hb); have n2_ := Aside0.mk (below_step (by repeat (first | (with_reducible first | exact HB.out | apply below_alloc | apply pw_below_drewN | apply below_drew1 | refine below_set ?_ GE109.out | refine below_set ?_ GE110.out) | exact HB.out)) hb); clear BK109; clear BK110; clear HB; have BK109 := n0_; have BK110 := n1_; have HB := n2_; clear n0_ n1_ n2_; (try clear hb); (try clear hb2); (try clear hk); (try clear hi); have hcz60_0 : w59.cell? ⟨gb109, 0, none⟩ = some (.string a0_0) := (blk_cell BK109.out 0).trans rfl; have hcz60_1 : w59.cell? ⟨gb109, 1, none⟩ = some (.string a0_1) := (blk_cell BK109.out 1).trans rfl; have hcz60_2 : w59.cell? ⟨gb109, 2, none⟩ = some (.int .i64 a0_2) := (blk_cell BK109.out 2).trans rfl; have hcz60_3 : w59.cell? ⟨gb109, 3, none⟩ = some (.int .i64 a0_3) := (blk_cell BK109.out 3).trans rfl; have hcz60_4 : w59.cell? ⟨gb109, 4, none⟩ = some (.int .i64 a0_4) := (blk_cell BK109.out 4).trans rfl; have hcz60_5 : w59.cell? ⟨gb109, 5, none⟩ = some (.int .i64 a0_5) := (blk_cell BK109.out 5).trans rfl; have hfz60_0 := blk_frozen BK109.out 0; have hfz60_1 := blk_frozen BK109.out 1; have hfz60_2 := blk_frozen BK109.out 2; have hfz60_3 := blk_frozen BK109.out 3; have hfz60_4 := blk_frozen BK109.out 4; have hfz60_5 := blk_frozen BK109.out 5; have hcz61_0 : w59.cell? ⟨gb110, 0, none⟩ = some (.string a1_0) := (blk_cell BK110.out 0).trans rfl; have hcz61_1 : w59.cell? ⟨gb110, 1, none⟩ = some (.int .i64 a1_1) := (blk_cell BK110.out 1).trans rfl; have hcz61_2 : w59.cell? ⟨gb110, 2, none⟩ = some (.int .i64 a1_2) := (blk_cell BK110.out 2).trans rfl; have hcz61_3 : w59.cell? ⟨gb110, 3, none⟩ = some (.string a1_3) := (blk_cell BK110.out 3).trans rfl; have hcz61_4 : w59.cell? ⟨gb110, 4, none⟩ = some (.int .i64 a1_4) := (blk_cell BK110.out 4).trans rfl; have hcz61_5 : w59.cell? ⟨gb110, 5, none⟩ = some (.int .i64 a1_5) := (blk_cell BK110.out 5).trans rfl; have hcz61_6 : w59.cell? ⟨gb110, 6, none⟩ = some (.int .i64 a1_6) := (blk_cell BK110.out 6).trans rfl; have hcz61_7 : w59.cell? ⟨gb110, 7, none⟩ = some (.slice A1_7 l1_7.length c1_7) := (blk_cell BK110.out 7).trans rfl; have hcz61_8 : w59.cell? ⟨gb110, 8, none⟩ = some (.int .i64 a1_8) := (blk_cell BK110.out 8).trans rfl; have hcz61_9 : w59.cell? ⟨gb110, 9, none⟩ = some (.int .i64 a1_9) := (blk_cell BK110.out 9).trans rfl; have hcz61_10 : w59.cell? ⟨gb110, 10, none⟩ = some (.int .i64 a1_10) := (blk_cell BK110.out 10).trans rfl; have hcz61_11 : w59.cell? ⟨gb110, 11, none⟩ = some (.int .i64 a1_11) := (blk_cell BK110.out 11).trans rfl; have hfz61_0 := blk_frozen BK110.out 0; have hfz61_1 := blk_frozen BK110.out 1; have hfz61_2 := blk_frozen BK110.out 2; have hfz61_3 := blk_frozen BK110.out 3; have hfz61_4 := blk_frozen BK110.out 4; have hfz61_5 := blk_frozen BK110.out 5; have hfz61_6 := blk_frozen BK110.out 6; have hfz61_7 := blk_frozen BK110.out 7; have hfz61_8 := blk_frozen BK110.out 8; have hfz61_9 := blk_frozen BK110.out 9; have hfz61_10 := blk_frozen BK110.out 10; have hfz61_11 := blk_frozen BK110.out 11)); try go_wp2_with (first | (go_at_call 29; (with_reducible refine (lexer_Name.calls a0_0 true _ ?side99  A25.out).mono ?_); (case side99 => first | exact HG.out | exact Glob.below HG.out (by repeat (first | (with_reducible first | exact HB.out | apply below_alloc | apply pw_below_drewN | apply below_drew1 | refine below_set ?_ GE109.out | refine below_set ?_ GE110.out) | exact HB.out))); rintro e w59 ⟨rfl, hb⟩; have n0_ := Aside0.mk (blk_below (g := gb109) (o := .cells #[.string a0_0, .string a0_1, .int .i64 a0_2, .int .i64 a0_3, .int .i64 a0_4, .int .i64 a0_5] 23 (0, 0)) (by (with_reducible repeat (first | refine blk_drewN ?_ _ | refine blk_drew ?_ | refine blk_alloc ?_ _)); exact BK109.out) hb); have n1_ := Aside0.mk (blk_below (g := gb110) (o := .cells #[.string a1_0, .int .i64 a1_1, .int .i64 a1_2, .string a1_3, .int .i64 a1_4, .int .i64 a1_5, .int .i64 a1_6, .slice A1_7 l1_7.length c1_7, .int .i64 a1_8, .int .i64 a1_9, .int .i64 a1_10, .int .i64 a1_11] 51 (0, 0)) (by (with_reducible repeat (first | refine blk_drewN ?_ _ | refine blk_drew ?_ | refine blk_alloc ?_ _)); exact BK110.out) hb); have n2_ := Aside0.mk (below_step (by repeat (first | (with_reducible first | exact HB.out | apply below_alloc | apply pw_below_drewN | apply below_drew1 | refine below_set ?_ GE109.out | refine below_set ?_ GE110.out) | exact HB.out)) hb); clear BK109; clear BK110; clear HB; have BK109 := n0_; have BK110 := n1_; have HB := n2_; clear n0_ n1_ n2_; (try clear hb); (try clear hb2); (try clear hk); (try clear hi); have hcz60_0 : w59.cell? ⟨gb109, 0, none⟩ = some (.string a0_0) := (blk_cell BK109.out 0).trans rfl; have hcz60_1 : w59.cell? ⟨gb109, 1, none⟩ = some (.string a0_1) := (blk_cell BK109.out 1).trans rfl; have hcz60_2 : w59.cell? ⟨gb109, 2, none⟩ = some (.int .i64 a0_2) := (blk_cell BK109.out 2).trans rfl; have hcz60_3 : w59.cell? ⟨gb109, 3, none⟩ = some (.int .i64 a0_3) := (blk_cell BK109.out 3).trans rfl; have hcz60_4 : w59.cell? ⟨gb109, 4, none⟩ = some (.int .i64 a0_4) := (blk_cell BK109.out 4).trans rfl; have hcz60_5 : w59.cell? ⟨gb109, 5, none⟩ = some (.int .i64 a0_5) := (blk_cell BK109.out 5).trans rfl; have hfz60_0 := blk_frozen BK109.out 0; have hfz60_1 := blk_frozen BK109.out 1; have hfz60_2 := blk_frozen BK109.out 2; have hfz60_3 := blk_frozen BK109.out 3; have hfz60_4 := blk_frozen BK109.out 4; have hfz60_5 := blk_frozen BK109.out 5; have hcz61_0 : w59.cell? ⟨gb110, 0, none⟩ = some (.string a1_0) := (blk_cell BK110.out 0).trans rfl; have hcz61_1 : w59.cell? ⟨gb110, 1, none⟩ = some (.int .i64 a1_1) := (blk_cell BK110.out 1).trans rfl; have hcz61_2 : w59.cell? ⟨gb110, 2, none⟩ = some (.int .i64 a1_2) := (blk_cell BK110.out 2).trans rfl; have hcz61_3 : w59.cell? ⟨gb110, 3, none⟩ = some (.string a1_3) := (blk_cell BK110.out 3).trans rfl; have hcz61_4 : w59.cell? ⟨gb110, 4, none⟩ = some (.int .i64 a1_4) := (blk_cell BK110.out 4).trans rfl; have hcz61_5 : w59.cell? ⟨gb110, 5, none⟩ = some (.int .i64 a1_5) := (blk_cell BK110.out 5).trans rfl; have hcz61_6 : w59.cell? ⟨gb110, 6, none⟩ = some (.int .i64 a1_6) := (blk_cell BK110.out 6).trans rfl; have hcz61_7 : w59.cell? ⟨gb110, 7, none⟩ = some (.slice A1_7 l1_7.length c1_7) := (blk_cell BK110.out 7).trans rfl; have hcz61_8 : w59.cell? ⟨gb110, 8, none⟩ = some (.int .i64 a1_8) := (blk_cell BK110.out 8).trans rfl; have hcz61_9 : w59.cell? ⟨gb110, 9, none⟩ = some (.int .i64 a1_9) := (blk_cell BK110.out 9).trans rfl; have hcz61_10 : w59.cell? ⟨gb110, 10, none⟩ = some (.int .i64 a1_10) := (blk_cell BK110.out 10).trans rfl; have hcz61_11 : w59.cell? ⟨gb110, 11, none⟩ = some (.int .i64 a1_11) := (blk_cell BK110.out 11).trans rfl; have hfz61_0 := blk_frozen BK110.out 0; have hfz61_1 := blk_frozen BK110.out 1; have hfz61_2 := blk_frozen BK110.out 2; have hfz61_3 := blk_frozen BK110.out 3; have hfz61_4 := blk_frozen BK110.out 4; have hfz61_5 := blk_frozen BK110.out 5; have hfz61_6 := blk_frozen BK110.out 6; have hfz61_7 := blk_frozen BK110.out 7; have hfz61_8 := blk_frozen BK110.out 8; have hfz61_9 := blk_frozen BK110.out 9; have hfz61_10 := blk_frozen BK110.out 10; have hfz61_11 := blk_frozen BK110.out 11)))
     go_ret
     exact ⟨by first | rfl | (simp [errW_none, errW_some] <;> rfl) | (simp [*, errW_none, errW_some] <;> rfl), by repeat (first | (with_reducible first | exact HB.out | apply below_alloc | apply pw_below_drewN | apply below_drew1 | refine below_set ?_ GE109.out | refine below_set ?_ GE110.out) | exact HB.out)⟩
   ·replace c26 := Bool.eq_false_iff.mpr c26
    subst c26
    have H1 : (some 4) = some r := by rw [if_neg (show ¬ (false = true) by decide)] at H; exact H
    clear H
    have H := H1
    clear H1
    obtain rfl := Option.some.inj H
    have hnb62 := NB109_110.out
    have hnc62 := NB110_109.out
    have hcz63_0 : wc.cell? ⟨gb109, 0, none⟩ = some (.string a0_0) := (blk_cell BK109.out 0).trans rfl
    have hcz63_1 : wc.cell? ⟨gb109, 1, none⟩ = some (.string a0_1) := (blk_cell BK109.out 1).trans rfl
    have hcz63_2 : wc.cell? ⟨gb109, 2, none⟩ = some (.int .i64 a0_2) := (blk_cell BK109.out 2).trans rfl
    have hcz63_3 : wc.cell? ⟨gb109, 3, none⟩ = some (.int .i64 a0_3) := (blk_cell BK109.out 3).trans rfl
    have hcz63_4 : wc.cell? ⟨gb109, 4, none⟩ = some (.int .i64 a0_4) := (blk_cell BK109.out 4).trans rfl
    have hcz63_5 : wc.cell? ⟨gb109, 5, none⟩ = some (.int .i64 a0_5) := (blk_cell BK109.out 5).trans rfl
    have hfz63_0 := blk_frozen BK109.out 0
    have hfz63_1 := blk_frozen BK109.out 1
    have hfz63_2 := blk_frozen BK109.out 2
    have hfz63_3 := blk_frozen BK109.out 3
    have hfz63_4 := blk_frozen BK109.out 4
    have hfz63_5 := blk_frozen BK109.out 5
    go_wp2_with (first | (go_at_call 29; (with_reducible refine (lexer_Name.calls a0_0 false _ ?side99  A25.out).mono ?_); (case side99 => first | exact HG.out | exact Glob.below HG.out (by repeat (first | (with_reducible first | exact HB.out | apply below_alloc | apply pw_below_drewN | apply below_drew1 | refine below_set ?_ GE109.out | refine below_set ?_ GE110.out) | exact HB.out))); rintro e w64 ⟨rfl, hb⟩; have n0_ := Aside0.mk (blk_below (g := gb109) (o := .cells #[.string a0_0, .string a0_1, .int .i64 a0_2, .int .i64 a0_3, .int .i64 a0_4, .int .i64 a0_5] 23 (0, 0)) (by (with_reducible repeat (first | refine blk_drewN ?_ _ | refine blk_drew ?_ | refine blk_alloc ?_ _)); exact BK109.out) hb); have n1_ := Aside0.mk (blk_below (g := gb110) (o := .cells #[.string a1_0, .int .i64 a1_1, .int .i64 a1_2, .string a1_3, .int .i64 a1_4, .int .i64 a1_5, .int .i64 a1_6, .slice A1_7 l1_7.length c1_7, .int .i64 a1_8, .int .i64 a1_9, .int .i64 a1_10, .int .i64 a1_11] 51 (0, 0)) (by (with_reducible repeat (first | refine blk_drewN ?_ _ | refine blk_drew ?_ | refine blk_alloc ?_ _)); exact BK110.out) hb); have n2_ := Aside0.mk (below_step (by repeat (first | (with_reducible first | exact HB.out | apply below_alloc | apply pw_below_drewN | apply below_drew1 | refine below_set ?_ GE109.out | refine below_set ?_ GE110.out) | exact HB.out)) hb); clear BK109; clear BK110; clear HB; have BK109 := n0_; have BK110 := n1_; have HB := n2_; clear n0_ n1_ n2_; (try clear hb); (try clear hb2); (try clear hk); (try clear hi)))
    repeat (go_quiet (first | (go_at_call 29; (with_reducible refine (lexer_Name.calls a0_0 false _ ?side99  A25.out).mono ?_); (case side99 => first | exact HG.out | exact Glob.below HG.out (by repeat (first | (with_reducible first | exact HB.out | apply below_alloc | apply pw_below_drewN | apply below_drew1 | refine below_set ?_ GE109.out | refine below_set ?_ GE110.out) | exact HB.out))); rintro e w64 ⟨rfl, hb⟩; have n0_ := Aside0.mk (blk_below (g := gb109) (o := .cells #[.string a0_0, .string a0_1, .int .i64 a0_2, .int .i64 a0_3, .int .i64 a0_4, .int .i64 a0_5] 23 (0, 0)) (by (with_reducible repeat (first | refine blk_drewN ?_ _ | refine blk_drew ?_ | refine blk_alloc ?_ _)); exact BK109.out) hb); have n1_ := Aside0.mk (blk_below (g := gb110) (o := .cells #[.string a1_0, .int .i64 a1_1, .int .i64 a1_2, .string a1_3, .int .i64 a1_4, .int .i64 a1_5, .int .i64 a1_6, .slice A1_7 l1_7.length c1_7, .int .i64 a1_8, .int .i64 a1_9, .int .i64 a1_10, .int .i64 a1_11] 51 (0, 0)) (by (with_reducible repeat (first | refine blk_drewN ?_ _ | refine blk_drew ?_ | refine blk_alloc ?_ _)); exact BK110.out) hb); have n2_ := Aside0.mk (below_step (by repeat (first | (with_reducible first | exact HB.out | apply below_alloc | apply pw_below_drewN | apply below_drew1 | refine below_set ?_ GE109.out | refine below_set ?_ GE110.out) | exact HB.out)) hb); clear BK109; clear BK110; clear HB; have BK109 := n0_; have BK110 := n1_; have HB := n2_; clear n0_ n1_ n2_; (try clear hb); (try clear hb2); (try clear hk); (try clear hi))); try go_wp2_with (first | (go_at_call 29; (with_reducible refine (lexer_Name.calls a0_0 false _ ?side99  A25.out).mono ?_); (case side99 => first | exact HG.out | exact Glob.below HG.out (by repeat (first | (with_reducible first | exact HB.out | apply below_alloc | apply pw_below_drewN | apply below_drew1 | refine below_set ?_ GE109.out | refine below_set ?_ GE110.out) | exact HB.out))); rintro e w64 ⟨rfl, hb⟩; have n0_ := Aside0.mk (blk_below (g := gb109) (o := .cells #[.string a0_0, .string a0_1, .int .i64 a0_2, .int .i64 a0_3, .int .i64 a0_4, .int .i64 a0_5] 23 (0, 0)) (by (with_reducible repeat (first | refine blk_drewN ?_ _ | refine blk_drew ?_ | refine blk_alloc ?_ _)); exact BK109.out) hb); have n1_ := Aside0.mk (blk_below (g := gb110) (o := .cells #[.string a1_0, .int .i64 a1_1, .int .i64 a1_2, .string a1_3, .int .i64 a1_4, .int .i64 a1_5, .int .i64 a1_6, .slice A1_7 l1_7.length c1_7, .int .i64 a1_8, .int .i64 a1_9, .int .i64 a1_10, .int .i64 a1_11] 51 (0, 0)) (by (with_reducible repeat (first | refine blk_drewN ?_ _ | refine blk_drew ?_ | refine blk_alloc ?_ _)); exact BK110.out) hb); have n2_ := Aside0.mk (below_step (by repeat (first | (with_reducible first | exact HB.out | apply below_alloc | apply pw_below_drewN | apply below_drew1 | refine below_set ?_ GE109.out | refine below_set ?_ GE110.out) | exact HB.out)) hb); clear BK109; clear BK110; clear HB; have BK109 := n0_; have BK110 := n1_; have HB := n2_; clear n0_ n1_ n2_; (try clear hb); (try clear hb2); (try clear hk); (try clear hi))))
    go_ret
    exact ⟨by first | rfl | (simp [errW_none, errW_some] <;> rfl) | (simp [*, errW_none, errW_some] <;> rfl), by repeat (first | (with_reducible first | exact HB.out | apply below_alloc | apply pw_below_drewN | apply below_drew1 | refine below_set ?_ GE109.out | refine below_set ?_ GE110.out) | exact HB.out)⟩
end Go.Proofs.YtbccjcdmpiolpaaDoor.T
end
section
namespace Go.Proofs.YtbccjcdmpiolpaaDoor.T
open Go.RowKit Go.Proofs.YtbccjcdmpiolpaaDoorW.PrintWords Go.Proofs.YtbccjcdmpiolpaaDoorW.PrintLast Go.Proofs.YtbccjcdmpiolpaaDoorW.PrintMore
attribute [local go_sem] max2_int min2_int max_two min_two max_three min_three max_four min_four
set_option linter.unusedVariables false
set_option linter.unusedSimpArgs false
def plenumlaw41_reading.f (a0 : Int) (a1 : Int) : Option (Int × Int × Int × Int) := some (1, a1, 0, a0)
set_option maxHeartbeats 8000000 in
set_option maxRecDepth 100000 in
theorem plenumlaw41_reading.calls (a0 : Int) (a1 : Int) (r1 : Int) (r2 : Int) (r3 : Int) (r4 : Int) (w : World) (hG : Glob w) (h : plenumlaw41_reading.f a0 a1 = some (r1, r2, r3, r4)) :
  Calls Tryd.prog 23 #[.int .i64 a0, .int .i64 a1] w fun e w' => e = .returned (.agg #[.int .i64 r1, .int .i64 r2, .int .i64 r3, .int .i64 r4]) ∧ Below w.heap.size w w' := by
 have hu32 := Tryd.underlying32
 have hu30 := Tryd.underlying30
 have HG := Aside0.mk hG
 clear hG
 have HB := Aside0.mk (Below.refl w.heap.size w)
 have H : (some (1, a1, 0, a0)) = some (r1, r2, r3, r4) := h
 clear h
 simp only [Option.some.injEq, Prod.mk.injEq] at H
 obtain ⟨rfl, rfl, rfl, rfl⟩ := H
 go_enter Tryd.func23, Tryd.ntmps23
 go_wp2_with (first | ((with_reducible refine gate_dst (N := 4) rfl ?_); refine box_event ?hg (N := 4) ?hd (cs := #[.int .i64 0, .int .i64 0, .int .i64 0, .int .i64 0]) (t := 32) ?hr ?_; (case hd => rfl); (case hg => rfl); (case hr => first | (go_simp; done) | (go_simp; rfl)); intro gb162 hg w3 hbox hb; have n0_ := Aside0.mk (below_step (by repeat (first | (with_reducible first | exact HB.out | apply below_alloc | apply pw_below_drewN | apply below_drew1) | exact HB.out)) hb); have n1_ := Aside0.mk (hbox); have n2_ := Aside0.mk ((by rw [hg]; exact (below_size (by repeat (first | (with_reducible first | exact HB.out | apply below_alloc | apply pw_below_drewN | apply below_drew1) | exact HB.out))) : w.heap.size ≤ gb162)); have n3_ := Aside0.mk ((by rw [hg]; exact (below_size (by repeat (first | (with_reducible first | exact HB.out | apply below_alloc | apply pw_below_drewN | apply below_drew1) | exact HB.out))) : w.heap.size ≤ gb162)); clear HB; have HB := n0_; have BK162 := n1_; have GW162 := n2_; have GE162 := n3_; clear n0_ n1_ n2_ n3_; clear hb hbox hg; have hcz4_0 : w3.cell? ⟨gb162, 0, none⟩ = some (.int .i64 0) := (blk_cell BK162.out 0).trans rfl; have hcz4_1 : w3.cell? ⟨gb162, 1, none⟩ = some (.int .i64 0) := (blk_cell BK162.out 1).trans rfl; have hcz4_2 : w3.cell? ⟨gb162, 2, none⟩ = some (.int .i64 0) := (blk_cell BK162.out 2).trans rfl; have hcz4_3 : w3.cell? ⟨gb162, 3, none⟩ = some (.int .i64 0) := (blk_cell BK162.out 3).trans rfl; have hfz4_0 := blk_frozen BK162.out 0; have hfz4_1 := blk_frozen BK162.out 1; have hfz4_2 := blk_frozen BK162.out 2; have hfz4_3 := blk_frozen BK162.out 3))
 refine bodyPost_ret (results_cell_row rfl _ _ gb162 32 #[.int .i64 1, .int .i64 a1, .int .i64 0, .int .i64 a0] (0, 0) _ rfl (by (with_reducible repeat (first | refine blk_drewN ?_ _ | refine blk_drew ?_ | refine blk_alloc ?_ _)); refine blk_put (cs := #[.int .i64 1, .int .i64 a1, .int .i64 0, .int .i64 0]) ?_ 3 _ rfl; (with_reducible repeat (first | refine blk_drewN ?_ _ | refine blk_drew ?_ | refine blk_alloc ?_ _)); refine blk_put (cs := #[.int .i64 1, .int .i64 a1, .int .i64 0, .int .i64 0]) ?_ 2 _ rfl; (with_reducible repeat (first | refine blk_drewN ?_ _ | refine blk_drew ?_ | refine blk_alloc ?_ _)); refine blk_put (cs := #[.int .i64 1, .int .i64 0, .int .i64 0, .int .i64 0]) ?_ 1 _ rfl; (with_reducible repeat (first | refine blk_drewN ?_ _ | refine blk_drew ?_ | refine blk_alloc ?_ _)); refine blk_put (cs := #[.int .i64 0, .int .i64 0, .int .i64 0, .int .i64 0]) ?_ 0 _ rfl; (with_reducible repeat (first | refine blk_drewN ?_ _ | refine blk_drew ?_ | refine blk_alloc ?_ _)); exact BK162.out) Tryd.underlying32 rfl (by kernel_rfl)) rfl ?_
 exact ⟨by first | rfl | (simp [errW_none, errW_some] <;> rfl) | (simp [*, errW_none, errW_some] <;> rfl), by repeat (first | (with_reducible first | exact HB.out | apply below_alloc | apply pw_below_drewN | apply below_drew1 | refine below_set ?_ GE162.out) | exact HB.out)⟩
end Go.Proofs.YtbccjcdmpiolpaaDoor.T
end
section
namespace Go.Proofs.YtbccjcdmpiolpaaDoor.T
open Go.RowKit Go.Proofs.YtbccjcdmpiolpaaDoor.Pure Go.Proofs.YtbccjcdmpiolpaaDoorW.PrintWords Go.Proofs.YtbccjcdmpiolpaaDoorW.PrintLast Go.Proofs.YtbccjcdmpiolpaaDoorW.PrintMore
set_option linter.unusedVariables false
set_option linter.unusedSimpArgs false
attribute [local go_sem] max2_int min2_int max_two min_two
set_option maxHeartbeats 16000000 in
set_option maxRecDepth 100000 in
theorem trigE_calls (B g : Nat) (L : Lg) (at_ : Int) (w : World) (h : LogAt B g L w) (h1 : L.now ≤ at_) (h2 : L.way ≠ 3) :
  Calls Tryd.prog 24 #[.pointer (some ⟨g, 0, none⟩), .int .i64 at_] w fun e w' => e = .returned (.int .i64 8) ∧ w' = w := by
 obtain ⟨v0, ring, f, hG, hge, _⟩ := h
 have c6 := (blk_cell hG 6).trans rfl
 have c2 := (blk_cell hG 2).trans rfl
 have hb : decide (at_ < L.now) = false := decide_eq_false (by omega)
 have hb2 : (L.way != 3) = true := bne_iff_ne.mpr h2
 clear hG hge h1 h2
 go_enter Tryd.func24, Tryd.ntmps24
 go_wp2
 go_ret
 exact ⟨rfl, rfl⟩
abbrev sLog : ByteArray := ⟨#[108, 111, 103]⟩
abbrev sTemp : ByteArray := ⟨#[116, 101, 109, 112]⟩
def aL0 : Lg := ⟨sLog, sTemp, 1, 60, 0, 2, 100, false, 0, 0, 0, 0, 0, []⟩
def aL1 : Lg := ⟨sLog, sTemp, 1, 60, 0, 2, 110, true, 1, 20000, 0, 110, 0, []⟩
def aR1 : S44 := ⟨1, 120, ⟨1, 20000⟩, 0, 0⟩
def aR2 : S44 := ⟨2, 180, ⟨1, 20000⟩, 0, 0⟩
def aR3 : S44 := ⟨3, 240, ⟨1, 22000⟩, 0, 0⟩
def aL2 : Lg := ⟨sLog, sTemp, 1, 60, 0, 2, 200, true, 1, 21000, 0, 200, 2, [aR1, aR2]⟩
def aL3 : Lg := ⟨sLog, sTemp, 1, 60, 0, 2, 240, true, 1, 22000, 0, 240, 3, [aR2, aR3]⟩
def aK : Lg := ⟨sLog, sTemp, 1, 60, 0, 2, 240, false, 0, 0, 0, 0, 3, [aR2, aR3]⟩
def aK2 : Lg := ⟨sLog, sTemp, 1, 60, 0, 2, 500, false, 0, 0, 0, 0, 3, [aR2, aR3]⟩
theorem ob1 (d : Bool) : aL0.obs 1 20000 0 110 d = (aL1, 0, 0) := by cases d <;> kernel_rfl
theorem ob2 (d : Bool) : aL1.obs 1 21000 0 200 d = (aL2, 2, 0) := by cases d <;> kernel_rfl
theorem ob3 (d : Bool) : aL2.obs 1 22000 0 240 d = (aL3, 1, 0) := by cases d <;> kernel_rfl
theorem af1 : aL3.after 0 10 = ([⟨1, 0, ⟨0, 0⟩, 0, 1⟩, aR2, aR3], 0) := by kernel_rfl
theorem tk1 : aK.tick 500 = (aK2, 0, 0) := by kernel_rfl
theorem rs1 : restS (strOfNums (saveB 3 240 [aR2, aR3])) 2 = some (3, 240, [aR2, aR3]) := by kernel_rfl
theorem ck1 : trend_Check.f 10 sLog sTemp 1 60 0 2 sTemp 1 0 ⟨#[]⟩ 0 0 0 [] 0 0 0 0 = some 0 := by kernel_rfl
theorem ck2 : trend_Check.f 10 sLog sTemp 1 60 0 2 ⟨#[]⟩ 0 0 ⟨#[]⟩ 0 0 0 [] 0 0 0 0 = some 3 := by kernel_rfl
theorem sm1 : plenumref41_Same.f 10 [aR2, aR3] [aR2, aR3] = some true := by kernel_rfl
end Go.Proofs.YtbccjcdmpiolpaaDoor.T
end
section
namespace Go.Proofs.YtbccjcdmpiolpaaDoor.T
open Go.RowKit Go.Proofs.YtbccjcdmpiolpaaDoor.Pure Go.Proofs.YtbccjcdmpiolpaaDoorW.PrintWords Go.Proofs.YtbccjcdmpiolpaaDoorW.PrintLast Go.Proofs.YtbccjcdmpiolpaaDoorW.PrintMore
set_option linter.unusedVariables false
set_option linter.unusedSimpArgs false
attribute [local go_sem] max2_int min2_int max_two min_two
theorem ckA (w : World) (hG : Glob w) : Calls Tryd.prog 17 #[.agg #[.string sLog, .string sTemp, .int .i64 1, .int .i64 60, .int .i64 0, .int .i64 2], .agg #[.string sTemp, .int .i64 1, .int .i64 0, .string ⟨#[]⟩, .int .i64 0, .int .i64 0, .int .i64 0, .slice none 0 0, .int .i64 0, .int .i64 0, .int .i64 0, .int .i64 0]] w fun e w' => e = .returned (.int .i64 0) ∧ Below w.heap.size w w' :=
 trend_Check.calls 10 sLog sTemp 1 60 0 2 sTemp 1 0 ⟨#[]⟩ 0 0 0 none 0 [] 0 0 0 0 0 w hG (Kd.C_nil _ _) (Nat.le_refl _) ck1
theorem ckB (w : World) (hG : Glob w) : Calls Tryd.prog 17 #[.agg #[.string sLog, .string sTemp, .int .i64 1, .int .i64 60, .int .i64 0, .int .i64 2], .agg #[.string ⟨#[]⟩, .int .i64 0, .int .i64 0, .string ⟨#[]⟩, .int .i64 0, .int .i64 0, .int .i64 0, .slice none 0 0, .int .i64 0, .int .i64 0, .int .i64 0, .int .i64 0]] w fun e w' => e = .returned (.int .i64 3) ∧ Below w.heap.size w w' :=
 trend_Check.calls 10 sLog sTemp 1 60 0 2 ⟨#[]⟩ 0 0 ⟨#[]⟩ 0 0 0 none 0 [] 0 0 0 0 3 w hG (Kd.C_nil _ _) (Nat.le_refl _) ck2
theorem smA (A B : Option Addr) (c d : Nat) (w : World) (hG : Glob w) (h1 : Kd.C k44 w A 2 [aR2, aR3]) (h2 : 2 ≤ c) (h3 : Kd.C k44 w B 2 [aR2, aR3]) (h4 : 2 ≤ d) : Calls Tryd.prog 21 #[.slice A 2 c, .slice B 2 d] w fun e w' => e = .returned (.bool true) ∧ Drawn0 w w' :=
 plenumref41_Same.calls 10 A c [aR2, aR3] B d [aR2, aR3] true w hG h1 h2 h3 h4 sm1
theorem elemA {w : World} {A : Option Addr} (h : Kd.C k44 w A 3 [⟨1, 0, ⟨0, 0⟩, 0, 1⟩, aR2, aR3]) : (∃ ad, A = some ad) ∧ ∀ ad : Addr, A = some ad → w.cell? ad = some (.int .i64 1) ∧ w.cell? ⟨ad.block, ad.off + 1, none⟩ = some (.int .i64 0) ∧ w.cell? ⟨ad.block, ad.off + 2, none⟩ = some (.int .i64 0) ∧ w.cell? ⟨ad.block, ad.off + 3, none⟩ = some (.int .i64 0) ∧ w.cell? ⟨ad.block, ad.off + 4, none⟩ = some (.int .i64 0) ∧ w.cell? ⟨ad.block, ad.off + 5, none⟩ = some (.int .i64 1) ∧ w.cell? ⟨ad.block, ad.off + 6 + 1, none⟩ = some (.int .i64 180) := by
 obtain ⟨ad, ea, z0, z1, z2, z3, z4, z5⟩ := at_T44 h 0 (by decide) (by decide)
 obtain ⟨ad2, eb, y0, y1, y2, y3, y4, y5⟩ := at_T44 h 1 (by decide) (by decide)
 refine ⟨⟨ad, ea⟩, fun a e => ?_⟩
 rw [e] at ea eb
 injection ea with ea
 injection eb with eb
 subst ea eb
 exact ⟨z0, z1, z2, z3, z4, z5, y1⟩
theorem okaL0 : OkL aL0 := ⟨by decide, by decide, by decide, by decide, by decide, by decide, by decide, fun _ => by decide⟩
theorem okaL1 : OkL aL1 := ⟨by decide, by decide, by decide, by decide, by decide, by decide, by decide, fun _ => by decide⟩
theorem okaL2 : OkL aL2 := ⟨by decide, by decide, by decide, by decide, by decide, by decide, by decide, fun _ => by decide⟩
theorem okaK : OkL aK := ⟨by decide, by decide, by decide, by decide, by decide, by decide, by decide, fun _ => by decide⟩
theorem okR : ∀ x ∈ aL3.recs, Ok44 x := by
 intro x hx
 rcases List.mem_cons.1 hx with rfl | hx
 ·exact ⟨by decide, by decide⟩
 rcases List.mem_cons.1 hx with rfl | hx
 ·exact ⟨by decide, by decide⟩
 ·cases hx
set_option maxHeartbeats 16000000 in
set_option maxRecDepth 100000 in
theorem awake_calls (w : World) (hG : Glob w) : Calls Tryd.prog 8 #[] w fun e w' => e = .returned (.bool true) ∧ Below w.heap.size w w' := by
 have H0 := Aside0.mk (show 0 < w.heap.size by obtain ⟨t, h⟩ := hG; exact blk_lt h)
 have HG := Aside0.mk hG
 have hu44 := Tryd.underlying44
 have hu30 := Tryd.underlying30
 clear hG
 go_enter Tryd.func8, Tryd.ntmps8
 go_wp2_with (first | ((with_reducible refine gate_dst (N := 1) rfl ?_); refine box_event ?hg (N := 1) ?hd (cs := #[.string ⟨#[]⟩, .string ⟨#[]⟩, .int .i64 0, .int .i64 0, .int .i64 0, .int .i64 0]) (t := 23) ?hr ?_; (case hd => rfl); (case hg => rfl); (case hr => first | (go_simp; done) | (go_simp; rfl)); intro gr hgz w1 hbox hb; have HR1 := Aside0.mk hbox; have HB1 := Aside0.mk hb; have HGR := Aside0.mk (show w.heap.size ≤ gr by rw [hgz]; exact Nat.le_refl _); clear hb hbox hgz) | (refine wpList_store_row rfl 23 (.tmp 1) (.tmp 15) rfl gr #[.string sLog, .string sTemp, .int .i64 1, .int .i64 60, .int .i64 0, .int .i64 2] rfl rfl 23 #[.string ⟨#[]⟩, .string ⟨#[]⟩, .int .i64 0, .int .i64 0, .int .i64 0, .int .i64 0] HR1.out (by kernel_rfl) rfl (by simp [Value.oneCell']) ?_; have HR2 := Aside0.mk (setRow_heap _ _ _ #[.string sLog, .string sTemp, .int .i64 1, .int .i64 60, .int .i64 0, .int .i64 2] _ _ HR1.out); have HB2 := Aside0.mk (below_setRow HB1.out HGR.out #[.string sLog, .string sTemp, .int .i64 1, .int .i64 60, .int .i64 0, .int .i64 2]); generalize w1.setRow gr #[.string sLog, .string sTemp, .int .i64 1, .int .i64 60, .int .i64 0, .int .i64 2] = w2 at HR2 HB2 ⊢; have x0 : w2.cell? ⟨gr, 0, none⟩ = some (.string sLog) := (blk_cell HR2.out 0).trans rfl; have x1 : w2.cell? ⟨gr, 1, none⟩ = some (.string sTemp) := (blk_cell HR2.out 1).trans rfl; have x2 : w2.cell? ⟨gr, 2, none⟩ = some (.int .i64 1) := (blk_cell HR2.out 2).trans rfl; have x3 : w2.cell? ⟨gr, 3, none⟩ = some (.int .i64 60) := (blk_cell HR2.out 3).trans rfl; have x4 : w2.cell? ⟨gr, 4, none⟩ = some (.int .i64 0) := (blk_cell HR2.out 4).trans rfl; have x5 : w2.cell? ⟨gr, 5, none⟩ = some (.int .i64 2) := (blk_cell HR2.out 5).trans rfl;  skip) | (go_at_call 10; (with_reducible refine (new_calls sLog sTemp 1 60 0 2 100 w2).mono ?_); rintro e w3 ⟨g, rfl, hi, hb⟩; have HI3 := Aside0.mk (show LogAt w.heap.size g aL0 w3 from hi.lower HB2.out.size); have HB3 := Aside0.mk (below_step HB2.out hb); have HR3 := Aside0.mk (blk_below HR2.out hb); clear x0 x1 x2 x3 x4 x5; have x0 : w3.cell? ⟨gr, 0, none⟩ = some (.string sLog) := (blk_cell HR3.out 0).trans rfl; have x1 : w3.cell? ⟨gr, 1, none⟩ = some (.string sTemp) := (blk_cell HR3.out 1).trans rfl; have x2 : w3.cell? ⟨gr, 2, none⟩ = some (.int .i64 1) := (blk_cell HR3.out 2).trans rfl; have x3 : w3.cell? ⟨gr, 3, none⟩ = some (.int .i64 60) := (blk_cell HR3.out 3).trans rfl; have x4 : w3.cell? ⟨gr, 4, none⟩ = some (.int .i64 0) := (blk_cell HR3.out 4).trans rfl; have x5 : w3.cell? ⟨gr, 5, none⟩ = some (.int .i64 2) := (blk_cell HR3.out 5).trans rfl;  clear hi hb))
 have HNE := Aside0.mk (show gr ≠ g by obtain ⟨v, r, f, h, _⟩ := HI3.out; exact blk_ne HR3.out h (by decide))
 go_wp2_with (first | (go_at_call 17; (with_reducible refine (ckA w3 (Glob.below HG.out HB3.out)).mono ?_); rintro e w4 ⟨rfl, hb⟩; have HI4 := Aside0.mk (HI3.out.below hb); have HB4 := Aside0.mk (below_step HB3.out hb); have HR4 := Aside0.mk (blk_below HR3.out hb); clear x0 x1 x2 x3 x4 x5; have x0 : w4.cell? ⟨gr, 0, none⟩ = some (.string sLog) := (blk_cell HR4.out 0).trans rfl; have x1 : w4.cell? ⟨gr, 1, none⟩ = some (.string sTemp) := (blk_cell HR4.out 1).trans rfl; have x2 : w4.cell? ⟨gr, 2, none⟩ = some (.int .i64 1) := (blk_cell HR4.out 2).trans rfl; have x3 : w4.cell? ⟨gr, 3, none⟩ = some (.int .i64 60) := (blk_cell HR4.out 3).trans rfl; have x4 : w4.cell? ⟨gr, 4, none⟩ = some (.int .i64 0) := (blk_cell HR4.out 4).trans rfl; have x5 : w4.cell? ⟨gr, 5, none⟩ = some (.int .i64 2) := (blk_cell HR4.out 5).trans rfl;  clear hb) | (go_at_call 17; (with_reducible refine (ckB w4 (Glob.below HG.out HB4.out)).mono ?_); rintro e w5 ⟨rfl, hb⟩; have HI5 := Aside0.mk (HI4.out.below hb); have HB5 := Aside0.mk (below_step HB4.out hb); have HR5 := Aside0.mk (blk_below HR4.out hb); clear x0 x1 x2 x3 x4 x5; have x0 : w5.cell? ⟨gr, 0, none⟩ = some (.string sLog) := (blk_cell HR5.out 0).trans rfl; have x1 : w5.cell? ⟨gr, 1, none⟩ = some (.string sTemp) := (blk_cell HR5.out 1).trans rfl; have x2 : w5.cell? ⟨gr, 2, none⟩ = some (.int .i64 1) := (blk_cell HR5.out 2).trans rfl; have x3 : w5.cell? ⟨gr, 3, none⟩ = some (.int .i64 60) := (blk_cell HR5.out 3).trans rfl; have x4 : w5.cell? ⟨gr, 4, none⟩ = some (.int .i64 0) := (blk_cell HR5.out 4).trans rfl; have x5 : w5.cell? ⟨gr, 5, none⟩ = some (.int .i64 2) := (blk_cell HR5.out 5).trans rfl;  clear hb) | (go_at_call 23; (with_reducible refine (plenumlaw41_reading.calls 110 20000 1 20000 0 110 w5 (Glob.below HG.out HB5.out) rfl).mono ?_); rintro e w6 ⟨rfl, hb⟩; have HI6 := Aside0.mk (HI5.out.below hb); have HB6 := Aside0.mk (below_step HB5.out hb); have HR6 := Aside0.mk (blk_below HR5.out hb); clear x0 x1 x2 x3 x4 x5; have x0 : w6.cell? ⟨gr, 0, none⟩ = some (.string sLog) := (blk_cell HR6.out 0).trans rfl; have x1 : w6.cell? ⟨gr, 1, none⟩ = some (.string sTemp) := (blk_cell HR6.out 1).trans rfl; have x2 : w6.cell? ⟨gr, 2, none⟩ = some (.int .i64 1) := (blk_cell HR6.out 2).trans rfl; have x3 : w6.cell? ⟨gr, 3, none⟩ = some (.int .i64 60) := (blk_cell HR6.out 3).trans rfl; have x4 : w6.cell? ⟨gr, 4, none⟩ = some (.int .i64 0) := (blk_cell HR6.out 4).trans rfl; have x5 : w6.cell? ⟨gr, 5, none⟩ = some (.int .i64 2) := (blk_cell HR6.out 5).trans rfl;  clear hb) | (go_at_call 15; (with_reducible refine (obs_calls w.heap.size g aL0 1 20000 0 110 w6 HI6.out HB6.out.size okaL0 (by decide)).mono ?_); rintro e w7 ⟨d, he, hi, hb, hk⟩; rw [ob1 d] at he hi; replace he : e = .returned (.tuple #[.int .i64 0, .int .i64 0]) := he; subst he; have HR7 := Aside0.mk (hk.keep _ _ _ HR6.out (by decide) HNE.out); have HI7 := Aside0.mk (show LogAt w.heap.size g aL1 w7 from hi); have HB7 := Aside0.mk (HB6.out.trans hb); clear x0 x1 x2 x3 x4 x5; have x0 : w7.cell? ⟨gr, 0, none⟩ = some (.string sLog) := (blk_cell HR7.out 0).trans rfl; have x1 : w7.cell? ⟨gr, 1, none⟩ = some (.string sTemp) := (blk_cell HR7.out 1).trans rfl; have x2 : w7.cell? ⟨gr, 2, none⟩ = some (.int .i64 1) := (blk_cell HR7.out 2).trans rfl; have x3 : w7.cell? ⟨gr, 3, none⟩ = some (.int .i64 60) := (blk_cell HR7.out 3).trans rfl; have x4 : w7.cell? ⟨gr, 4, none⟩ = some (.int .i64 0) := (blk_cell HR7.out 4).trans rfl; have x5 : w7.cell? ⟨gr, 5, none⟩ = some (.int .i64 2) := (blk_cell HR7.out 5).trans rfl;  clear hi hb hk) | (go_at_call 23; (with_reducible refine (plenumlaw41_reading.calls 200 21000 1 21000 0 200 w7 (Glob.below HG.out HB7.out) rfl).mono ?_); rintro e w8 ⟨rfl, hb⟩; have HI8 := Aside0.mk (HI7.out.below hb); have HB8 := Aside0.mk (below_step HB7.out hb); have HR8 := Aside0.mk (blk_below HR7.out hb); clear x0 x1 x2 x3 x4 x5; have x0 : w8.cell? ⟨gr, 0, none⟩ = some (.string sLog) := (blk_cell HR8.out 0).trans rfl; have x1 : w8.cell? ⟨gr, 1, none⟩ = some (.string sTemp) := (blk_cell HR8.out 1).trans rfl; have x2 : w8.cell? ⟨gr, 2, none⟩ = some (.int .i64 1) := (blk_cell HR8.out 2).trans rfl; have x3 : w8.cell? ⟨gr, 3, none⟩ = some (.int .i64 60) := (blk_cell HR8.out 3).trans rfl; have x4 : w8.cell? ⟨gr, 4, none⟩ = some (.int .i64 0) := (blk_cell HR8.out 4).trans rfl; have x5 : w8.cell? ⟨gr, 5, none⟩ = some (.int .i64 2) := (blk_cell HR8.out 5).trans rfl;  clear hb) | (go_at_call 15; (with_reducible refine (obs_calls w.heap.size g aL1 1 21000 0 200 w8 HI8.out HB8.out.size okaL1 (by decide)).mono ?_); rintro e w9 ⟨d, he, hi, hb, hk⟩; rw [ob2 d] at he hi; replace he : e = .returned (.tuple #[.int .i64 2, .int .i64 0]) := he; subst he; have HR9 := Aside0.mk (hk.keep _ _ _ HR8.out (by decide) HNE.out); have HI9 := Aside0.mk (show LogAt w.heap.size g aL2 w9 from hi); have HB9 := Aside0.mk (HB8.out.trans hb); clear x0 x1 x2 x3 x4 x5; have x0 : w9.cell? ⟨gr, 0, none⟩ = some (.string sLog) := (blk_cell HR9.out 0).trans rfl; have x1 : w9.cell? ⟨gr, 1, none⟩ = some (.string sTemp) := (blk_cell HR9.out 1).trans rfl; have x2 : w9.cell? ⟨gr, 2, none⟩ = some (.int .i64 1) := (blk_cell HR9.out 2).trans rfl; have x3 : w9.cell? ⟨gr, 3, none⟩ = some (.int .i64 60) := (blk_cell HR9.out 3).trans rfl; have x4 : w9.cell? ⟨gr, 4, none⟩ = some (.int .i64 0) := (blk_cell HR9.out 4).trans rfl; have x5 : w9.cell? ⟨gr, 5, none⟩ = some (.int .i64 2) := (blk_cell HR9.out 5).trans rfl;  clear hi hb hk) | (go_at_call 23; (with_reducible refine (plenumlaw41_reading.calls 240 22000 1 22000 0 240 w9 (Glob.below HG.out HB9.out) rfl).mono ?_); rintro e w10 ⟨rfl, hb⟩; have HI10 := Aside0.mk (HI9.out.below hb); have HB10 := Aside0.mk (below_step HB9.out hb); have HR10 := Aside0.mk (blk_below HR9.out hb); clear x0 x1 x2 x3 x4 x5; have x0 : w10.cell? ⟨gr, 0, none⟩ = some (.string sLog) := (blk_cell HR10.out 0).trans rfl; have x1 : w10.cell? ⟨gr, 1, none⟩ = some (.string sTemp) := (blk_cell HR10.out 1).trans rfl; have x2 : w10.cell? ⟨gr, 2, none⟩ = some (.int .i64 1) := (blk_cell HR10.out 2).trans rfl; have x3 : w10.cell? ⟨gr, 3, none⟩ = some (.int .i64 60) := (blk_cell HR10.out 3).trans rfl; have x4 : w10.cell? ⟨gr, 4, none⟩ = some (.int .i64 0) := (blk_cell HR10.out 4).trans rfl; have x5 : w10.cell? ⟨gr, 5, none⟩ = some (.int .i64 2) := (blk_cell HR10.out 5).trans rfl;  clear hb) | (go_at_call 15; (with_reducible refine (obs_calls w.heap.size g aL2 1 22000 0 240 w10 HI10.out HB10.out.size okaL2 (by decide)).mono ?_); rintro e w11 ⟨d, he, hi, hb, hk⟩; rw [ob3 d] at he hi; replace he : e = .returned (.tuple #[.int .i64 1, .int .i64 0]) := he; subst he; have HR11 := Aside0.mk (hk.keep _ _ _ HR10.out (by decide) HNE.out); have HI11 := Aside0.mk (show LogAt w.heap.size g aL3 w11 from hi); have HB11 := Aside0.mk (HB10.out.trans hb); clear x0 x1 x2 x3 x4 x5; have x0 : w11.cell? ⟨gr, 0, none⟩ = some (.string sLog) := (blk_cell HR11.out 0).trans rfl; have x1 : w11.cell? ⟨gr, 1, none⟩ = some (.string sTemp) := (blk_cell HR11.out 1).trans rfl; have x2 : w11.cell? ⟨gr, 2, none⟩ = some (.int .i64 1) := (blk_cell HR11.out 2).trans rfl; have x3 : w11.cell? ⟨gr, 3, none⟩ = some (.int .i64 60) := (blk_cell HR11.out 3).trans rfl; have x4 : w11.cell? ⟨gr, 4, none⟩ = some (.int .i64 0) := (blk_cell HR11.out 4).trans rfl; have x5 : w11.cell? ⟨gr, 5, none⟩ = some (.int .i64 2) := (blk_cell HR11.out 5).trans rfl;  clear hi hb hk) | (go_at_call 13; (with_reducible refine (after_calls w.heap.size g aL3 0 10 w11 HI11.out (by decide) (by decide) (by decide)).mono ?_); rintro e w12 hp; rw [af1] at hp; obtain ⟨vm, rfl, hr, hb⟩ := hp; obtain ⟨Am, cm, em, hcm, hCm⟩ := Kd.R_reads hr; have em2 : vm = .slice Am 3 cm := em; clear em; subst em2; have HM12 := Aside0.mk hr; have HI12 := Aside0.mk (HI11.out.below hb); have HB12 := Aside0.mk (below_step HB11.out hb); have HR12 := Aside0.mk (blk_below HR11.out hb); clear x0 x1 x2 x3 x4 x5; have x0 : w12.cell? ⟨gr, 0, none⟩ = some (.string sLog) := (blk_cell HR12.out 0).trans rfl; have x1 : w12.cell? ⟨gr, 1, none⟩ = some (.string sTemp) := (blk_cell HR12.out 1).trans rfl; have x2 : w12.cell? ⟨gr, 2, none⟩ = some (.int .i64 1) := (blk_cell HR12.out 2).trans rfl; have x3 : w12.cell? ⟨gr, 3, none⟩ = some (.int .i64 60) := (blk_cell HR12.out 3).trans rfl; have x4 : w12.cell? ⟨gr, 4, none⟩ = some (.int .i64 0) := (blk_cell HR12.out 4).trans rfl; have x5 : w12.cell? ⟨gr, 5, none⟩ = some (.int .i64 2) := (blk_cell HR12.out 5).trans rfl;  clear hb hr hcm hCm))
 obtain ⟨sv, HSV⟩ : ∃ s, Aside0 (strOfNums (saveB 3 240 [aR2, aR3]) = s) := ⟨_, ⟨rfl⟩⟩
 have HRS := Aside0.mk (show restS sv 2 = some (3, 240, [aR2, aR3]) by rw [← HSV.out]; exact rs1)
 have HSZ := Aside0.mk (show sv.size ≤ 140737488355327 by rw [← HSV.out]; rw [strOfNums_size]; exact Nat.le_trans (show (saveB 3 240 [aR2, aR3]).length ≤ 1000 from Nat.le_of_ble_eq_true (by kernel_rfl)) (by decide))
 have HI13 := Aside0.mk HI12.out.drew
 have HB13 := Aside0.mk (below_drew1 HB12.out)
 have HR13 := Aside0.mk (blk_drew HR12.out)
 have HM13 := Aside0.mk (Kd.R_drew HM12.out)
 refine start_ (n := 9) (S := fun w' => w'.cell? ⟨gr, 0, none⟩ = some (.string sLog) ∧ w'.cell? ⟨gr, 1, none⟩ = some (.string sTemp) ∧ w'.cell? ⟨gr, 2, none⟩ = some (.int .i64 1) ∧ w'.cell? ⟨gr, 3, none⟩ = some (.int .i64 60) ∧ w'.cell? ⟨gr, 4, none⟩ = some (.int .i64 0) ∧ w'.cell? ⟨gr, 5, none⟩ = some (.int .i64 2)) (ds := []) #[Yn, Yn, Yn, Yn, Yn, Yn, Yn, Yn, Yn] (by kernel_rfl) rfl rfl ⟨x0, x1, x2, x3, x4, x5⟩ (fun hHeld => ?_)
 generalize w12.drew = w13 at HI13 HB13 HR13 HM13 hHeld ⊢
 refine pure_ (i := 1) (N := some 57) (v := ?_) (a' := ?_) (Bz 9 0x2) rfl rfl (by kernel_rfl) (fun _ _ _ h => h) (Or.inl ⟨by rfl, ?_⟩) ?_ ?_
 rotate_left
 ·intro w'
  go_simp
  with_reducible rfl
 rotate_left
 ·simp only [Act.put, Z1, Z2, Z3, i64_w, i32_w]
  rfl
 refine take_ (i := 0) (N := some 56) (v := ?_) (a' := ?_) (Bz 9 0x3) rfl rfl (by kernel_rfl) (fun _ _ _ h => h) (Or.inl ⟨by rfl, ?_⟩) hHeld ?_ ?_
 rotate_left
 ·rintro w' ⟨s0, s1, s2, s3, s4, s5⟩
  go_simp
  with_reducible rfl
 rotate_left
 ·simp only [Act.put, Z1, Z2, Z3, i64_w, i32_w]
  rfl
 refine one_ (i := 2) (N := some 58) #[Y, Y, Y, Yn, Yn, Yn, Yn, Yn, Yn] rfl rfl (by kernel_rfl) (by decide) (fun K hK => ?_)
 refine goes_ Tryd.func22 (by kernel_rfl) rfl #[.pointer (some ⟨g, 0, none⟩)] (by rfl) rfl rfl (by simp only [List.map_toArray, List.map_cons, List.map_nil]; rfl) ?_
 with_reducible refine (save_calls w.heap.size g aL3 w13 (Glob.below HG.out HB13.out) HI13.out (Nat.lt_of_lt_of_le H0.out HB13.out.size) (by decide) okR).mono ?_
 rintro e w14 ⟨rfl, hb⟩
 refine ⟨_, rfl, ?_⟩
 rw [show strOfNums (saveB aL3.total aL3.now aL3.recs) = sv from HSV.out]
 have HI14 := Aside0.mk (HI13.out.below hb)
 have HB14 := Aside0.mk (below_step HB13.out hb)
 have HR14 := Aside0.mk (blk_below HR13.out hb)
 have HM14 := Aside0.mk (Kd.R_below HM13.out hb)
 clear hb
 refine hK.out _ _ ⟨(blk_cell HR14.out 0).trans rfl, (blk_cell HR14.out 1).trans rfl, (blk_cell HR14.out 2).trans rfl, (blk_cell HR14.out 3).trans rfl, (blk_cell HR14.out 4).trans rfl, (blk_cell HR14.out 5).trans rfl⟩ (fun hHeld => ?_)
 clear hK K
 refine norm_ (a' := ?_) ?_ ?_
 rotate_left
 ·show Act.put _ (some 58) _ = _
  simp only [Act.put, Z1, Z2, Z3, i64_w, i32_w]
  rfl
 refine one_ (i := 3) (N := some 59) #[Y, Y, Y, Y, Yn, Yn, Yn, Yn, Yn] rfl rfl (by kernel_rfl) (by decide) (fun K hK => ?_)
 refine goes_ Tryd.func19 (by kernel_rfl) rfl #[.agg #[.string sLog, .string sTemp, .int .i64 1, .int .i64 60, .int .i64 0, .int .i64 2], .string sv] (by rfl) rfl rfl (by simp only [List.map_toArray, List.map_cons, List.map_nil]; rfl) ?_
 with_reducible refine (restore_calls sLog sTemp 1 60 0 2 sv w14 (Glob.below HG.out HB14.out) HSZ.out).mono ?_
 rintro e w15 hp
 rw [HRS.out] at hp
 obtain ⟨hb, g2, rfl, hk⟩ := hp
 refine ⟨_, rfl, ?_⟩
 have HK15 := Aside0.mk (show LogAt w14.heap.size g2 aK w15 from hk)
 have HBB15 := Aside0.mk hb
 have HR15 := Aside0.mk (blk_below HR14.out hb)
 clear hb hk
 refine hK.out _ _ ⟨(blk_cell HR15.out 0).trans rfl, (blk_cell HR15.out 1).trans rfl, (blk_cell HR15.out 2).trans rfl, (blk_cell HR15.out 3).trans rfl, (blk_cell HR15.out 4).trans rfl, (blk_cell HR15.out 5).trans rfl⟩ (fun hHeld => ?_)
 clear hK K
 refine norm_ (a' := ?_) ?_ ?_
 rotate_left
 ·show Act.put _ (some 59) _ = _
  simp only [Act.put, Z1, Z2, Z3, i64_w, i32_w]
  rfl
 refine pure_ (i := 4) (N := some 55) (v := ?_) (a' := ?_) (Bz 9 0x1f) rfl rfl (by kernel_rfl) (fun _ _ _ h => h) (Or.inl ⟨by rfl, ?_⟩) ?_ ?_
 rotate_left
 ·intro w'
  go_simp
  with_reducible rfl
 rotate_left
 ·simp only [Act.put, Z1, Z2, Z3, i64_w, i32_w]
  rfl
 refine pure_ (i := 5) (N := some 60) (v := ?_) (a' := ?_) (Bz 9 0x3f) rfl rfl (by kernel_rfl) (fun _ _ _ h => h) (Or.inl ⟨by rfl, ?_⟩) ?_ ?_
 rotate_left
 ·intro w'
  go_simp
  with_reducible rfl
 rotate_left
 ·simp only [Act.put, Z1, Z2, Z3, i64_w, i32_w]
  rfl
 refine pure_ (i := 6) (N := some 61) (v := ?_) (a' := ?_) (Bz 9 0x7f) rfl rfl (by kernel_rfl) (fun _ _ _ h => h) (Or.inl ⟨by rfl, ?_⟩) ?_ ?_
 rotate_left
 ·intro w'
  go_simp
  with_reducible rfl
 rotate_left
 ·simp only [Act.put, Z1, Z2, Z3, i64_w, i32_w]
  rfl
 refine pure_ (i := 7) (N := some 11) (v := ?_) (a' := ?_) (Bz 9 0xff) rfl rfl (by kernel_rfl) (fun _ _ _ h => h) (Or.inl ⟨by rfl, ?_⟩) ?_ ?_
 rotate_left
 ·intro w'
  go_simp
  with_reducible rfl
 rotate_left
 ·simp only [Act.put, Z1, Z2, Z3, i64_w, i32_w]
  rfl
 refine pure_ (i := 8) (N := some 12) (v := ?_) (a' := ?_) (Bz 9 0x1ff) rfl rfl (by kernel_rfl) (fun _ _ _ h => h) (Or.inl ⟨by rfl, ?_⟩) ?_ ?_
 rotate_left
 ·intro w'
  go_simp
  with_reducible rfl
 rotate_left
 ·simp only [Act.put, Z1, Z2, Z3, i64_w, i32_w]
  rfl
 refine done_ (by kernel_rfl) ?_
 clear x0 x1 x2 x3 x4 x5 hHeld
 go_wp2_with (go_at_call 16; (with_reducible refine (tick_calls w14.heap.size g2 aK 500 w15 HK15.out HBB15.out.size okaK (by decide)).mono ?_); rintro e w16 ⟨he, hi, hb, hk⟩; rw [tk1] at he hi; replace he : e = .returned (.tuple #[.int .i64 0, .int .i64 0]) := he; subst he; have HK16 := Aside0.mk (show LogAt w14.heap.size g2 aK2 w16 from hi); have HBB16 := Aside0.mk (HBB15.out.trans hb); have HI16 := Aside0.mk (HI14.out.below HBB16.out); have HM16 := Aside0.mk (Kd.R_below HM14.out HBB16.out); clear hi hb hk; obtain ⟨_, _, hCm⟩ := Kd.R_reads' HM16.out; obtain ⟨⟨ad, ea⟩, hz⟩ := elemA hCm; subst ea; obtain ⟨z0, z1, z2, z3, z4, z5, y1⟩ := hz ad rfl; clear hz; clear hCm)
 go_wp2_with (first | (go_at_call 12; (with_reducible refine (total_calls w.heap.size g aL3 w16 HI16.out).mono ?_); rintro e wq ⟨he, rfl⟩; replace he : e = .returned (.int .i64 3) := he; subst he) | (go_at_call 24; (with_reducible refine (trigE_calls w.heap.size g aL3 300 _ HI16.out (by decide) (by decide)).mono ?_); rintro e wq2 ⟨rfl, rfl⟩) | (go_at_call 14; (with_reducible refine (records_calls w14.heap.size g2 aK2 _ HK16.out (by decide)).mono ?_); rintro e w17 ⟨v17, rfl, hr, hb⟩; obtain ⟨A17, c17, e17, hc17, hC17⟩ := Kd.R_reads hr; have e17b : v17 = .slice A17 2 c17 := e17; clear e17; subst e17b; have HV17 := Aside0.mk hr; have HI17 := Aside0.mk (HI16.out.below hb); have HBB17 := Aside0.mk (below_step HBB16.out hb); clear hb hr hc17 hC17) | (go_at_call 14; (with_reducible refine (records_calls w.heap.size g aL3 w17 HI17.out (by decide)).mono ?_); rintro e w18 ⟨v18, rfl, hr, hb⟩; obtain ⟨A18, c18, e18, hc18, hC18⟩ := Kd.R_reads hr; have e18b : v18 = .slice A18 2 c18 := e18; clear e18; subst e18b; have HV18 := Aside0.mk hr; have HV17b := Aside0.mk (Kd.R_below HV17.out hb); have HBB18 := Aside0.mk (below_step HBB17.out hb); have HC1 := Aside0.mk (show Kd.C k44 w18 A17 2 [aR2, aR3] from (Kd.R_reads' HV17b.out).2.2); have HC2 := Aside0.mk (show Kd.C k44 w18 A18 2 [aR2, aR3] from (Kd.R_reads' HV18.out).2.2); have HC3 := Aside0.mk (show 2 ≤ c17 from (Kd.R_reads' HV17b.out).2.1); have HC4 := Aside0.mk (show 2 ≤ c18 from (Kd.R_reads' HV18.out).2.1); clear hb hr hc18 hC18) | (go_at_call 21; (with_reducible refine (smA A17 A18 c17 c18 w18 (Glob.below HG.out (below_step HB14.out HBB18.out)) HC1.out HC3.out HC2.out HC4.out).mono ?_); rintro e w19 ⟨rfl, nd, rfl⟩))
 go_ret
 exact ⟨rfl, by have := below_step HB14.out HBB18.out; exact pw_below_drewN this nd⟩
end Go.Proofs.YtbccjcdmpiolpaaDoor.T
end
section
namespace Go.Proofs.YtbccjcdmpiolpaaDoor.T
open Go.RowKit Go.Proofs.YtbccjcdmpiolpaaDoor.Pure Go.Proofs.YtbccjcdmpiolpaaDoorW.PrintWords Go.Proofs.YtbccjcdmpiolpaaDoorW.PrintLast Go.Proofs.YtbccjcdmpiolpaaDoorW.PrintMore
set_option linter.unusedVariables false
set_option linter.unusedSimpArgs false
attribute [local go_sem] max2_int min2_int max_two min_two
theorem info32 : (Tryd.prog.info? 32).map (fun i => (i.zero, i.size, i.bytes)) = some (some (.agg #[.int .i64 0, .int .i64 0, .int .i64 0, .int .i64 0]), 4, 32) := by kernel_rfl
theorem LogAt.grown32 {B g : Nat} {L : Lg} {w w1 : World} {base : Nat} {ok : Nat → Prop} {v : Value} {xs : List S32} (h : LogAt B g L w) (ho : Kd.R k32 32 w base ok v xs) (hg : w.grownBy w1 v.ownBlock) : LogAt B g L w1 := by
 obtain ⟨v0, ring, f, hG, hge, hO, hr⟩ := h
 exact ⟨v0, ring, f, blk_grown hG hg (Kd.R_ne ho hG (by decide)), hge, Kd.R_mono (Kd.R_step (Kd.R_bound hO) (fun k hk' hlt => by
  obtain ⟨_, _, _, q, hq, cells, hc⟩ := hk'
  rcases List.mem_cons.1 hq with rfl | hq
  ·exact (blk_grown hc hg (Kd.R_ne ho hc (by decide))).trans hc.symm
  ·cases hq)) (fun _ _ => trivial), hr⟩
theorem R32_keepL {B g : Nat} {cs : Array Value} {w w1 : World} {v : Value} {xs : List S32} (h : Kd.R k32 32 w B (fun _ => True) v xs) (hg : w.heap[g]? = some (.cells cs 68 (0, 0))) (hk : KeepL w w1 g) : Kd.R k32 32 w1 B (fun _ => True) v xs :=
 Kd.R_mono (Kd.R_step (Kd.R_bound h) (fun k hk' hlt => by
  obtain ⟨_, _, _, q, hq, cells, hc⟩ := hk'
  rcases List.mem_cons.1 hq with rfl | hq
  ·rw [hc]
   exact hk.keep k cells 32 hc (by decide) (blk_ne hc hg (by decide))
  ·cases hq)) (fun _ _ => trivial)
structure EQ (nm pt : ByteArray) (iv st sz i : Int) (w : World) (gr B g : Nat) (L : Lg) (H : List S44) (hs : List S32) (v : Value) (wr : World) : Prop where
 log : LogAt B g L wr
 hi : B ≤ wr.heap.size
 bel : Below w.heap.size w wr
 li : LgI nm pt 1 iv st sz i L H
 ev : EvI iv L H hs
 own : Kd.R k32 32 wr w.heap.size (fun _ => True) v hs
 row : wr.heap[gr]? = some (.cells #[.string nm, .string pt, .int .i64 1, .int .i64 iv, .int .i64 st, .int .i64 sz] 23 (0, 0))
 hl : (hs.length : Int) ≤ i
structure EJ (nm pt : ByteArray) (iv st sz : Int) (w : World) (gr : Nat) (Ah Ar : Option Addr) (hs : List S32) (R : List S44) (wr : World) : Prop where
 bel : Below w.heap.size w wr
 row : wr.heap[gr]? = some (.cells #[.string nm, .string pt, .int .i64 1, .int .i64 iv, .int .i64 st, .int .i64 sz] 23 (0, 0))
 ch : Kd.C k32 wr Ah hs.length hs
 cr : Kd.C k44 wr Ar R.length R
theorem EJ.below {nm pt : ByteArray} {iv st sz : Int} {w wr w1 : World} {gr : Nat} {Ah Ar : Option Addr} {hs : List S32} {R : List S44} (h : EJ nm pt iv st sz w gr Ah Ar hs R wr) (hb : Below wr.heap.size wr w1) : EJ nm pt iv st sz w gr Ah Ar hs R w1 := ⟨below_step h.bel hb, blk_below h.row hb, Kd.C_below h.ch hb, Kd.C_below h.cr hb⟩
theorem EJ.drew {nm pt : ByteArray} {iv st sz : Int} {w wr : World} {gr : Nat} {Ah Ar : Option Addr} {hs : List S32} {R : List S44} (h : EJ nm pt iv st sz w gr Ah Ar hs R wr) : EJ nm pt iv st sz w gr Ah Ar hs R wr.drew := h.below (below_drew1 (Below.refl _ _))
structure EX (wb : World) (gy : Nat) (x : S32) (wr : World) : Prop where
 bel : Below wb.heap.size wb wr
 y : wr.heap[gy]? = some (.cells #[.int .i64 x.f0.f0, .int .i64 x.f0.f1, .int .i64 x.f1, .int .i64 x.f2] 32 (0, 0))
theorem rd44_g (l : List S44) (i : Nat) (h : i < l.length) : rd_T44 l (i : Int) = l[i] := by
 unfold rd_T44
 rw [Int.toNat_natCast, List.getD_eq_getElem?_getD, List.getElem?_eq_getElem h]
 rfl
theorem rd32_g (l : List S32) (i : Nat) (h : i < l.length) : rd_T32 l (i : Int) = l[i] := by
 unfold rd_T32
 rw [Int.toNat_natCast, List.getD_eq_getElem?_getD, List.getElem?_eq_getElem h]
 rfl
theorem ev_new {iv st sz a : Int} {nm pt : ByteArray} : EvI iv ⟨nm, pt, 1, iv, st, sz, a, false, 0, 0, 0, 0, 0, []⟩ [] [] :=
 ⟨rfl, rfl, ⟨fun _ => rfl, fun h => absurd rfl h, fun i h => (by cases h), fun i h => (by cases h), fun x h => (by cases h), fun x h => (by cases h)⟩, fun _ => rfl, fun h => absurd rfl h⟩
theorem ev_tick {nm pt : ByteArray} {iv st sz n : Int} {L : Lg} {H : List S44} {hs : List S32} (h : LgI nm pt 1 iv st sz n L H) (hn : n ≤ 1000) (e : EvI iv L H hs) {a : Int} (h0 : L.now ≤ a) (h1 : a ≤ 100000000) :
  ∃ T n5 H5, L.tick a = (T, n5, 0) ∧ OkL T ∧ Hist T H5 ∧ EvI iv T H5 hs ∧ T.now = a ∧ T.sz = sz := by
 have hu : L.now ≤ a ∧ a ≤ 10000000000 := ⟨h0, by omega⟩
 have po := pass_ok h.ok hu
 refine ⟨(L.pass a).1, (L.pass a).2, H ++ passN L a, if_neg (by omega), ok_pass h.ok hu ?_, (hist_pass h.hist h.ok hu).1, e.pass h.hist h.ok hu, by rw [po.same.now], po.same.sz.trans h.sz⟩
 have h2 := pass_le h.ok h0
 have h3 := h.tot
 have h4 := h.ok.n0
 omega
theorem ev_n {iv : Int} {L : Lg} {H : List S44} {hs : List S32} (e : EvI iv L H hs) (h : Hist L H) (hne : hs ≠ []) : L.total = L.now / iv - ((rd_T32 hs 0).f2 - 1) / iv := by
 have := e.ev.cnt hne
 have h2 := h.len
 unfold c0H at this
 omega
theorem obs_stale {L : Lg} {k v q a : Int} {d : Bool} (h : a ≤ L.now) : L.obs k v q a d = (L, 0, 15) := by unfold Lg.obs; exact if_pos h
theorem obs_fresh {L : Lg} {k v q a : Int} {d : Bool} (h : L.now < a) : L.obs k v q a d = ((L.obs k v q a d).1, (L.obs k v q a d).2.1, 0) := by
 unfold Lg.obs
 rw [if_neg (by omega)]
 split <;> rfl
set_option maxHeartbeats 16000000 in
set_option maxRecDepth 100000 in
theorem every_walk (nm pt : ByteArray) (way iv st sz kind a : Int) (A3 : Option Addr) (c3 : Nat) (l : List S34) (ed : Int) (w : World) (hG : Glob w) (h0 : 0 < w.heap.size) (hC : Kd.C k34 w A3 l.length l) (hc : l.length ≤ c3) :
  Calls Tryd.prog 4 #[.agg #[.string nm, .string pt, .int .i64 way, .int .i64 iv, .int .i64 st, .int .i64 sz], .int .i64 kind, .int .i64 a, .slice A3 l.length c3, .int .i64 ed] w fun e w' => e = .returned (.bool true) ∧ Below w.heap.size w w' := by
 have HG := Aside0.mk hG
 have HC := Aside0.mk hC
 have HC3 := Aside0.mk hc
 have HSZ := Aside0.mk h0
 clear hG hC hc h0
 have hu44 := Tryd.underlying44
 have hu30 := Tryd.underlying30
 have hu32 := Tryd.underlying32
 by_cases kw : way = 1
 case neg =>
  have kwb : (way != 1) = true := bne_iff_ne.mpr kw
  clear kw
  go_enter Tryd.func4, Tryd.ntmps4
  go_wp2_with (first | ((with_reducible refine gate_dst (N := 5) rfl ?_); refine box_event ?hg (N := 5) ?hd (cs := #[.string nm, .string pt, .int .i64 way, .int .i64 iv, .int .i64 st, .int .i64 sz]) (t := 23) ?hr ?_; (case hd => rfl); (case hg => rfl); (case hr => first | (go_simp; done) | (go_simp; rfl)); intro gr hgr w1 hbox hb; have HR1 := Aside0.mk hbox; have HB1 := Aside0.mk hb; have x0 := (blk_cell HR1.out 0).trans rfl; have x1 := (blk_cell HR1.out 1).trans rfl; have x2 := (blk_cell HR1.out 2).trans rfl; have x3 := (blk_cell HR1.out 3).trans rfl; have x4 := (blk_cell HR1.out 4).trans rfl; have x5 := (blk_cell HR1.out 5).trans rfl;  clear hb hbox hgr) | (go_at_call 8; (with_reducible refine (awake_calls w1 (Glob.below HG.out HB1.out)).mono ?_); rintro e w2 ⟨rfl, hb⟩; have HR2 := Aside0.mk (blk_below HR1.out hb); have HB2 := Aside0.mk (below_step HB1.out hb); clear x0 x1 x2 x3 x4 x5; have x0 := (blk_cell HR2.out 0).trans rfl; have x1 := (blk_cell HR2.out 1).trans rfl; have x2 := (blk_cell HR2.out 2).trans rfl; have x3 := (blk_cell HR2.out 3).trans rfl; have x4 := (blk_cell HR2.out 4).trans rfl; have x5 := (blk_cell HR2.out 5).trans rfl;  clear hb))
  go_ret
  exact ⟨rfl, HB2.out⟩
 subst kw
 obtain ⟨fr, hf, hok⟩ := fit_all nm pt 1 iv st sz kind a l 24 (by decide)
 have HF := Aside0.mk hf
 have HOK := Aside0.mk hok
 clear hf hok
 cases fr with
 | false =>
  go_enter Tryd.func4, Tryd.ntmps4
  go_wp2_with (first | ((with_reducible refine gate_dst (N := 5) rfl ?_); refine box_event ?hg (N := 5) ?hd (cs := #[.string nm, .string pt, .int .i64 1, .int .i64 iv, .int .i64 st, .int .i64 sz]) (t := 23) ?hr ?_; (case hd => rfl); (case hg => rfl); (case hr => first | (go_simp; done) | (go_simp; rfl)); intro gr hgr w1 hbox hb; have HR1 := Aside0.mk hbox; have HB1 := Aside0.mk hb; have x0 := (blk_cell HR1.out 0).trans rfl; have x1 := (blk_cell HR1.out 1).trans rfl; have x2 := (blk_cell HR1.out 2).trans rfl; have x3 := (blk_cell HR1.out 3).trans rfl; have x4 := (blk_cell HR1.out 4).trans rfl; have x5 := (blk_cell HR1.out 5).trans rfl;  clear hb hbox hgr) | (go_at_call 8; (with_reducible refine (awake_calls w1 (Glob.below HG.out HB1.out)).mono ?_); rintro e w2 ⟨rfl, hb⟩; have HR2 := Aside0.mk (blk_below HR1.out hb); have HB2 := Aside0.mk (below_step HB1.out hb); clear x0 x1 x2 x3 x4 x5; have x0 := (blk_cell HR2.out 0).trans rfl; have x1 := (blk_cell HR2.out 1).trans rfl; have x2 := (blk_cell HR2.out 2).trans rfl; have x3 := (blk_cell HR2.out 3).trans rfl; have x4 := (blk_cell HR2.out 4).trans rfl; have x5 := (blk_cell HR2.out 5).trans rfl;  clear hb) | (go_at_call 9; (with_reducible refine (plenumref41_Fit.calls 100 nm pt 1 iv st sz kind a A3 c3 l 24 _ w2 (Glob.below HG.out HB2.out) (Kd.C_below HC.out HB2.out) HC3.out HF.out).mono ?_); rintro e w3 ⟨rfl, hb⟩; have HR3 := Aside0.mk (blk_below HR2.out hb); have HB3 := Aside0.mk (below_step HB2.out hb); clear x0 x1 x2 x3 x4 x5; have x0 := (blk_cell HR3.out 0).trans rfl; have x1 := (blk_cell HR3.out 1).trans rfl; have x2 := (blk_cell HR3.out 2).trans rfl; have x3 := (blk_cell HR3.out 3).trans rfl; have x4 := (blk_cell HR3.out 4).trans rfl; have x5 := (blk_cell HR3.out 5).trans rfl;  clear hb))
  go_ret
  exact ⟨rfl, HB3.out⟩
 | true =>
  have HFO := Aside0.mk (HOK.out rfl)
  have HIV := Aside0.mk (HFO.out.chk.iv rfl)
  by_cases k1 : ed < 0
  ·have k1b : decide (ed < 0) = true := decide_eq_true k1
   clear k1
   go_enter Tryd.func4, Tryd.ntmps4
   go_wp2_with (first | ((with_reducible refine gate_dst (N := 5) rfl ?_); refine box_event ?hg (N := 5) ?hd (cs := #[.string nm, .string pt, .int .i64 1, .int .i64 iv, .int .i64 st, .int .i64 sz]) (t := 23) ?hr ?_; (case hd => rfl); (case hg => rfl); (case hr => first | (go_simp; done) | (go_simp; rfl)); intro gr hgr w1 hbox hb; have HR1 := Aside0.mk hbox; have HB1 := Aside0.mk hb; have x0 := (blk_cell HR1.out 0).trans rfl; have x1 := (blk_cell HR1.out 1).trans rfl; have x2 := (blk_cell HR1.out 2).trans rfl; have x3 := (blk_cell HR1.out 3).trans rfl; have x4 := (blk_cell HR1.out 4).trans rfl; have x5 := (blk_cell HR1.out 5).trans rfl;  clear hb hbox hgr) | (go_at_call 8; (with_reducible refine (awake_calls w1 (Glob.below HG.out HB1.out)).mono ?_); rintro e w2 ⟨rfl, hb⟩; have HR2 := Aside0.mk (blk_below HR1.out hb); have HB2 := Aside0.mk (below_step HB1.out hb); clear x0 x1 x2 x3 x4 x5; have x0 := (blk_cell HR2.out 0).trans rfl; have x1 := (blk_cell HR2.out 1).trans rfl; have x2 := (blk_cell HR2.out 2).trans rfl; have x3 := (blk_cell HR2.out 3).trans rfl; have x4 := (blk_cell HR2.out 4).trans rfl; have x5 := (blk_cell HR2.out 5).trans rfl;  clear hb) | (go_at_call 9; (with_reducible refine (plenumref41_Fit.calls 100 nm pt 1 iv st sz kind a A3 c3 l 24 _ w2 (Glob.below HG.out HB2.out) (Kd.C_below HC.out HB2.out) HC3.out HF.out).mono ?_); rintro e w3 ⟨rfl, hb⟩; have HR3 := Aside0.mk (blk_below HR2.out hb); have HB3 := Aside0.mk (below_step HB2.out hb); clear x0 x1 x2 x3 x4 x5; have x0 := (blk_cell HR3.out 0).trans rfl; have x1 := (blk_cell HR3.out 1).trans rfl; have x2 := (blk_cell HR3.out 2).trans rfl; have x3 := (blk_cell HR3.out 3).trans rfl; have x4 := (blk_cell HR3.out 4).trans rfl; have x5 := (blk_cell HR3.out 5).trans rfl;  clear hb))
   go_ret
   exact ⟨rfl, HB3.out⟩
  have k1b : decide (ed < 0) = false := decide_eq_false k1
  have wa : wrap64 (400 * iv) = 400 * iv := by have h1 := HIV.out; unfold wrap64; omega
  have wb : wrap64 (a + 400 * iv) = a + 400 * iv := by have h1 := HIV.out; have h2 := HFO.out.a0; have h3 := HFO.out.a1; unfold wrap64; omega
  by_cases k2 : a + 400 * iv < ed
  ·have k2b : decide (a + 400 * iv < ed) = true := decide_eq_true k2
   clear k1 k2
   go_enter Tryd.func4, Tryd.ntmps4
   go_wp2_with (first | ((with_reducible refine gate_dst (N := 5) rfl ?_); refine box_event ?hg (N := 5) ?hd (cs := #[.string nm, .string pt, .int .i64 1, .int .i64 iv, .int .i64 st, .int .i64 sz]) (t := 23) ?hr ?_; (case hd => rfl); (case hg => rfl); (case hr => first | (go_simp; done) | (go_simp; rfl)); intro gr hgr w1 hbox hb; have HR1 := Aside0.mk hbox; have HB1 := Aside0.mk hb; have x0 := (blk_cell HR1.out 0).trans rfl; have x1 := (blk_cell HR1.out 1).trans rfl; have x2 := (blk_cell HR1.out 2).trans rfl; have x3 := (blk_cell HR1.out 3).trans rfl; have x4 := (blk_cell HR1.out 4).trans rfl; have x5 := (blk_cell HR1.out 5).trans rfl;  clear hb hbox hgr) | (go_at_call 8; (with_reducible refine (awake_calls w1 (Glob.below HG.out HB1.out)).mono ?_); rintro e w2 ⟨rfl, hb⟩; have HR2 := Aside0.mk (blk_below HR1.out hb); have HB2 := Aside0.mk (below_step HB1.out hb); clear x0 x1 x2 x3 x4 x5; have x0 := (blk_cell HR2.out 0).trans rfl; have x1 := (blk_cell HR2.out 1).trans rfl; have x2 := (blk_cell HR2.out 2).trans rfl; have x3 := (blk_cell HR2.out 3).trans rfl; have x4 := (blk_cell HR2.out 4).trans rfl; have x5 := (blk_cell HR2.out 5).trans rfl;  clear hb) | (go_at_call 9; (with_reducible refine (plenumref41_Fit.calls 100 nm pt 1 iv st sz kind a A3 c3 l 24 _ w2 (Glob.below HG.out HB2.out) (Kd.C_below HC.out HB2.out) HC3.out HF.out).mono ?_); rintro e w3 ⟨rfl, hb⟩; have HR3 := Aside0.mk (blk_below HR2.out hb); have HB3 := Aside0.mk (below_step HB2.out hb); clear x0 x1 x2 x3 x4 x5; have x0 := (blk_cell HR3.out 0).trans rfl; have x1 := (blk_cell HR3.out 1).trans rfl; have x2 := (blk_cell HR3.out 2).trans rfl; have x3 := (blk_cell HR3.out 3).trans rfl; have x4 := (blk_cell HR3.out 4).trans rfl; have x5 := (blk_cell HR3.out 5).trans rfl;  clear hb))
   go_ret
   exact ⟨rfl, HB3.out⟩
  have k2b : decide (a + 400 * iv < ed) = false := decide_eq_false k2
  have HED := Aside0.mk (show 0 ≤ ed ∧ ed ≤ 100000000 by have h1 := HIV.out; have h2 := HFO.out.a1; omega)
  clear k1 k2
  go_enter Tryd.func4, Tryd.ntmps4
  go_wp2_with (first | ((with_reducible refine gate_dst (N := 5) rfl ?_); refine box_event ?hg (N := 5) ?hd (cs := #[.string nm, .string pt, .int .i64 1, .int .i64 iv, .int .i64 st, .int .i64 sz]) (t := 23) ?hr ?_; (case hd => rfl); (case hg => rfl); (case hr => first | (go_simp; done) | (go_simp; rfl)); intro gr hgr w1 hbox hb; have HR1 := Aside0.mk hbox; have HB1 := Aside0.mk hb; have x0 := (blk_cell HR1.out 0).trans rfl; have x1 := (blk_cell HR1.out 1).trans rfl; have x2 := (blk_cell HR1.out 2).trans rfl; have x3 := (blk_cell HR1.out 3).trans rfl; have x4 := (blk_cell HR1.out 4).trans rfl; have x5 := (blk_cell HR1.out 5).trans rfl;  clear hb hbox hgr) | (go_at_call 8; (with_reducible refine (awake_calls w1 (Glob.below HG.out HB1.out)).mono ?_); rintro e w2 ⟨rfl, hb⟩; have HR2 := Aside0.mk (blk_below HR1.out hb); have HB2 := Aside0.mk (below_step HB1.out hb); clear x0 x1 x2 x3 x4 x5; have x0 := (blk_cell HR2.out 0).trans rfl; have x1 := (blk_cell HR2.out 1).trans rfl; have x2 := (blk_cell HR2.out 2).trans rfl; have x3 := (blk_cell HR2.out 3).trans rfl; have x4 := (blk_cell HR2.out 4).trans rfl; have x5 := (blk_cell HR2.out 5).trans rfl;  clear hb) | (go_at_call 9; (with_reducible refine (plenumref41_Fit.calls 100 nm pt 1 iv st sz kind a A3 c3 l 24 _ w2 (Glob.below HG.out HB2.out) (Kd.C_below HC.out HB2.out) HC3.out HF.out).mono ?_); rintro e w3 ⟨rfl, hb⟩; have HR3 := Aside0.mk (blk_below HR2.out hb); have HB3 := Aside0.mk (below_step HB2.out hb); clear x0 x1 x2 x3 x4 x5; have x0 := (blk_cell HR3.out 0).trans rfl; have x1 := (blk_cell HR3.out 1).trans rfl; have x2 := (blk_cell HR3.out 2).trans rfl; have x3 := (blk_cell HR3.out 3).trans rfl; have x4 := (blk_cell HR3.out 4).trans rfl; have x5 := (blk_cell HR3.out 5).trans rfl;  clear hb) | (go_at_call 10; (with_reducible refine (new_calls nm pt 1 iv st sz a w3).mono ?_); rintro e w4 ⟨g, rfl, hl, hb⟩; obtain ⟨B, hB⟩ : ∃ B, B = w3.heap.size := ⟨_, rfl⟩; rw [← hB] at hl; have HL4 := Aside0.mk hl; have HS4 := Aside0.mk (show B ≤ w4.heap.size by rw [hB]; exact hb.size); have HLO := Aside0.mk (show w.heap.size ≤ B by rw [hB]; exact HB3.out.size); have HB4 := Aside0.mk (below_step HB3.out hb); have HR4 := Aside0.mk (blk_below HR3.out hb); have HLI := Aside0.mk (LgI.new (nm := nm) (pt := pt) (st := st) HFO.out.a0 HFO.out.a1 HFO.out.chk.s0 HFO.out.chk.s1 HFO.out.chk.iv); clear x0 x1 x2 x3 x4 x5 hl hb hB HR1 HR2 HR3 HB1 HB2 HB3))
  go_loopg [12, 13] l.length (fun kq v12 v13 wr => ∃ (i : Int) (L : Lg) (H : List S44) (hs : List S32), v13 = .int .i64 i ∧ Aside0 (0 ≤ i ∧ i + (kq : Int) = (l.length : Int)) ∧ Aside0 (EQ nm pt iv st sz i w gr B g L H hs v12 wr))
  case atStart => exact ⟨0, _, [], [], rfl, ⟨by omega⟩, ⟨HL4.out, HS4.out, HB4.out, HLI.out, ev_new, Kd.R_nil _ _ _ _ _, HR4.out, Int.le_refl 0⟩⟩
  case round =>
   obtain ⟨i, L, H, hs, rfl, HII, HE⟩ := hrel
   clear HL4 HS4 HB4 HLI HR4 k1b k2b wa wb
   obtain ⟨vh, hvh⟩ : ∃ v, v = u12 := ⟨_, rfl⟩
   subst hvh
   have HNE := Aside0.mk (show gr ≠ g by obtain ⟨v, r, f, h, _⟩ := HE.out.log; exact blk_ne HE.out.row h (by decide))
   cases gk with
   | zero =>
    have q0 : decide (i < (l.length : Int)) = false := decide_eq_false (by have h1 := HII.out; omega)
    obtain ⟨Ah, ch, e12⟩ := Kd.R_slice HE.out.own
    subst e12
    by_cases kt : ed < L.now
    ·have HTK := Aside0.mk (show L.tick ed = (L, 0, 15) from if_pos kt)
     clear kt
     go_wp2_with (go_at_call 16; (with_reducible refine (tick_calls B g L ed _ HE.out.log HE.out.hi HE.out.li.ok (by have h1 := HED.out; omega)).mono ?_); rintro e wt hp; rw [HTK.out] at hp; obtain ⟨rfl, hl, hb, hk⟩ := hp; have HLt := Aside0.mk hl; have HBt := Aside0.mk (HE.out.bel.trans (hb.mono HLO.out)); have HRt := Aside0.mk (hk.keep _ _ _ HE.out.row (by decide) HNE.out); have HOt := Aside0.mk (by obtain ⟨v, r, f, h, _⟩ := HE.out.log; exact R32_keepL HE.out.own h hk); clear hl hb hk)
     go_ret
     exact ⟨rfl, HBt.out⟩
    obtain ⟨T, n5, H5, htk, hot, hht, het, htn, htz⟩ := ev_tick HE.out.li (by have h1 := HII.out; have h2 := HFO.out.len; omega) HE.out.ev (a := ed) (by omega) HED.out.2
    have HTK := Aside0.mk htk
    have HOT := Aside0.mk hot
    have HHT := Aside0.mk hht
    have HET := Aside0.mk het
    have HTN := Aside0.mk htn
    have HTZ := Aside0.mk htz
    clear htk hot hht het htn htz kt
    by_cases kh : hs = []
    ·have s1 : ((hs.length : Int) == 0) = true := by rw [kh]; rfl
     have s2 : (hs.length == 0) = true := by rw [kh]; rfl
     have s3 : hs.length = 0 := by rw [kh]; rfl
     clear kh
     go_wp2_with (go_at_call 16; (with_reducible refine (tick_calls B g L ed _ HE.out.log HE.out.hi HE.out.li.ok (by have h1 := HED.out; omega)).mono ?_); rintro e wt hp; rw [HTK.out] at hp; obtain ⟨rfl, hl, hb, hk⟩ := hp; have HLt := Aside0.mk hl; have HBt := Aside0.mk (HE.out.bel.trans (hb.mono HLO.out)); have HRt := Aside0.mk (hk.keep _ _ _ HE.out.row (by decide) HNE.out); have HOt := Aside0.mk (by obtain ⟨v, r, f, h, _⟩ := HE.out.log; exact R32_keepL HE.out.own h hk); clear hl hb hk)
     go_ret
     exact ⟨rfl, HBt.out⟩
    have HNH := Aside0.mk kh
    have hpos : 0 < hs.length := List.length_pos_iff.mpr kh
    have s1 : ((hs.length : Int) == 0) = false := beq_false_of_ne (by omega)
    have s2 : (hs.length == 0) = false := beq_false_of_ne (by omega)
    have HPH := Aside0.mk hpos
    clear kh hpos
    have HHL := Aside0.mk (show (hs.length : Int) ≤ 24 by have h1 := HE.out.hl; have h2 := HII.out; have h3 := HFO.out.len; omega)
    go_wp2_with (go_at_call 16; (with_reducible refine (tick_calls B g L ed _ HE.out.log HE.out.hi HE.out.li.ok (by have h1 := HED.out; omega)).mono ?_); rintro e wt hp; rw [HTK.out] at hp; obtain ⟨rfl, hl, hb, hk⟩ := hp; have HLt := Aside0.mk hl; have HBt := Aside0.mk (HE.out.bel.trans (hb.mono HLO.out)); have HRt := Aside0.mk (hk.keep _ _ _ HE.out.row (by decide) HNE.out); have HOt := Aside0.mk (by obtain ⟨v, r, f, h, _⟩ := HE.out.log; exact R32_keepL HE.out.own h hk); clear hl hb hk)
    obtain ⟨adh, ea, _, _, _, h2_⟩ := at_T32 (Kd.R_reads' HOt.out).2.2 0 (Int.le_refl _) (by have h1 := HPH.out; omega)
    subst ea
    have HCt := Aside0.mk (show Kd.C k32 wt (some adh) hs.length hs from (Kd.R_reads' HOt.out).2.2)
    have HHC := Aside0.mk (show hs.length ≤ ch from (Kd.R_reads' HOt.out).2.1)
    have hf0 : 1 ≤ (rd_T32 hs 0).f2 := by rw [show (0 : Int) = ((0 : Nat) : Int) from rfl, rd32_g hs 0 HPH.out]; exact HET.out.ev.pos _ (List.getElem_mem _)
    have hf1 : (rd_T32 hs 0).f2 ≤ ed := by rw [show (0 : Int) = ((0 : Nat) : Int) from rfl, rd32_g hs 0 HPH.out]; have h1 := HET.out.ev.asc _ (List.getElem_mem HPH.out); rw [HTN.out] at h1; exact h1
    have HTT := Aside0.mk (show T.total = ed / iv - ((rd_T32 hs 0).f2 - 1) / iv by have h1 := ev_n HET.out HHT.out HNH.out; rw [HTN.out] at h1; exact h1)
    generalize (rd_T32 hs 0).f2 = hf at h2_ hf0 hf1 HTT
    obtain ⟨qe, HQE⟩ : ∃ q, Aside0 (ed / iv = q) := ⟨_, ⟨rfl⟩⟩
    obtain ⟨qf, HQF⟩ : ∃ q, Aside0 ((hf - 1) / iv = q) := ⟨_, ⟨rfl⟩⟩
    rw [HQE.out, HQF.out] at HTT
    have HQB := Aside0.mk (show 0 ≤ qe ∧ qe ≤ 100000000 ∧ 0 ≤ qf ∧ qf ≤ 100000000 by
     have h1 := HIV.out
     have h2 := HED.out
     rw [← HQE.out, ← HQF.out]
     exact ⟨Int.ediv_nonneg h2.1 (by omega), Int.le_trans (Int.ediv_le_self _ h2.1) h2.2, Int.ediv_nonneg (by omega) (by omega), Int.le_trans (Int.ediv_le_self _ (by omega)) (by omega)⟩)
    have hq0 : ed.tdiv iv = qe := by rw [tdiv_nn HED.out.1, HQE.out]
    have hq1 : (hf - 1).tdiv iv = qf := by rw [tdiv_nn (by omega), HQF.out]
    have wf1 : wrap64 (hf - 1) = hf - 1 := by have h2 := HED.out; unfold wrap64; omega
    have wq0 : wrap64 qe = qe := by have h2 := HQB.out; unfold wrap64; omega
    have wq1 : wrap64 qf = qf := by have h2 := HQB.out; unfold wrap64; omega
    have wq2 : wrap64 (qe - qf) = qe - qf := by have h2 := HQB.out; unfold wrap64; omega
    have hz1 : (iv = 0) = False := eq_false (by have := HIV.out; omega)
    have hz2 : (iv == 0) = false := beq_false_of_ne (by have := HIV.out; omega)
    have n2 : (0 < (hs.length : Int)) = True := eq_true (by have h1 := HPH.out; omega)
    have n3 : (0 < hs.length) = True := eq_true HPH.out
    clear hf0 hf1
    have HLq := Aside0.mk HLt.out.drew
    have HRq := Aside0.mk (blk_drew HRt.out)
    have HBq := Aside0.mk (below_drew1 HBt.out)
    have HCq := Aside0.mk (Kd.C_drew HCt.out)
    refine start_ (n := 14) (S := fun w' => w'.cell? ⟨gr, 3, none⟩ = some (.int .i64 iv) ∧ w'.cell? ⟨adh.block, adh.off + 3, none⟩ = some (.int .i64 hf)) (ds := []) #[Yn, Yn, Yn, Yn, Yn, Yn, Yn, Yn, Yn, Yn, Yn, Yn, Yn, Yn] (by kernel_rfl) rfl rfl ⟨(blk_cell HRt.out 3).trans rfl, h2_⟩ (fun hHeld => ?_)
    generalize wt.drew = wq at HLq HRq HBq HCq hHeld ⊢
    clear h2_
    refine pure_ (i := 0) (N := some 97) (v := ?_) (a' := ?_) (Bz 14 0x1) rfl rfl (by kernel_rfl) (fun _ _ _ h => h) (Or.inl ⟨by rfl, ?_⟩) ?_ ?_
    rotate_left
    ·intro w'
     go_simp
     with_reducible rfl
    rotate_left
    ·simp only [Act.put, Z1, Z2, Z3, i64_w, i32_w]
     rfl
    refine pure_ (i := 1) (N := some 98) (v := ?_) (a' := ?_) (Bz 14 0x3) rfl rfl (by kernel_rfl) (fun _ _ _ h => h) (Or.inl ⟨by rfl, ?_⟩) ?_ ?_
    rotate_left
    ·intro w'
     go_simp
     with_reducible rfl
    rotate_left
    ·simp only [Act.put, Z1, Z2, Z3, i64_w, i32_w]
     rfl
    refine pure_ (i := 4) (N := some 101) (v := ?_) (a' := ?_) (Bz 14 0x13) rfl rfl (by kernel_rfl) (fun _ _ _ h => h) (Or.inl ⟨by rfl, ?_⟩) ?_ ?_
    rotate_left
    ·intro w'
     go_simp
     with_reducible rfl
    rotate_left
    ·simp only [Act.put, Z1, Z2, Z3, i64_w, i32_w]
     rfl
    refine pure_ (i := 5) (N := some 102) (v := ?_) (a' := ?_) (Bz 14 0x33) rfl rfl (by kernel_rfl) (fun _ _ _ h => h) (Or.inl ⟨by rfl, ?_⟩) ?_ ?_
    rotate_left
    ·intro w'
     go_simp
     with_reducible rfl
    rotate_left
    ·simp only [Act.put, Z1, Z2, Z3, i64_w, i32_w]
     rfl
    refine pure_ (i := 6) (N := some 103) (v := ?_) (a' := ?_) (Bz 14 0x73) rfl rfl (by kernel_rfl) (fun _ _ _ h => h) (Or.inl ⟨by rfl, ?_⟩) ?_ ?_
    rotate_left
    ·intro w'
     go_simp
     with_reducible rfl
    rotate_left
    ·simp only [Act.put, Z1, Z2, Z3, i64_w, i32_w]
     rfl
    refine pure_ (i := 9) (N := some 106) (v := ?_) (a' := ?_) (Bz 14 0x273) rfl rfl (by kernel_rfl) (fun _ _ _ h => h) (Or.inl ⟨by rfl, ?_⟩) ?_ ?_
    rotate_left
    ·intro w'
     go_simp
     with_reducible rfl
    rotate_left
    ·simp only [Act.put, Z1, Z2, Z3, i64_w, i32_w]
     rfl
    refine take_ (i := 2) (N := some 99) (v := ?_) (a' := ?_) (Bz 14 0x277) rfl rfl (by kernel_rfl) (fun _ _ _ h => h) (Or.inl ⟨by rfl, ?_⟩) hHeld ?_ ?_
    rotate_left
    ·rintro w' ⟨s0, s1⟩
     go_simp
     with_reducible rfl
    rotate_left
    ·simp only [Act.put, Z1, Z2, Z3, i64_w, i32_w]
     rfl
    refine pure_ (i := 3) (N := some 100) (v := ?_) (a' := ?_) (Bz 14 0x27f) rfl rfl (by kernel_rfl) (fun _ _ _ h => h) (Or.inl ⟨by rfl, ?_⟩) ?_ ?_
    rotate_left
    ·intro w'
     go_simp
     with_reducible rfl
    rotate_left
    ·simp only [Act.put, Z1, Z2, Z3, i64_w, i32_w]
     rfl
    refine take_ (i := 7) (N := some 104) (v := ?_) (a' := ?_) (Bz 14 0x2ff) rfl rfl (by kernel_rfl) (fun _ _ _ h => h) (Or.inl ⟨by rfl, ?_⟩) hHeld ?_ ?_
    rotate_left
    ·rintro w' ⟨s0, s1⟩
     go_simp
     with_reducible rfl
    rotate_left
    ·simp only [Act.put, Z1, Z2, Z3, i64_w, i32_w]
     rfl
    refine pure_ (i := 8) (N := some 105) (v := ?_) (a' := ?_) (Bz 14 0x3ff) rfl rfl (by kernel_rfl) (fun _ _ _ h => h) (Or.inl ⟨by rfl, ?_⟩) ?_ ?_
    rotate_left
    ·intro w'
     go_simp
     with_reducible rfl
    rotate_left
    ·simp only [Act.put, Z1, Z2, Z3, i64_w, i32_w]
     rfl
    refine take_ (i := 10) (N := some 107) (v := ?_) (a' := ?_) (Bz 14 0x7ff) rfl rfl (by kernel_rfl) (fun _ _ _ h => h) (Or.inl ⟨by rfl, ?_⟩) hHeld ?_ ?_
    rotate_left
    ·rintro w' ⟨s0, s1⟩
     go_simp
     with_reducible rfl
    rotate_left
    ·simp only [Act.put, Z1, Z2, Z3, i64_w, i32_w]
     rfl
    refine pure_ (i := 11) (N := some 108) (v := ?_) (a' := ?_) (Bz 14 0xfff) rfl rfl (by kernel_rfl) (fun _ _ _ h => h) (Or.inl ⟨by rfl, ?_⟩) ?_ ?_
    rotate_left
    ·intro w'
     go_simp
     with_reducible rfl
    rotate_left
    ·simp only [Act.put, Z1, Z2, Z3, i64_w, i32_w]
     rfl
    refine pure_ (i := 12) (N := some 109) (v := ?_) (a' := ?_) (Bz 14 0x1fff) rfl rfl (by kernel_rfl) (fun _ _ _ h => h) (Or.inl ⟨by rfl, ?_⟩) ?_ ?_
    rotate_left
    ·intro w'
     go_simp
     with_reducible rfl
    rotate_left
    ·simp only [Act.put, Z1, Z2, Z3, i64_w, i32_w]
     rfl
    refine pure_ (i := 13) (N := some 18) (v := ?_) (a' := ?_) (Bz 14 0x3fff) rfl rfl (by kernel_rfl) (fun _ _ _ h => h) (Or.inl ⟨by rfl, ?_⟩) ?_ ?_
    rotate_left
    ·intro w'
     go_simp
     with_reducible rfl
    rotate_left
    ·simp only [Act.put, Z1, Z2, Z3, i64_w, i32_w]
     rfl
    refine done_ (by kernel_rfl) ?_
    clear hHeld
    have t2 : (T.total != qe - qf) = false := by rw [HTT.out]; exact bne_self_eq_false _
    have t3 : (if sz < qe - qf then sz else qe - qf) = (T.recs.length : Int) := by have h1 := HHT.out.len_recs HOT.out; rw [HTZ.out, HTT.out] at h1; exact h1.symm
    have t4 : ((T.recs.length : Int) != (T.recs.length : Int)) = false := bne_self_eq_false _
    clear hq1 wf1 wq1 wq2 s1 s2 n2 n3
    go_wp2_with (first | (go_at_call 14; (with_reducible refine (records_calls B g T _ HLq.out (by have h1 := HOT.out.len; have h2 := HOT.out.s1; omega)).mono ?_); rintro e wz ⟨vr, rfl, hr, hb⟩; obtain ⟨Ar, cr, er, hcr, hCr⟩ := Kd.R_reads hr; have erb : vr = .slice Ar T.recs.length cr := er; clear er; subst erb; have HRC := Aside0.mk (show T.recs.length ≤ cr from hcr); have HRV := Aside0.mk (show Kd.C k44 wz Ar T.recs.length T.recs from hCr); have HBz := Aside0.mk (below_step HBq.out hb); have HLz := Aside0.mk (HLq.out.below hb); have HRz := Aside0.mk (blk_below HRq.out hb); have HCz := Aside0.mk (Kd.C_below HCq.out hb); have x5 := (blk_cell HRz.out 5).trans rfl; clear hr hb hcr hCr) | (go_at_call 12; (with_reducible refine (total_calls B g T _ HLz.out).mono ?_); rintro e wq ⟨rfl, rfl⟩))
    have HSC := HOT.out.s1
    have HLB := Aside0.mk (show (T.recs.length : Int) ≤ 1024 ∧ (T.recs.length : Int) ≤ qe by
     have h1 := HOT.out.len
     have h2 := HFO.out.chk.s1
     have h3 := HHT.out.len_recs HOT.out
     have h4 := HQB.out
     have h5 := HTT.out
     rw [HTZ.out] at h1
     refine ⟨by omega, ?_⟩
     rw [h3]
     unfold mn
     split <;> omega)
    clear HSC
    have HJ0 := Aside0.mk (show EJ nm pt iv st sz w gr (some adh) Ar hs T.recs _ from ⟨HBz.out, HRz.out, HCz.out, HRV.out⟩)
    go_loopg [20] T.recs.length (fun kq v20 wq => ∃ (y : Int), v20 = .int .i64 y ∧ Aside0 (0 ≤ y ∧ y + (kq : Int) = (T.recs.length : Int)) ∧ Aside0 (EJ nm pt iv st sz w gr (some adh) Ar hs T.recs wq))
    case atStart => exact ⟨0, rfl, ⟨by omega⟩, HJ0⟩
    case round =>
     obtain ⟨y, rfl, HYY, HJ⟩ := hrel
     clear HJ0 HLz HBz HRz HCz HRV t2 t3 t4 x5
     cases gk with
     | zero =>
      have q1 : decide (y < (T.recs.length : Int)) = false := decide_eq_false (by have h1 := HYY.out; omega)
      go_wp2
      go_ret
      exact ⟨rfl, HJ.out.bel⟩
     | succ k2 =>
      have hlt : y < (T.recs.length : Int) := by have h1 := HYY.out; omega
      have q1 : decide (y < (T.recs.length : Int)) = true := decide_eq_true hlt
      have hyw : wrap64 (y + 1) = y + 1 := by have h1 := HYY.out; have h2 := HLB.out; unfold wrap64; omega
      have p1 : (0 ≤ y) = True := eq_true HYY.out.1
      have p2 : (y < (T.recs.length : Int)) = True := eq_true hlt
      have HRE := Aside0.mk (show (rd_T44 T.recs y).f1 = (qe - (T.recs.length : Int) + 1 + y) * iv ∧ (rd_T44 T.recs y).f2 = (lastLE hs (rd_T44 T.recs y).f1).f0 ∧ (rd_T44 T.recs y).f3 = (lastLE hs (rd_T44 T.recs y).f1).f1 by
       obtain ⟨j, rfl⟩ : ∃ j : Nat, y = (j : Int) := ⟨y.toNat, by have h1 := HYY.out; omega⟩
       rw [rd44_g _ j (by omega)]
       have h1 := ev_rec HET.out HHT.out HNH.out j (by omega)
       rw [HTN.out, HQE.out] at h1
       exact h1)
      have u1 : wrap64 (qe - (T.recs.length : Int)) = qe - (T.recs.length : Int) := by have h2 := HLB.out; have h3 := HQB.out; unfold wrap64; omega
      have u2 : wrap64 (qe - (T.recs.length : Int) + 1) = qe - (T.recs.length : Int) + 1 := by have h2 := HLB.out; have h3 := HQB.out; unfold wrap64; omega
      have u3 : wrap64 (qe - (T.recs.length : Int) + 1 + y) = qe - (T.recs.length : Int) + 1 + y := by have h1 := HYY.out; have h2 := HLB.out; have h3 := HQB.out; unfold wrap64; omega
      have hmx : 0 ≤ (qe - (T.recs.length : Int) + 1 + y) * iv ∧ (qe - (T.recs.length : Int) + 1 + y) * iv ≤ ed := by
       have h1 := HYY.out
       have h2 := HLB.out
       have h3 := HIV.out
       refine ⟨Int.mul_nonneg (by omega) (by omega), ?_⟩
       have h4 : (qe - (T.recs.length : Int) + 1 + y) * iv ≤ qe * iv := Int.mul_le_mul_of_nonneg_right (by omega) (by omega)
       have h5 : qe * iv ≤ ed := by rw [← HQE.out]; exact Int.ediv_mul_le _ (by omega)
       omega
      have u4 : wrap64 ((qe - (T.recs.length : Int) + 1 + y) * iv) = (qe - (T.recs.length : Int) + 1 + y) * iv := by have h2 := HED.out; unfold wrap64; omega
      go_wp2
      have HJ1 := Aside0.mk HJ.out.drew
      obtain ⟨ad, e7, x0, x1, x2, x3, x4, x5⟩ := at_T44 HJ.out.cr y HYY.out.1 hlt
      subst e7
      have HMA := Aside0.mk (show ∀ wx : World, Kd.C k44 wx (some ad) T.recs.length T.recs → wx.cell? (ad.add (y.toNat * 6)) = some (.int .i64 (rd_T44 T.recs y).f0) ∧ wx.cell? ⟨(ad.add (y.toNat * 6)).block, (ad.add (y.toNat * 6)).off + 1, none⟩ = some (.int .i64 (rd_T44 T.recs y).f1) ∧ wx.cell? ⟨(ad.add (y.toNat * 6)).block, (ad.add (y.toNat * 6)).off + 2, none⟩ = some (.int .i64 (rd_T44 T.recs y).f2.f0) ∧ wx.cell? ⟨(ad.add (y.toNat * 6)).block, (ad.add (y.toNat * 6)).off + 3, none⟩ = some (.int .i64 (rd_T44 T.recs y).f2.f1) ∧ wx.cell? ⟨(ad.add (y.toNat * 6)).block, (ad.add (y.toNat * 6)).off + 4, none⟩ = some (.int .i64 (rd_T44 T.recs y).f3) ∧ wx.cell? ⟨(ad.add (y.toNat * 6)).block, (ad.add (y.toNat * 6)).off + 5, none⟩ = some (.int .i64 (rd_T44 T.recs y).f4) from fun wx hx => by
       obtain ⟨ad2, e2, g0, g1, g2, g3, g4, g5⟩ := at_T44 hx y HYY.out.1 hlt
       injection e2 with e2
       subst e2
       exact ⟨g0, g1, g2, g3, g4, g5⟩)
      clear hlt
      generalize rd_T44 T.recs y = m at x0 x1 x2 x3 x4 x5 HRE HMA
      have d1 : (m.f1 != (qe - (T.recs.length : Int) + 1 + y) * iv) = false := by rw [HRE.out.1]; exact bne_self_eq_false _
      clear HJ1 hmx
      have HJ2 := Aside0.mk HJ.out.drew
      refine start_ (n := 19) (S := fun w' => w'.cell? ⟨gr, 3, none⟩ = some (.int .i64 iv) ∧ w'.cell? (ad.add (y.toNat * 6)) = some (.int .i64 m.f0) ∧ w'.cell? ⟨(ad.add (y.toNat * 6)).block, (ad.add (y.toNat * 6)).off + 1, none⟩ = some (.int .i64 m.f1) ∧ w'.cell? ⟨(ad.add (y.toNat * 6)).block, (ad.add (y.toNat * 6)).off + 2, none⟩ = some (.int .i64 m.f2.f0) ∧ w'.cell? ⟨(ad.add (y.toNat * 6)).block, (ad.add (y.toNat * 6)).off + 3, none⟩ = some (.int .i64 m.f2.f1) ∧ w'.cell? ⟨(ad.add (y.toNat * 6)).block, (ad.add (y.toNat * 6)).off + 4, none⟩ = some (.int .i64 m.f3) ∧ w'.cell? ⟨(ad.add (y.toNat * 6)).block, (ad.add (y.toNat * 6)).off + 5, none⟩ = some (.int .i64 m.f4)) (ds := []) #[Yn, Yn, Yn, Yn, Yn, Yn, Yn, Yn, Yn, Yn, Yn, Yn, Yn, Yn, Yn, Yn, Yn, Yn, Yn] (by kernel_rfl) rfl rfl ⟨(blk_cell HJ.out.row 3).trans rfl, x0, x1, x2, x3, x4, x5⟩ (fun hHeld => ?_)
      generalize wr.drew = w5 at HJ2 hHeld ⊢
      clear x0 x1 x2 x3 x4 x5
      refine pure_ (i := 0) (N := some 131) (v := ?_) (a' := ?_) (Bz 19 0x1) rfl rfl (by kernel_rfl) (fun _ _ _ h => h) (Or.inl ⟨by rfl, ?_⟩) ?_ ?_
      rotate_left
      ·intro w'
       go_simp
       with_reducible rfl
      rotate_left
      ·simp only [Act.put, Z1, Z2, Z3, i64_w, i32_w]
       rfl
      refine pure_ (i := 1) (N := some 132) (v := ?_) (a' := ?_) (Bz 19 0x3) rfl rfl (by kernel_rfl) (fun _ _ _ h => h) (Or.inl ⟨by rfl, ?_⟩) ?_ ?_
      rotate_left
      ·intro w'
       go_simp
       with_reducible rfl
      rotate_left
      ·simp only [Act.put, Z1, Z2, Z3, i64_w, i32_w]
       rfl
      refine pure_ (i := 2) (N := some 133) (v := ?_) (a' := ?_) (Bz 19 0x7) rfl rfl (by kernel_rfl) (fun _ _ _ h => h) (Or.inl ⟨by rfl, ?_⟩) ?_ ?_
      rotate_left
      ·intro w'
       go_simp
       with_reducible rfl
      rotate_left
      ·simp only [Act.put, Z1, Z2, Z3, i64_w, i32_w]
       rfl
      refine pure_ (i := 3) (N := some 134) (v := ?_) (a' := ?_) (Bz 19 0xf) rfl rfl (by kernel_rfl) (fun _ _ _ h => h) (Or.inl ⟨by rfl, ?_⟩) ?_ ?_
      rotate_left
      ·intro w'
       go_simp
       with_reducible rfl
      rotate_left
      ·simp only [Act.put, Z1, Z2, Z3, i64_w, i32_w]
       rfl
      refine pure_ (i := 5) (N := some 136) (v := ?_) (a' := ?_) (Bz 19 0x2f) rfl rfl (by kernel_rfl) (fun _ _ _ h => h) (Or.inl ⟨by rfl, ?_⟩) ?_ ?_
      rotate_left
      ·intro w'
       go_simp
       with_reducible rfl
      rotate_left
      ·simp only [Act.put, Z1, Z2, Z3, i64_w, i32_w]
       rfl
      refine pure_ (i := 6) (N := some 137) (v := ?_) (a' := ?_) (Bz 19 0x6f) rfl rfl (by kernel_rfl) (fun _ _ _ h => h) (Or.inl ⟨by rfl, ?_⟩) ?_ ?_
      rotate_left
      ·intro w'
       go_simp
       with_reducible rfl
      rotate_left
      ·simp only [Act.put, Z1, Z2, Z3, i64_w, i32_w]
       rfl
      refine pure_ (i := 9) (N := some 140) (v := ?_) (a' := ?_) (Bz 19 0x26f) rfl rfl (by kernel_rfl) (fun _ _ _ h => h) (Or.inl ⟨by rfl, ?_⟩) ?_ ?_
      rotate_left
      ·intro w'
       go_simp
       with_reducible rfl
      rotate_left
      ·simp only [Act.put, Z1, Z2, Z3, i64_w, i32_w]
       rfl
      refine pure_ (i := 10) (N := some 141) (v := ?_) (a' := ?_) (Bz 19 0x66f) rfl rfl (by kernel_rfl) (fun _ _ _ h => h) (Or.inl ⟨by rfl, ?_⟩) ?_ ?_
      rotate_left
      ·intro w'
       go_simp
       with_reducible rfl
      rotate_left
      ·simp only [Act.put, Z1, Z2, Z3, i64_w, i32_w]
       rfl
      refine pure_ (i := 13) (N := some 144) (v := ?_) (a' := ?_) (Bz 19 0x266f) rfl rfl (by kernel_rfl) (fun _ _ _ h => h) (Or.inl ⟨by rfl, ?_⟩) ?_ ?_
      rotate_left
      ·intro w'
       go_simp
       with_reducible rfl
      rotate_left
      ·simp only [Act.put, Z1, Z2, Z3, i64_w, i32_w]
       rfl
      refine pure_ (i := 15) (N := some 146) (v := ?_) (a' := ?_) (Bz 19 0xa66f) rfl rfl (by kernel_rfl) (fun _ _ _ h => h) (Or.inl ⟨by rfl, ?_⟩) ?_ ?_
      rotate_left
      ·intro w'
       go_simp
       with_reducible rfl
      rotate_left
      ·simp only [Act.put, Z1, Z2, Z3, i64_w, i32_w]
       rfl
      refine take_ (i := 4) (N := some 135) (v := ?_) (a' := ?_) (Bz 19 0xa67f) rfl rfl (by kernel_rfl) (fun _ _ _ h => h) (Or.inl ⟨by rfl, ?_⟩) hHeld ?_ ?_
      rotate_left
      ·rintro w' ⟨s0, s1, s2, s3, s4, s5, s6⟩
       go_simp
       with_reducible rfl
      rotate_left
      ·simp only [Act.put, Z1, Z2, Z3, i64_w, i32_w]
       rfl
      refine take_ (i := 7) (N := some 138) (v := ?_) (a' := ?_) (Bz 19 0xa6ff) rfl rfl (by kernel_rfl) (fun _ _ _ h => h) (Or.inl ⟨by rfl, ?_⟩) hHeld ?_ ?_
      rotate_left
      ·rintro w' ⟨s0, s1, s2, s3, s4, s5, s6⟩
       go_simp
       with_reducible rfl
      rotate_left
      ·simp only [Act.put, Z1, Z2, Z3, i64_w, i32_w]
       rfl
      refine pure_ (i := 8) (N := some 139) (v := ?_) (a' := ?_) (Bz 19 0xa7ff) rfl rfl (by kernel_rfl) (fun _ _ _ h => h) (Or.inl ⟨by rfl, ?_⟩) ?_ ?_
      rotate_left
      ·intro w'
       go_simp
       with_reducible rfl
      rotate_left
      ·simp only [Act.put, Z1, Z2, Z3, i64_w, i32_w]
       rfl
      refine pure_ (i := 11) (N := some 142) (v := ?_) (a' := ?_) (Bz 19 0xafff) rfl rfl (by kernel_rfl) (fun _ _ _ h => h) (Or.inl ⟨by rfl, ?_⟩) ?_ ?_
      rotate_left
      ·intro w'
       go_simp
       with_reducible rfl
      rotate_left
      ·simp only [Act.put, Z1, Z2, Z3, i64_w, i32_w]
       rfl
      refine pure_ (i := 12) (N := some 143) (v := ?_) (a' := ?_) (Bz 19 0xbfff) rfl rfl (by kernel_rfl) (fun _ _ _ h => h) (Or.inl ⟨by rfl, ?_⟩) ?_ ?_
      rotate_left
      ·intro w'
       go_simp
       with_reducible rfl
      rotate_left
      ·simp only [Act.put, Z1, Z2, Z3, i64_w, i32_w]
       rfl
      refine pure_ (i := 14) (N := some 145) (v := ?_) (a' := ?_) (Bz 19 0xffff) rfl rfl (by kernel_rfl) (fun _ _ _ h => h) (Or.inl ⟨by rfl, ?_⟩) ?_ ?_
      rotate_left
      ·intro w'
       go_simp
       with_reducible rfl
      rotate_left
      ·simp only [Act.put, Z1, Z2, Z3, i64_w, i32_w]
       rfl
      refine take_ (i := 16) (N := some 147) (v := ?_) (a' := ?_) (Bz 19 0x1ffff) rfl rfl (by kernel_rfl) (fun _ _ _ h => h) (Or.inl ⟨by rfl, ?_⟩) hHeld ?_ ?_
      rotate_left
      ·rintro w' ⟨s0, s1, s2, s3, s4, s5, s6⟩
       go_simp
       with_reducible rfl
      rotate_left
      ·simp only [Act.put, Z1, Z2, Z3, i64_w, i32_w]
       rfl
      refine pure_ (i := 17) (N := some 148) (v := ?_) (a' := ?_) (Bz 19 0x3ffff) rfl rfl (by kernel_rfl) (fun _ _ _ h => h) (Or.inl ⟨by rfl, ?_⟩) ?_ ?_
      rotate_left
      ·intro w'
       go_simp
       with_reducible rfl
      rotate_left
      ·simp only [Act.put, Z1, Z2, Z3, i64_w, i32_w]
       rfl
      refine pure_ (i := 18) (N := some 149) (v := ?_) (a' := ?_) (Bz 19 0x7ffff) rfl rfl (by kernel_rfl) (fun _ _ _ h => h) (Or.inl ⟨by rfl, ?_⟩) ?_ ?_
      rotate_left
      ·intro w'
       go_simp
       with_reducible rfl
      rotate_left
      ·simp only [Act.put, Z1, Z2, Z3, i64_w, i32_w]
       rfl
      refine done_ (by kernel_rfl) ?_
      clear hHeld
      clear d1 u1 u2 u3 u4
      go_wp2_with (first | ((with_reducible refine gate_dst (N := 21) rfl ?_); refine box_event ?hg (N := 21) ?hd (cs := #[.int .i64 0, .int .i64 0, .int .i64 0, .int .i64 0]) (t := 32) ?hr ?_; (case hd => rfl); (case hg => rfl); (case hr => first | (go_simp; done) | (go_simp; rfl)); intro gy hgy wy hbox hb; have HY3 := Aside0.mk hbox; have HBY := Aside0.mk hb; have HGY := Aside0.mk (Nat.le_of_eq hgy.symm); clear hb hbox hgy) | (refine wpList_store_row rfl 32 (.tmp 21) (.tmp 150) rfl gy #[.int .i64 0, .int .i64 0, .int .i64 0, .int .i64 0] rfl rfl 32 #[.int .i64 0, .int .i64 0, .int .i64 0, .int .i64 0] HY3.out (by kernel_rfl) rfl (by simp [Value.oneCell']) ?_; have HY4 := Aside0.mk (setRow_heap _ _ _ #[.int .i64 0, .int .i64 0, .int .i64 0, .int .i64 0] _ _ HY3.out); have HB4 := Aside0.mk (below_setRow HBY.out HGY.out #[.int .i64 0, .int .i64 0, .int .i64 0, .int .i64 0]); generalize wy.setRow gy #[.int .i64 0, .int .i64 0, .int .i64 0, .int .i64 0] = wv at HY4 HB4 ⊢; skip))
      have HJ4 := Aside0.mk (HJ2.out.below HB4.out)
      have HX0 := Aside0.mk (show EX w5 gy z32 wv from ⟨HB4.out, HY4.out⟩)
      go_loopg [22] hs.length (fun kq v22 wq => ∃ (j : Int), v22 = .int .i64 j ∧ Aside0 (0 ≤ j ∧ j + (kq : Int) = (hs.length : Int)) ∧ Aside0 (EX w5 gy (lastLE (hs.take j.toNat) m.f1) wq))
      case atStart => exact ⟨0, rfl, ⟨by omega⟩, HX0⟩
      case round =>
       obtain ⟨j, rfl, HJJ, HX⟩ := hrel
       clear HX0 HB4 HY4 HJ4
       have HJx := Aside0.mk (HJ2.out.below HX.out.bel)
       cases gk with
       | zero =>
        have q2 : decide (j < (hs.length : Int)) = false := decide_eq_false (by have h1 := HJJ.out; omega)
        have hta : hs.take j.toNat = hs := List.take_of_length_le (by have h1 := HJJ.out; omega)
        rw [hta] at HX
        clear hta
        obtain ⟨x0, x1, x2, x3, x4, x5⟩ := HMA.out _ HJx.out.cr
        have hm2 := HRE.out.2.1
        have hm3 := HRE.out.2.2
        generalize lastLE hs m.f1 = x at HX hm2 hm3
        have hk2 : m.f2.f0 = x.f0.f0 := by rw [hm2]
        have hn2 : m.f2.f1 = x.f0.f1 := by rw [hm2]
        rw [hk2] at x2
        rw [hn2] at x3
        rw [hm3] at x4
        clear hm2 hm3 hk2 hn2 x0 x1 x5
        go_wp2
        have HBb := Aside0.mk (below_drew1 HX.out.bel)
        refine start_ (n := 18) (S := fun w' => w'.cell? ⟨gy, 0, none⟩ = some (.int .i64 x.f0.f0) ∧ w'.cell? ⟨gy, 1, none⟩ = some (.int .i64 x.f0.f1) ∧ w'.cell? ⟨gy, 2, none⟩ = some (.int .i64 x.f1) ∧ w'.cell? ⟨gy, 3, none⟩ = some (.int .i64 x.f2) ∧ w'.cell? ⟨(ad.add (y.toNat * 6)).block, (ad.add (y.toNat * 6)).off + 2, none⟩ = some (.int .i64 x.f0.f0) ∧ w'.cell? ⟨(ad.add (y.toNat * 6)).block, (ad.add (y.toNat * 6)).off + 3, none⟩ = some (.int .i64 x.f0.f1) ∧ w'.cell? ⟨(ad.add (y.toNat * 6)).block, (ad.add (y.toNat * 6)).off + 4, none⟩ = some (.int .i64 x.f1)) (ds := []) #[Yn, Yn, Yn, Yn, Yn, Yn, Yn, Yn, Yn, Yn, Yn, Yn, Yn, Yn, Yn, Yn, Yn, Yn] (by kernel_rfl) rfl rfl ⟨(blk_cell HX.out.y 0).trans rfl, (blk_cell HX.out.y 1).trans rfl, (blk_cell HX.out.y 2).trans rfl, (blk_cell HX.out.y 3).trans rfl, x2, x3, x4⟩ (fun hHeld => ?_)
        generalize wr.drew = wb at HBb hHeld ⊢
        clear x2 x3 x4
        refine pure_ (i := 0) (N := some 172) (v := ?_) (a' := ?_) (Bz 18 0x1) rfl rfl (by kernel_rfl) (fun _ _ _ h => h) (Or.inl ⟨by rfl, ?_⟩) ?_ ?_
        rotate_left
        ·intro w'
         go_simp
         with_reducible rfl
        rotate_left
        ·simp only [Act.put, Z1, Z2, Z3, i64_w, i32_w]
         rfl
        refine pure_ (i := 2) (N := some 174) (v := ?_) (a' := ?_) (Bz 18 0x5) rfl rfl (by kernel_rfl) (fun _ _ _ h => h) (Or.inl ⟨by rfl, ?_⟩) ?_ ?_
        rotate_left
        ·intro w'
         go_simp
         with_reducible rfl
        rotate_left
        ·simp only [Act.put, Z1, Z2, Z3, i64_w, i32_w]
         rfl
        refine pure_ (i := 3) (N := some 175) (v := ?_) (a' := ?_) (Bz 18 0xd) rfl rfl (by kernel_rfl) (fun _ _ _ h => h) (Or.inl ⟨by rfl, ?_⟩) ?_ ?_
        rotate_left
        ·intro w'
         go_simp
         with_reducible rfl
        rotate_left
        ·simp only [Act.put, Z1, Z2, Z3, i64_w, i32_w]
         rfl
        refine pure_ (i := 4) (N := some 176) (v := ?_) (a' := ?_) (Bz 18 0x1d) rfl rfl (by kernel_rfl) (fun _ _ _ h => h) (Or.inl ⟨by rfl, ?_⟩) ?_ ?_
        rotate_left
        ·intro w'
         go_simp
         with_reducible rfl
        rotate_left
        ·simp only [Act.put, Z1, Z2, Z3, i64_w, i32_w]
         rfl
        refine pure_ (i := 5) (N := some 177) (v := ?_) (a' := ?_) (Bz 18 0x3d) rfl rfl (by kernel_rfl) (fun _ _ _ h => h) (Or.inl ⟨by rfl, ?_⟩) ?_ ?_
        rotate_left
        ·intro w'
         go_simp
         with_reducible rfl
        rotate_left
        ·simp only [Act.put, Z1, Z2, Z3, i64_w, i32_w]
         rfl
        refine take_ (i := 1) (N := some 173) (v := ?_) (a' := ?_) (Bz 18 0x3f) rfl rfl (by kernel_rfl) (fun _ _ _ h => h) (Or.inl ⟨by rfl, ?_⟩) hHeld ?_ ?_
        rotate_left
        ·rintro w' ⟨s0, s1, s2, s3, s4, s5, s6⟩
         go_simp
         with_reducible rfl
        rotate_left
        ·simp only [Act.put, Z1, Z2, Z3, i64_w, i32_w]
         rfl
        refine take_ (i := 6) (N := some 178) (v := ?_) (a' := ?_) (Bz 18 0x7f) rfl rfl (by kernel_rfl) (fun _ _ _ h => h) (Or.inl ⟨by rfl, ?_⟩) hHeld ?_ ?_
        rotate_left
        ·rintro w' ⟨s0, s1, s2, s3, s4, s5, s6⟩
         go_simp
         with_reducible rfl
        rotate_left
        ·simp only [Act.put, Z1, Z2, Z3, i64_w, i32_w]
         rfl
        refine pure_ (i := 7) (N := some 179) (v := ?_) (a' := ?_) (Bz 18 0xff) rfl rfl (by kernel_rfl) (fun _ _ _ h => h) (Or.inl ⟨by rfl, ?_⟩) ?_ ?_
        rotate_left
        ·intro w'
         go_simp
         with_reducible rfl
        rotate_left
        ·simp only [Act.put, Z1, Z2, Z3, i64_w, i32_w]
         rfl
        refine pure_ (i := 8) (N := some 180) (v := ?_) (a' := ?_) (Bz 18 0x1ff) rfl rfl (by kernel_rfl) (fun _ _ _ h => h) (Or.inl ⟨by rfl, ?_⟩) ?_ ?_
        rotate_left
        ·intro w'
         go_simp
         with_reducible rfl
        rotate_left
        ·simp only [Act.put, Z1, Z2, Z3, i64_w, i32_w]
         rfl
        refine pure_ (i := 9) (N := some 181) (v := ?_) (a' := ?_) (Bz 18 0x3ff) rfl rfl (by kernel_rfl) (fun _ _ _ h => h) (Or.inl ⟨by rfl, ?_⟩) ?_ ?_
        rotate_left
        ·intro w'
         go_simp
         with_reducible rfl
        rotate_left
        ·simp only [Act.put, Z1, Z2, Z3, i64_w, i32_w]
         rfl
        refine pure_ (i := 11) (N := some 183) (v := ?_) (a' := ?_) (Bz 18 0xbff) rfl rfl (by kernel_rfl) (fun _ _ _ h => h) (Or.inl ⟨by rfl, ?_⟩) ?_ ?_
        rotate_left
        ·intro w'
         go_simp
         with_reducible rfl
        rotate_left
        ·simp only [Act.put, Z1, Z2, Z3, i64_w, i32_w]
         rfl
        refine pure_ (i := 12) (N := some 184) (v := ?_) (a' := ?_) (Bz 18 0x1bff) rfl rfl (by kernel_rfl) (fun _ _ _ h => h) (Or.inl ⟨by rfl, ?_⟩) ?_ ?_
        rotate_left
        ·intro w'
         go_simp
         with_reducible rfl
        rotate_left
        ·simp only [Act.put, Z1, Z2, Z3, i64_w, i32_w]
         rfl
        refine pure_ (i := 13) (N := some 185) (v := ?_) (a' := ?_) (Bz 18 0x3bff) rfl rfl (by kernel_rfl) (fun _ _ _ h => h) (Or.inl ⟨by rfl, ?_⟩) ?_ ?_
        rotate_left
        ·intro w'
         go_simp
         with_reducible rfl
        rotate_left
        ·simp only [Act.put, Z1, Z2, Z3, i64_w, i32_w]
         rfl
        refine pure_ (i := 14) (N := some 186) (v := ?_) (a' := ?_) (Bz 18 0x7bff) rfl rfl (by kernel_rfl) (fun _ _ _ h => h) (Or.inl ⟨by rfl, ?_⟩) ?_ ?_
        rotate_left
        ·intro w'
         go_simp
         with_reducible rfl
        rotate_left
        ·simp only [Act.put, Z1, Z2, Z3, i64_w, i32_w]
         rfl
        refine take_ (i := 10) (N := some 182) (v := ?_) (a' := ?_) (Bz 18 0x7fff) rfl rfl (by kernel_rfl) (fun _ _ _ h => h) (Or.inl ⟨by rfl, ?_⟩) hHeld ?_ ?_
        rotate_left
        ·rintro w' ⟨s0, s1, s2, s3, s4, s5, s6⟩
         go_simp
         with_reducible rfl
        rotate_left
        ·simp only [Act.put, Z1, Z2, Z3, i64_w, i32_w]
         rfl
        refine take_ (i := 15) (N := some 187) (v := ?_) (a' := ?_) (Bz 18 0xffff) rfl rfl (by kernel_rfl) (fun _ _ _ h => h) (Or.inl ⟨by rfl, ?_⟩) hHeld ?_ ?_
        rotate_left
        ·rintro w' ⟨s0, s1, s2, s3, s4, s5, s6⟩
         go_simp
         with_reducible rfl
        rotate_left
        ·simp only [Act.put, Z1, Z2, Z3, i64_w, i32_w]
         rfl
        refine pure_ (i := 16) (N := some 188) (v := ?_) (a' := ?_) (Bz 18 0x1ffff) rfl rfl (by kernel_rfl) (fun _ _ _ h => h) (Or.inl ⟨by rfl, ?_⟩) ?_ ?_
        rotate_left
        ·intro w'
         go_simp
         with_reducible rfl
        rotate_left
        ·simp only [Act.put, Z1, Z2, Z3, i64_w, i32_w]
         rfl
        refine pure_ (i := 17) (N := some 189) (v := ?_) (a' := ?_) (Bz 18 0x3ffff) rfl rfl (by kernel_rfl) (fun _ _ _ h => h) (Or.inl ⟨by rfl, ?_⟩) ?_ ?_
        rotate_left
        ·intro w'
         go_simp
         with_reducible rfl
        rotate_left
        ·simp only [Act.put, Z1, Z2, Z3, i64_w, i32_w]
         rfl
        refine done_ (by kernel_rfl) ?_
        clear hHeld
        go_wp2
        go_roundg k2
        case measure => omega
        case rel => exact ⟨y + 1, (by first | rfl | (rw [hyw])), ⟨by have h1 := HYY.out; omega⟩, ⟨HJ2.out.below HBb.out⟩⟩
       | succ k3 =>
        have hlj : j < (hs.length : Int) := by have h1 := HJJ.out; omega
        have q2 : decide (j < (hs.length : Int)) = true := decide_eq_true hlj
        have hjw : wrap64 (j + 1) = j + 1 := by have h1 := HJJ.out; have h2 := HHL.out; unfold wrap64; omega
        have p3 : (0 ≤ j) = True := eq_true HJJ.out.1
        have p4 : (j < (hs.length : Int)) = True := eq_true hlj
        have HSTP := Aside0.mk (show lastLE (hs.take (j + 1).toNat) m.f1 = if (rd_T32 hs j).f2 ≤ m.f1 then rd_T32 hs j else lastLE (hs.take j.toNat) m.f1 by
         obtain ⟨q, rfl⟩ : ∃ q : Nat, j = (q : Int) := ⟨j.toNat, by have h1 := HJJ.out; omega⟩
         rw [show ((q : Int) + 1).toNat = q + 1 by omega, rd32_g _ q (by omega), Int.toNat_natCast]
         exact lastLE_take hs q (by omega) m.f1)
        obtain ⟨ad3, e8, q0_, _, _, _⟩ := at_T32 HJx.out.ch j HJJ.out.1 hlj
        injection e8 with e8
        subst e8
        have HPA := Aside0.mk (show ∀ wx : World, Kd.C k32 wx (some adh) hs.length hs → wx.cell? (adh.add (j.toNat * 4)) = some (.int .i64 (rd_T32 hs j).f0.f0) ∧ wx.cell? ⟨(adh.add (j.toNat * 4)).block, (adh.add (j.toNat * 4)).off + 1, none⟩ = some (.int .i64 (rd_T32 hs j).f0.f1) ∧ wx.cell? ⟨(adh.add (j.toNat * 4)).block, (adh.add (j.toNat * 4)).off + 2, none⟩ = some (.int .i64 (rd_T32 hs j).f1) ∧ wx.cell? ⟨(adh.add (j.toNat * 4)).block, (adh.add (j.toNat * 4)).off + 3, none⟩ = some (.int .i64 (rd_T32 hs j).f2) from fun wx hx => by
         obtain ⟨ad2, e2, g0, g1, g2, g3⟩ := at_T32 hx j HJJ.out.1 hlj
         injection e2 with e2
         subst e2
         exact ⟨g0, g1, g2, g3⟩)
        obtain ⟨x0, x1, x2, x3, x4, x5⟩ := HMA.out _ HJx.out.cr
        clear q0_
        obtain ⟨q0, q1, q2_, q3⟩ := HPA.out _ HJx.out.ch
        clear hlj
        generalize rd_T32 hs j = p at q0 q1 q2_ q3 HPA HSTP
        generalize lastLE (hs.take j.toNat) m.f1 = x at HX HSTP
        go_wp2
        by_cases kp : p.f2 ≤ m.f1
        ·have kpb : decide (p.f2 ≤ m.f1) = true := decide_eq_true kp
         rw [if_pos kp] at HSTP
         clear kp
         have HYb := Aside0.mk (blk_drew HX.out.y)
         have HBb := Aside0.mk (below_drew1 HX.out.bel)
         refine start_ (n := 11) (S := fun w' => w'.cell? ⟨(adh.add (j.toNat * 4)).block, (adh.add (j.toNat * 4)).off + 3, none⟩ = some (.int .i64 p.f2) ∧ w'.cell? ⟨(ad.add (y.toNat * 6)).block, (ad.add (y.toNat * 6)).off + 1, none⟩ = some (.int .i64 m.f1)) (ds := []) #[Yn, Yn, Yn, Yn, Yn, Yn, Yn, Yn, Yn, Yn, Yn] (by kernel_rfl) rfl rfl ⟨q3, x1⟩ (fun hHeld => ?_)
         generalize wr.drew = wb at HYb HBb hHeld ⊢
         clear q0 q1 q2_ q3 x0 x1 x2 x3 x4 x5
         refine pure_ (i := 0) (N := some 157) (v := ?_) (a' := ?_) (Bz 11 0x1) rfl rfl (by kernel_rfl) (fun _ _ _ h => h) (Or.inl ⟨by rfl, ?_⟩) ?_ ?_
         rotate_left
         ·intro w'
          go_simp
          with_reducible rfl
         rotate_left
         ·simp only [Act.put, Z1, Z2, Z3, i64_w, i32_w]
          rfl
         refine pure_ (i := 1) (N := some 158) (v := ?_) (a' := ?_) (Bz 11 0x3) rfl rfl (by kernel_rfl) (fun _ _ _ h => h) (Or.inl ⟨by rfl, ?_⟩) ?_ ?_
         rotate_left
         ·intro w'
          go_simp
          with_reducible rfl
         rotate_left
         ·simp only [Act.put, Z1, Z2, Z3, i64_w, i32_w]
          rfl
         refine pure_ (i := 2) (N := some 159) (v := ?_) (a' := ?_) (Bz 11 0x7) rfl rfl (by kernel_rfl) (fun _ _ _ h => h) (Or.inl ⟨by rfl, ?_⟩) ?_ ?_
         rotate_left
         ·intro w'
          go_simp
          with_reducible rfl
         rotate_left
         ·simp only [Act.put, Z1, Z2, Z3, i64_w, i32_w]
          rfl
         refine pure_ (i := 3) (N := some 160) (v := ?_) (a' := ?_) (Bz 11 0xf) rfl rfl (by kernel_rfl) (fun _ _ _ h => h) (Or.inl ⟨by rfl, ?_⟩) ?_ ?_
         rotate_left
         ·intro w'
          go_simp
          with_reducible rfl
         rotate_left
         ·simp only [Act.put, Z1, Z2, Z3, i64_w, i32_w]
          rfl
         refine pure_ (i := 5) (N := some 162) (v := ?_) (a' := ?_) (Bz 11 0x2f) rfl rfl (by kernel_rfl) (fun _ _ _ h => h) (Or.inl ⟨by rfl, ?_⟩) ?_ ?_
         rotate_left
         ·intro w'
          go_simp
          with_reducible rfl
         rotate_left
         ·simp only [Act.put, Z1, Z2, Z3, i64_w, i32_w]
          rfl
         refine pure_ (i := 6) (N := some 163) (v := ?_) (a' := ?_) (Bz 11 0x6f) rfl rfl (by kernel_rfl) (fun _ _ _ h => h) (Or.inl ⟨by rfl, ?_⟩) ?_ ?_
         rotate_left
         ·intro w'
          go_simp
          with_reducible rfl
         rotate_left
         ·simp only [Act.put, Z1, Z2, Z3, i64_w, i32_w]
          rfl
         refine pure_ (i := 7) (N := some 164) (v := ?_) (a' := ?_) (Bz 11 0xef) rfl rfl (by kernel_rfl) (fun _ _ _ h => h) (Or.inl ⟨by rfl, ?_⟩) ?_ ?_
         rotate_left
         ·intro w'
          go_simp
          with_reducible rfl
         rotate_left
         ·simp only [Act.put, Z1, Z2, Z3, i64_w, i32_w]
          rfl
         refine pure_ (i := 8) (N := some 165) (v := ?_) (a' := ?_) (Bz 11 0x1ef) rfl rfl (by kernel_rfl) (fun _ _ _ h => h) (Or.inl ⟨by rfl, ?_⟩) ?_ ?_
         rotate_left
         ·intro w'
          go_simp
          with_reducible rfl
         rotate_left
         ·simp only [Act.put, Z1, Z2, Z3, i64_w, i32_w]
          rfl
         refine take_ (i := 4) (N := some 161) (v := ?_) (a' := ?_) (Bz 11 0x1ff) rfl rfl (by kernel_rfl) (fun _ _ _ h => h) (Or.inl ⟨by rfl, ?_⟩) hHeld ?_ ?_
         rotate_left
         ·rintro w' ⟨s0, s1⟩
          go_simp
          with_reducible rfl
         rotate_left
         ·simp only [Act.put, Z1, Z2, Z3, i64_w, i32_w]
          rfl
         refine take_ (i := 9) (N := some 166) (v := ?_) (a' := ?_) (Bz 11 0x3ff) rfl rfl (by kernel_rfl) (fun _ _ _ h => h) (Or.inl ⟨by rfl, ?_⟩) hHeld ?_ ?_
         rotate_left
         ·rintro w' ⟨s0, s1⟩
          go_simp
          with_reducible rfl
         rotate_left
         ·simp only [Act.put, Z1, Z2, Z3, i64_w, i32_w]
          rfl
         refine pure_ (i := 10) (N := some 167) (v := ?_) (a' := ?_) (Bz 11 0x7ff) rfl rfl (by kernel_rfl) (fun _ _ _ h => h) (Or.inl ⟨by rfl, ?_⟩) ?_ ?_
         rotate_left
         ·intro w'
          go_simp
          with_reducible rfl
         rotate_left
         ·simp only [Act.put, Z1, Z2, Z3, i64_w, i32_w]
          rfl
         refine done_ (by kernel_rfl) ?_
         clear hHeld
         have HJ5 := Aside0.mk (HJ2.out.below HBb.out)
         obtain ⟨q0, q1, q2_, q3⟩ := HPA.out _ HJ5.out.ch
         go_wp2_with (refine wpList_store_row rfl 32 (.tmp 21) (.tmp 171) rfl gy #[.int .i64 p.f0.f0, .int .i64 p.f0.f1, .int .i64 p.f1, .int .i64 p.f2] rfl rfl 32 #[.int .i64 x.f0.f0, .int .i64 x.f0.f1, .int .i64 x.f1, .int .i64 x.f2] HYb.out (by kernel_rfl) rfl (by simp [Value.oneCell']) ?_; have HY6 := Aside0.mk (setRow_heap _ _ _ #[.int .i64 p.f0.f0, .int .i64 p.f0.f1, .int .i64 p.f1, .int .i64 p.f2] _ _ HYb.out); have HB6 := Aside0.mk (below_setRow HBb.out HGY.out #[.int .i64 p.f0.f0, .int .i64 p.f0.f1, .int .i64 p.f1, .int .i64 p.f2]); generalize wb.setRow gy #[.int .i64 p.f0.f0, .int .i64 p.f0.f1, .int .i64 p.f1, .int .i64 p.f2] = wx at HY6 HB6 ⊢; skip)
         go_roundg k3
         case measure => omega
         case rel => exact ⟨j + 1, (by first | rfl | (rw [hjw])), ⟨by have h1 := HJJ.out; omega⟩, ⟨by rw [HSTP.out]; exact ⟨HB6.out, HY6.out⟩⟩⟩
        ·have kpb : decide (p.f2 ≤ m.f1) = false := decide_eq_false kp
         rw [if_neg kp] at HSTP
         clear kp
         have HYb := Aside0.mk (blk_drew HX.out.y)
         have HBb := Aside0.mk (below_drew1 HX.out.bel)
         refine start_ (n := 11) (S := fun w' => w'.cell? ⟨(adh.add (j.toNat * 4)).block, (adh.add (j.toNat * 4)).off + 3, none⟩ = some (.int .i64 p.f2) ∧ w'.cell? ⟨(ad.add (y.toNat * 6)).block, (ad.add (y.toNat * 6)).off + 1, none⟩ = some (.int .i64 m.f1)) (ds := []) #[Yn, Yn, Yn, Yn, Yn, Yn, Yn, Yn, Yn, Yn, Yn] (by kernel_rfl) rfl rfl ⟨q3, x1⟩ (fun hHeld => ?_)
         generalize wr.drew = wb at HYb HBb hHeld ⊢
         clear q0 q1 q2_ q3 x0 x1 x2 x3 x4 x5
         refine pure_ (i := 0) (N := some 157) (v := ?_) (a' := ?_) (Bz 11 0x1) rfl rfl (by kernel_rfl) (fun _ _ _ h => h) (Or.inl ⟨by rfl, ?_⟩) ?_ ?_
         rotate_left
         ·intro w'
          go_simp
          with_reducible rfl
         rotate_left
         ·simp only [Act.put, Z1, Z2, Z3, i64_w, i32_w]
          rfl
         refine pure_ (i := 1) (N := some 158) (v := ?_) (a' := ?_) (Bz 11 0x3) rfl rfl (by kernel_rfl) (fun _ _ _ h => h) (Or.inl ⟨by rfl, ?_⟩) ?_ ?_
         rotate_left
         ·intro w'
          go_simp
          with_reducible rfl
         rotate_left
         ·simp only [Act.put, Z1, Z2, Z3, i64_w, i32_w]
          rfl
         refine pure_ (i := 2) (N := some 159) (v := ?_) (a' := ?_) (Bz 11 0x7) rfl rfl (by kernel_rfl) (fun _ _ _ h => h) (Or.inl ⟨by rfl, ?_⟩) ?_ ?_
         rotate_left
         ·intro w'
          go_simp
          with_reducible rfl
         rotate_left
         ·simp only [Act.put, Z1, Z2, Z3, i64_w, i32_w]
          rfl
         refine pure_ (i := 3) (N := some 160) (v := ?_) (a' := ?_) (Bz 11 0xf) rfl rfl (by kernel_rfl) (fun _ _ _ h => h) (Or.inl ⟨by rfl, ?_⟩) ?_ ?_
         rotate_left
         ·intro w'
          go_simp
          with_reducible rfl
         rotate_left
         ·simp only [Act.put, Z1, Z2, Z3, i64_w, i32_w]
          rfl
         refine pure_ (i := 5) (N := some 162) (v := ?_) (a' := ?_) (Bz 11 0x2f) rfl rfl (by kernel_rfl) (fun _ _ _ h => h) (Or.inl ⟨by rfl, ?_⟩) ?_ ?_
         rotate_left
         ·intro w'
          go_simp
          with_reducible rfl
         rotate_left
         ·simp only [Act.put, Z1, Z2, Z3, i64_w, i32_w]
          rfl
         refine pure_ (i := 6) (N := some 163) (v := ?_) (a' := ?_) (Bz 11 0x6f) rfl rfl (by kernel_rfl) (fun _ _ _ h => h) (Or.inl ⟨by rfl, ?_⟩) ?_ ?_
         rotate_left
         ·intro w'
          go_simp
          with_reducible rfl
         rotate_left
         ·simp only [Act.put, Z1, Z2, Z3, i64_w, i32_w]
          rfl
         refine pure_ (i := 7) (N := some 164) (v := ?_) (a' := ?_) (Bz 11 0xef) rfl rfl (by kernel_rfl) (fun _ _ _ h => h) (Or.inl ⟨by rfl, ?_⟩) ?_ ?_
         rotate_left
         ·intro w'
          go_simp
          with_reducible rfl
         rotate_left
         ·simp only [Act.put, Z1, Z2, Z3, i64_w, i32_w]
          rfl
         refine pure_ (i := 8) (N := some 165) (v := ?_) (a' := ?_) (Bz 11 0x1ef) rfl rfl (by kernel_rfl) (fun _ _ _ h => h) (Or.inl ⟨by rfl, ?_⟩) ?_ ?_
         rotate_left
         ·intro w'
          go_simp
          with_reducible rfl
         rotate_left
         ·simp only [Act.put, Z1, Z2, Z3, i64_w, i32_w]
          rfl
         refine take_ (i := 4) (N := some 161) (v := ?_) (a' := ?_) (Bz 11 0x1ff) rfl rfl (by kernel_rfl) (fun _ _ _ h => h) (Or.inl ⟨by rfl, ?_⟩) hHeld ?_ ?_
         rotate_left
         ·rintro w' ⟨s0, s1⟩
          go_simp
          with_reducible rfl
         rotate_left
         ·simp only [Act.put, Z1, Z2, Z3, i64_w, i32_w]
          rfl
         refine take_ (i := 9) (N := some 166) (v := ?_) (a' := ?_) (Bz 11 0x3ff) rfl rfl (by kernel_rfl) (fun _ _ _ h => h) (Or.inl ⟨by rfl, ?_⟩) hHeld ?_ ?_
         rotate_left
         ·rintro w' ⟨s0, s1⟩
          go_simp
          with_reducible rfl
         rotate_left
         ·simp only [Act.put, Z1, Z2, Z3, i64_w, i32_w]
          rfl
         refine pure_ (i := 10) (N := some 167) (v := ?_) (a' := ?_) (Bz 11 0x7ff) rfl rfl (by kernel_rfl) (fun _ _ _ h => h) (Or.inl ⟨by rfl, ?_⟩) ?_ ?_
         rotate_left
         ·intro w'
          go_simp
          with_reducible rfl
         rotate_left
         ·simp only [Act.put, Z1, Z2, Z3, i64_w, i32_w]
          rfl
         refine done_ (by kernel_rfl) ?_
         clear hHeld
         go_wp2
         go_roundg k3
         case measure => omega
         case rel => exact ⟨j + 1, (by first | rfl | (rw [hjw])), ⟨by have h1 := HJJ.out; omega⟩, ⟨by rw [HSTP.out]; exact ⟨HBb.out, HYb.out⟩⟩⟩
   | succ k1 =>
    have hlt : i < (l.length : Int) := by have h1 := HII.out; omega
    have q0 : decide (i < (l.length : Int)) = true := decide_eq_true hlt
    have HLT := Aside0.mk hlt
    have hiw : wrap64 (i + 1) = i + 1 := by have h1 := HII.out; have h2 := HFO.out.len; unfold wrap64; omega
    have p1 : (0 ≤ i) = True := eq_true HII.out.1
    have p2 : (i < (l.length : Int)) = True := eq_true hlt
    have HMV := Aside0.mk (show MvOk a 1 iv (rd_T34 l i) by
     obtain ⟨y, rfl⟩ : ∃ y : Nat, i = (y : Int) := ⟨i.toNat, by have h1 := HII.out; omega⟩
     rw [rd34_get l y (by omega)]
     exact HFO.out.mv y (by omega))
    obtain ⟨ad, e1, y0, y1, y2, y3, y4⟩ := at_T34 (Kd.C_below HC.out HE.out.bel) i HII.out.1 hlt
    subst e1
    obtain ⟨mv, HRD⟩ : ∃ mv, Aside0 (rd_T34 l i = mv) := ⟨_, ⟨rfl⟩⟩
    rw [HRD.out] at y0 y1 y2 y3 y4 HMV
    clear hlt
    by_cases k3 : mv.f0 = 0
    case neg =>
     have k3B : (mv.f0 == 0) = false := beq_false_of_ne k3
     have k3N : (mv.f0 != 0) = true := bne_iff_ne.mpr k3
     clear k3
     go_wp2
     go_roundg k1
     case measure => omega
     case rel => exact ⟨i + 1, L, H, hs, (by first | rfl | (rw [hiw])), ⟨by have h1 := HII.out; omega⟩, ⟨HE.out.log, HE.out.hi, HE.out.bel, HE.out.li.up (by omega), HE.out.ev, HE.out.own, HE.out.row, by have h1 := HE.out.hl; omega⟩⟩
    have k3B : (mv.f0 == 0) = true := by rw [k3]; rfl
    have k3N : (mv.f0 != 0) = false := by rw [k3]; rfl
    clear k3
    by_cases ks : mv.f1.f2 ≤ L.now
    ·have HOB := Aside0.mk (show ∀ d, L.obs mv.f1.f0.f0 mv.f1.f0.f1 mv.f1.f1 mv.f1.f2 d = (L, 0, 15) from fun d => obs_stale ks)
     clear ks
     go_wp2_with (go_at_call 15; (with_reducible refine (obs_calls B g L mv.f1.f0.f0 mv.f1.f0.f1 mv.f1.f1 mv.f1.f2 _ HE.out.log HE.out.hi HE.out.li.ok (by have h1 := HMV.out.a1; omega)).mono ?_); rintro e wd ⟨d, hp⟩; rw [HOB.out d] at hp; obtain ⟨rfl, hl, hb, hk⟩ := hp; have HLd := Aside0.mk hl; have HBd := Aside0.mk (HE.out.bel.trans (hb.mono HLO.out)); have HHd := Aside0.mk (Nat.le_trans HE.out.hi hk.size); have HRd := Aside0.mk (hk.keep _ _ _ HE.out.row (by decide) HNE.out); have HOd := Aside0.mk (by obtain ⟨v, r, f, h, _⟩ := HE.out.log; exact R32_keepL HE.out.own h hk); obtain ⟨ad9, e9, z0, z1, z2, z3, z4⟩ := at_T34 (Kd.C_below HC.out HBd.out) i HII.out.1 HLT.out; injection e9 with e9; subst e9; rw [HRD.out] at z0 z1 z2 z3 z4; clear y0 y1 y2 y3 y4 hl hb hk)
     go_roundg k1
     case measure => omega
     case rel => exact ⟨i + 1, L, H, hs, (by first | rfl | (rw [hiw])), ⟨by have h1 := HII.out; omega⟩, ⟨HLd.out, HHd.out, HBd.out, HE.out.li.up (by omega), HE.out.ev, HOd.out, HRd.out, by have h1 := HE.out.hl; omega⟩⟩
    ·have HKS := Aside0.mk (show L.now < mv.f1.f2 by omega)
     have HOB := Aside0.mk (show ∀ d, L.obs mv.f1.f0.f0 mv.f1.f0.f1 mv.f1.f1 mv.f1.f2 d = ((L.obs mv.f1.f0.f0 mv.f1.f0.f1 mv.f1.f1 mv.f1.f2 d).1, (L.obs mv.f1.f0.f0 mv.f1.f0.f1 mv.f1.f1 mv.f1.f2 d).2.1, 0) from fun d => obs_fresh HKS.out)
     clear ks
     go_wp2_with (first | (go_at_call 15; (with_reducible refine (obs_calls B g L mv.f1.f0.f0 mv.f1.f0.f1 mv.f1.f1 mv.f1.f2 _ HE.out.log HE.out.hi HE.out.li.ok (by have h1 := HMV.out.a1; omega)).mono ?_); rintro e wd ⟨d, hp⟩; rw [HOB.out d] at hp; obtain ⟨rfl, hl, hb, hk⟩ := hp; have HLd := Aside0.mk hl; have HBd := Aside0.mk (HE.out.bel.trans (hb.mono HLO.out)); have HHd := Aside0.mk (Nat.le_trans HE.out.hi hk.size); have HRd := Aside0.mk (hk.keep _ _ _ HE.out.row (by decide) HNE.out); have HOd := Aside0.mk (by obtain ⟨v, r, f, h, _⟩ := HE.out.log; exact R32_keepL HE.out.own h hk); obtain ⟨ad9, e9, z0, z1, z2, z3, z4⟩ := at_T34 (Kd.C_below HC.out HBd.out) i HII.out.1 HLT.out; injection e9 with e9; subst e9; rw [HRD.out] at z0 z1 z2 z3 z4; clear y0 y1 y2 y3 y4 hl hb hk) | (at_builtin; refine Kd.R_append k32 (w0 := wd) w.heap.size rfl (.tmp 76) (.tmp 82) 46 32 (.agg #[.int .i64 0, .int .i64 0, .int .i64 0, .int .i64 0]) 32 rfl Tryd.underlying46 info32 rfl (by decide) (by omega) vh hs mv.f1 [.int .i64 mv.f1.f0.f0, .int .i64 mv.f1.f0.f1, .int .i64 mv.f1.f1, .int .i64 mv.f1.f2] (fun _ => True) (fun _ => False) rfl rfl (k32_mkM _ _ _ mv.f1) (fun _ hk => hk.elim) (fun _ _ => trivial) HOd.out (Below.refl _ _) HBd.out.size (by have h1 := HE.out.hl; have h2 := HII.out; have h3 := HFO.out.len; omega) ?_; intro v3 w3 ho hb hg hat; have HO3 := Aside0.mk ho; have HL3 := Aside0.mk (HLd.out.grown32 HOd.out hg); have HR3 := Aside0.mk (blk_grown HRd.out hg (Kd.R_ne HOd.out HRd.out (by decide))); have HB3 := Aside0.mk (HBd.out.trans hb); have HH3 := Aside0.mk (Nat.le_trans HHd.out hb.size); clear ho hb hg hat))
     go_roundg k1
     case measure => omega
     case rel => exact ⟨i + 1, _, _, hs ++ [mv.f1], (by first | rfl | (rw [hiw])), ⟨by have h1 := HII.out; omega⟩, ⟨HL3.out, HH3.out, HB3.out, HE.out.li.obs (by have h1 := HII.out; have h2 := HFO.out.len; omega) HMV.out.a1 ⟨HMV.out.v0, HMV.out.v1, HMV.out.n0, HMV.out.n1, HMV.out.q0, HMV.out.q1⟩, HE.out.ev.obs HE.out.li.hist HE.out.li.ok HKS.out HMV.out.a1, HO3.out, HR3.out, by rw [List.length_append]; have h1 := HE.out.hl; simp only [List.length_singleton]; omega⟩⟩
def plenumlaw41_TrendEvery.f (k : Nat) (a0_0 : ByteArray) (a0_1 : ByteArray) (a0_2 : Int) (a0_3 : Int) (a0_4 : Int) (a0_5 : Int) (a1 : Int) (a2 : Int) (l3 : List (S34)) (a4 : Int) : Option (Bool) := some true
theorem plenumlaw41_TrendEvery.calls (k : Nat) (a0_0 : ByteArray) (a0_1 : ByteArray) (a0_2 : Int) (a0_3 : Int) (a0_4 : Int) (a0_5 : Int) (a1 : Int) (a2 : Int) (A3 : Option Addr) (c3 : Nat) (l3 : List (S34)) (a4 : Int) (r : Bool) (w : World) (hG : Glob w) (hr3 : Kd.C k34 w A3 l3.length l3) (hc3 : l3.length ≤ c3) (h : plenumlaw41_TrendEvery.f k a0_0 a0_1 a0_2 a0_3 a0_4 a0_5 a1 a2 l3 a4 = some r) :
  Calls Tryd.prog 4 #[.agg #[.string a0_0, .string a0_1, .int .i64 a0_2, .int .i64 a0_3, .int .i64 a0_4, .int .i64 a0_5], .int .i64 a1, .int .i64 a2, .slice A3 l3.length c3, .int .i64 a4] w fun e w' => e = .returned (.bool r) ∧ Below w.heap.size w w' := by
 injection h with h
 subst h
 exact every_walk a0_0 a0_1 a0_2 a0_3 a0_4 a0_5 a1 a2 A3 c3 l3 a4 w hG (by obtain ⟨t, ht⟩ := hG; exact blk_lt ht) hr3 hc3
end Go.Proofs.YtbccjcdmpiolpaaDoor.T
end
section
namespace Go.Proofs.YtbccjcdmpiolpaaDoor.Opn
open Go.RowKit Go.Proofs.YtbccjcdmpiolpaaDoorW.PrintWords
def Opn (P : Program) (t : TypeId) {α : Type} (d : Kd α) (V : α → Prop) : Prop :=
 ∀ (H : Type) (enc : TypeId × Value → H) (w : World) (fuel : Nat) (cs : List Value) (x : DataW H × List MemPlace),
  DataW.trod enc P w 0 (fun _ => true) true fuel t cs = some x → (∀ n ∈ DataW.weights P t x.1, n ≤ 140737488351232) → ∃ y, d.K w y cs ∧ V y
theorem opn_int {P : Program} {t : TypeId} {k : IntKind} (ht : P.underlying t = some (.int k)) : Opn P t (Kd.int k) (fun y => (Lit.int k y).wf = true) := by
 intro H enc w fuel cs x h _
 obtain ⟨n, rfl, _, hw⟩ := DataW.trod_int ht h
 exact ⟨n, rfl, hw⟩
theorem opn_string {P : Program} {t : TypeId} (ht : P.underlying t = some .string) : Opn P t Kd.string (fun y => y.size ≤ 140737488351232) := by
 intro H enc w fuel cs x h hw
 obtain ⟨s, rfl, rfl, _⟩ := DataW.trod_string ht h
 refine ⟨s, rfl, ?_⟩
 have := hw s.data.toList.length (by simp [DataW.weights])
 rw [Array.length_toList] at this
 exact this
theorem weights_all {H : Type} {P : Program} {e : TypeId} {d : DataW H} {n : Nat} (hn : n ∈ DataW.weights P e d) : ∀ {l : List (DataW H)}, d ∈ l → n ∈ DataW.weightsAll P e l
 | [], h => by simp at h
 | a :: r, h => by
  simp only [DataW.weightsAll, List.mem_append]
  rcases List.mem_cons.1 h with rfl | h
  ·exact .inl hn
  ·exact .inr (weights_all hn h)
theorem list_of {α : Type} (Q : Nat → α → Prop) : ∀ n, (∀ i, i < n → ∃ y, Q i y) → ∃ l : List α, l.length = n ∧ ∀ i y, l[i]? = some y → Q i y
 | 0, _ => ⟨[], rfl, fun i y h => by simp at h⟩
 | n + 1, h => by
  obtain ⟨l, hl, hq⟩ := list_of Q n (fun i hi => h i (by omega))
  obtain ⟨y, hy⟩ := h n (by omega)
  refine ⟨l ++ [y], by simp [hl], fun i z hz => ?_⟩
  rcases Nat.lt_or_ge i n with hi | hi
  ·rw [List.getElem?_append_left (by omega)] at hz
   exact hq i z hz
  ·have : i = n := by
    have := (List.getElem?_eq_some_iff.1 hz).1
    simp [hl] at this
    omega
   subst this
   rw [List.getElem?_append_right (by omega), hl, Nat.sub_self] at hz
   simp at hz
   subst hz
   exact hy
theorem opn_slice {P : Program} {t e : TypeId} {α : Type} {d : Kd α} {V : α → Prop} {B : Nat} (ht : P.underlying t = some (.slice e)) (hs : P.cellsOf e = d.sz) (hB : P.bytesOf e = B) (he : Opn P e d V) :
  Opn P t (Kd.slice e d) (fun xs => xs.length * B ≤ 140737488351232 ∧ ∀ x ∈ xs, V x) := by
 intro H enc w fuel cs x h hw
 rcases Go.Deep.open_slice ht h with ⟨rfl, rfl⟩ | ⟨a, len, cap, m, n, D, Pl, rfl, _, hl, hm, hmm, rfl, hi⟩
 ·exact ⟨[], ⟨none, 0, rfl, by simp, rfl, by simp, fun hn => absurd hn (by simp)⟩, by simp, by simp⟩
 have hmm' : m = cap := by simpa using hmm
 subst hmm'
 have hw' : (len + (m - len)) * B ≤ 140737488351232 := by
  have := hw ((len + (m - len)) * B) (by simp [DataW.weights, ht, hB])
  exact this
 obtain ⟨l, hlen, hq⟩ := list_of (fun i y => ∃ c, w.cells? 0 (a.add (i * P.cellsOf e)) (P.cellsOf e) = some c ∧ d.K w y c ∧ V y) len (fun i hil => by
  obtain ⟨c, hc, htr⟩ := hi i (by omega)
  obtain ⟨y, hy, hV⟩ := he H enc w n c _ htr (fun k hk => hw k (by
   simp only [DataW.weights, ht, List.mem_cons, List.mem_append]
   exact .inr (.inl (weights_all hk (List.mem_map.2 ⟨i, List.mem_range.2 hil, rfl⟩)))))
  exact ⟨y, c, hc, hy, hV⟩)
 refine ⟨l, ⟨some a, m, by rw [hlen], by omega, ?_⟩, ?_, ?_⟩
 ·refine ⟨rfl, by simp only [maxLen] at hm; omega, fun _ => ⟨a, rfl, fun j p hj => ?_⟩⟩
  obtain ⟨c, hc, hK, _⟩ := hq j p hj
  obtain ⟨_, hcl, hat⟩ := World.cells?_some hc
  refine ⟨c, by rw [hcl, hs], hK, fun i u hu => ?_⟩
  have hil : i < P.cellsOf e := by
   have := (List.getElem?_eq_some_iff.1 hu).1
   omega
  rw [← hs, ← Go.Deep.add_add, hat i hil, hu]
 ·rw [hlen]
  exact Nat.le_trans (Nat.mul_le_mul_right _ (by omega)) hw'
 ·intro y hy
  obtain ⟨i, hi2⟩ := List.mem_iff_getElem?.1 hy
  exact (hq i y hi2).elim fun c h => h.2.2
def OpnF (P : Program) (fs : List Field) {α : Type} (d : Kd α) (V : α → Prop) (o : Nat) : Prop :=
 ∀ (H : Type) (enc : TypeId × Value → H) (w : World) (n : Nat) (cs : List Value) (xs : List (DataW H × List MemPlace)),
  o + d.sz ≤ cs.length →
  (∀ (i : Nat) (f : Field), fs[i]? = some f → ∃ x, xs[i]? = some x ∧ DataW.trod enc P w 0 (fun _ => true) true n f.type ((cs.drop f.offset).take (P.cellsOf f.type)) = some x ∧ ∀ k ∈ DataW.weights P f.type x.1, k ≤ 140737488351232) →
  ∃ y, d.K w y ((cs.drop o).take d.sz) ∧ V y
theorem opn_last {P : Program} {f : Field} {α : Type} {d : Kd α} {V : α → Prop} {o : Nat} (ho : f.offset = o) (hs : P.cellsOf f.type = d.sz) (h : Opn P f.type d V) : OpnF P [f] d V o := by
 intro H enc w n cs xs _ hx
 obtain ⟨x, _, ht, hw⟩ := hx 0 f rfl
 rw [hs, ho] at ht
 exact h H enc w n _ x ht hw
theorem take_two {α : Type} (cs : List α) (o a b : Nat) : (cs.drop o).take (a + b) = (cs.drop o).take a ++ (cs.drop (o + a)).take b := by
 rw [List.take_add, List.drop_drop]
theorem opn_cons {P : Program} {f : Field} {fs : List Field} {α β : Type} {a : Kd α} {b : Kd β} {V : α → Prop} {U : β → Prop} {o : Nat} (ho : f.offset = o) (hs : P.cellsOf f.type = a.sz) (h : Opn P f.type a V) (hr : OpnF P fs b U (o + a.sz)) :
  OpnF P (f :: fs) (Kd.pair a b) (fun y => V y.1 ∧ U y.2) o := by
 intro H enc w n cs xs hl hx
 obtain ⟨x, hx0, ht, hw⟩ := hx 0 f rfl
 rw [hs, ho] at ht
 obtain ⟨y, hy, hV⟩ := h H enc w n _ x ht hw
 have hl' : o + (a.sz + b.sz) ≤ cs.length := hl
 obtain ⟨z, hz, hU⟩ := hr H enc w n cs (xs.drop 1) (by omega) (fun i g hg => by
  obtain ⟨x', h1, h2⟩ := hx (i + 1) g (by simpa using hg)
  exact ⟨x', by rw [List.getElem?_drop, Nat.add_comm]; exact h1, h2⟩)
 exact ⟨(y, z), ⟨_, _, take_two cs o a.sz b.sz, hy, hz⟩, hV, hU⟩
theorem opn_struct {P : Program} {t : TypeId} {fa : Array Field} {fs : List Field} {α β : Type} {d : Kd α} {V : α → Prop} (ht : P.underlying t = some (.struct fa)) (hf : fa.toList = fs) (hs : P.cellsOf t = d.sz) (g : β → α) (g' : α → β) (hg : ∀ y, g (g' y) = y)
  (h : OpnF P fs d V 0) : Opn P t (Kd.iso d g) (fun x => V (g x)) := by
 intro H enc w fuel cs x hx hw
 obtain ⟨xs, n, rfl, rfl, hl, hxl, hfs⟩ := DataW.trod_struct ht hx
 obtain ⟨y, hy, hV⟩ := h H enc w n cs xs (by omega) (fun i f hi => by
  have hi' : fa[i]? = some f := by rw [← hf] at hi; simpa using hi
  have hlt : i < xs.length := by
   rw [hxl]
   exact (Array.getElem?_eq_some_iff.1 hi').1
  have h1 := hfs i f hi'
  refine ⟨xs[i], List.getElem?_eq_getElem hlt, by rw [h1, List.getElem?_eq_getElem hlt], fun k hk => hw k ?_⟩
  simp only [DataW.weights, ht]
  refine DataW.weights_mem_each (j := i) (t := f.type) (d := xs[i].1) ?_ ?_ k hk
  ·rw [List.getElem?_map, hf, hi]
   rfl
  ·rw [List.getElem?_map, List.getElem?_eq_getElem hlt]
   rfl)
 refine ⟨g' y, ?_, ?_⟩
 ·show d.K w (g (g' y)) cs
  rw [hg]
  rw [List.drop_zero, ← hs, ← hl, List.take_length] at hy
  exact hy
 ·show V (g (g' y))
  rw [hg]
  exact hV
theorem arg_slice {H : Type} {enc : TypeId × Value → H} {P : Program} {t e : TypeId} {α : Type} {d : Kd α} {V : List α → Prop} {W : World} {v : Value} {x : DataW H} {ps : List MemPlace} (ho : Opn P t (Kd.slice e d) V) (a : Option Addr) (len cap : Nat) (hv : v = .slice a len cap)
  (h : DataW.Trod enc P W 0 (fun _ => true) true t v x ps) (hw : ∀ n ∈ DataW.weights P t x, n ≤ 140737488351232) : ∃ (A : Option Addr) (c : Nat) (l : List α), v = .slice A l.length c ∧ l.length ≤ c ∧ Kd.C d W A l.length l ∧ V l := by
 obtain ⟨fuel, hf⟩ := h
 obtain ⟨l, ⟨A, c, hc, hl, hC⟩, hV⟩ := ho H enc W fuel _ _ hf hw
 subst hv
 have he : Value.slice a len cap = .slice A l.length c := by simpa [Value.cells] using hc
 exact ⟨A, c, l, he, hl, hC, hV⟩
theorem arg_struct {H : Type} {enc : TypeId × Value → H} {P : Program} {t : TypeId} {α : Type} {d : Kd α} {V : α → Prop} {W : World} {v : Value} {x : DataW H} {ps : List MemPlace} (ho : Opn P t d V) (cs : Array Value) (hv : v = .agg cs)
  (h : DataW.Trod enc P W 0 (fun _ => true) true t v x ps) (hw : ∀ n ∈ DataW.weights P t x, n ≤ 140737488351232) : ∃ y, (∃ l, v = .agg l.toArray ∧ d.K W y l) ∧ V y := by
 obtain ⟨fuel, hf⟩ := h
 obtain ⟨y, hK, hV⟩ := ho H enc W fuel _ _ hf hw
 subst hv
 exact ⟨y, ⟨cs.toList, by simp, hK⟩, hV⟩
theorem arg_weights {H : Type} {P : Program} {ts : List TypeId} {ds : List (DataW H)} (h : (DataW.weightsEach P ts ds).all (· ≤ reachBytes) = true) {j : Nat} {t : TypeId} {d : DataW H} (ht : ts[j]? = some t) (hd : ds[j]? = some d) : ∀ n ∈ DataW.weights P t d, n ≤ 140737488351232 := by
 intro n hn
 have := List.all_eq_true.1 h n (DataW.weights_mem_each ht hd n hn)
 exact of_decide_eq_true this
end Go.Proofs.YtbccjcdmpiolpaaDoor.Opn
end
section
namespace Go.Proofs.YtbccjcdmpiolpaaDoor.T
open Go.RowKit Go.Proofs.YtbccjcdmpiolpaaDoorW.PrintWords Go.Proofs.YtbccjcdmpiolpaaDoor.Opn
def V23 (x : S23) : Prop := (x.f0.size ≤ 140737488351232) ∧ (x.f1.size ≤ 140737488351232) ∧ ((Lit.int .i64 x.f2).wf = true) ∧ ((Lit.int .i64 x.f3).wf = true) ∧ ((Lit.int .i64 x.f4).wf = true) ∧ ((Lit.int .i64 x.f5).wf = true)
theorem opn23 : Opn Tryd.prog 23 k23 V23 := opn_struct Tryd.underlying23 rfl (by kernel_rfl) (fun x : S23 => (x.f0, x.f1, x.f2, x.f3, x.f4, x.f5)) (fun y => (⟨y.1, y.2.1, y.2.2.1, y.2.2.2.1, y.2.2.2.2.1, y.2.2.2.2.2⟩ : S23)) (fun _ => rfl) (opn_cons rfl (by kernel_rfl) (opn_string Tryd.underlying9) (opn_cons rfl (by kernel_rfl) (opn_string Tryd.underlying9) (opn_cons rfl (by kernel_rfl) (opn_int Tryd.underlying3) (opn_cons rfl (by kernel_rfl) (opn_int Tryd.underlying3) (opn_cons rfl (by kernel_rfl) (opn_int Tryd.underlying2) (opn_last rfl (by kernel_rfl) (opn_int Tryd.underlying3)))))))
def V30 (x : S30) : Prop := ((Lit.int .i64 x.f0).wf = true) ∧ ((Lit.int .i64 x.f1).wf = true)
theorem opn30 : Opn Tryd.prog 30 k30 V30 := opn_struct Tryd.underlying30 rfl (by kernel_rfl) (fun x : S30 => (x.f0, x.f1)) (fun y => (⟨y.1, y.2⟩ : S30)) (fun _ => rfl) (opn_cons rfl (by kernel_rfl) (opn_int Tryd.underlying3) (opn_last rfl (by kernel_rfl) (opn_int Tryd.underlying2)))
def V32 (x : S32) : Prop := (V30 x.f0) ∧ ((Lit.int .i64 x.f1).wf = true) ∧ ((Lit.int .i64 x.f2).wf = true)
theorem opn32 : Opn Tryd.prog 32 k32 V32 := opn_struct Tryd.underlying32 rfl (by kernel_rfl) (fun x : S32 => (x.f0, x.f1, x.f2)) (fun y => (⟨y.1, y.2.1, y.2.2⟩ : S32)) (fun _ => rfl) (opn_cons rfl (by kernel_rfl) opn30 (opn_cons rfl (by kernel_rfl) (opn_int Tryd.underlying3) (opn_last rfl (by kernel_rfl) (opn_int Tryd.underlying3))))
def V34 (x : S34) : Prop := ((Lit.int .i64 x.f0).wf = true) ∧ (V32 x.f1)
theorem opn34 : Opn Tryd.prog 34 k34 V34 := opn_struct Tryd.underlying34 rfl (by kernel_rfl) (fun x : S34 => (x.f0, x.f1)) (fun y => (⟨y.1, y.2⟩ : S34)) (fun _ => rfl) (opn_cons rfl (by kernel_rfl) (opn_int Tryd.underlying3) (opn_last rfl (by kernel_rfl) opn32))
end Go.Proofs.YtbccjcdmpiolpaaDoor.T
end
section
namespace Go.Proofs.YtbccjcdmpiolpaaDoor.T
open Go.RowKit Go.Proofs.YtbccjcdmpiolpaaDoorW.PrintWords
def plenumlaw41_TrendEvery.Pure : Prop := ∀ (x0 : S23) (a1 : Int) (a2 : Int) (l3 : List (S34)) (a4 : Int), (V23 x0) → ((Lit.int .i64 a1).wf = true) → ((Lit.int .i64 a2).wf = true) → (l3.length * 40 ≤ 140737488351232 ∧ ∀ y ∈ l3, V34 y) → ((Lit.int .i64 a4).wf = true) → ∃ k, plenumlaw41_TrendEvery.f k x0.f0 x0.f1 x0.f2 x0.f3 x0.f4 x0.f5 a1 a2 l3 a4 = some true
end Go.Proofs.YtbccjcdmpiolpaaDoor.T
end
section
namespace Go.Proofs.YtbccjcdmpiolpaaDoor.Pure
open Go.RowKit Go.Proofs.YtbccjcdmpiolpaaDoor.T
theorem TrendEvery : plenumlaw41_TrendEvery.Pure := by
 unfold plenumlaw41_TrendEvery.Pure
 intros
 exact ⟨0, rfl⟩
end Go.Proofs.YtbccjcdmpiolpaaDoor.Pure
end
section
namespace Go.Proofs.YtbccjcdmpiolpaaDoor.trendEvery
open Go.ChangeShapes Go.WideShapes Go.ChangeAt Go.RowKit
open Go.ChangeMaps (open_string shut_string)
open Go.Proofs.YtbccjcdmpiolpaaDoor.Opn Go.Proofs.YtbccjcdmpiolpaaDoorW.PrintWords Go.Proofs.YtbccjcdmpiolpaaDoor.T
set_option linter.unusedVariables false
theorem own : ownKnob Tryd.prog.godebug = none := by kernel_rfl
theorem laidOut : laidOutB Tryd.prog = true := by kernel_rfl
set_option maxHeartbeats 2000000 in
set_option maxRecDepth 100000 in
theorem lifted (os : Os) (started : os.Started) (H : Type) (enc : TypeId × Value → H) :
  ReturnsInHanded {} Tryd.checked os 4 .any (fun w args => (Rows.trendEverySpec.pre enc Tryd.prog Tryd.f4 Rows.trendEveryRow.domain false w args ∧ laidMet Tryd.prog theLaid w) ∧ sizedMet enc Tryd.prog Tryd.f4 (OpenSpec.ofChange Rows.trendEverySpec) false w args) (Rows.trendEverySpec.post enc Tryd.prog Tryd.f4 false true false false) := by
 refine returnsInHanded_of_change_and (C := Tryd.checked) (X := fun w _ => laidMet Tryd.prog theLaid w) (fun _ _ _ hh h => h.of_heap hh) own started (by kernel_rfl) Tryd.func4
  (ChangeSpec.witness_at (enc := enc) (C := Tryd.checked) (os := os) (X := fun w _ => laidMet Tryd.prog theLaid w) false (laidWorld os) #[(.agg #[(.string ⟨#[]⟩), (.string ⟨#[]⟩), (.int .i64 0), (.int .i64 0), (.int .i64 0), (.int .i64 0)]), .int .i64 0, .int .i64 0, .slice none 0 0, .int .i64 0] 8 rfl (by kernel_rfl) (by kernel_rfl) (by kernel_rfl) (by kernel_rfl) (by kernel_rfl) (laidWorld_met os _)) ?_
 intro W base args ds gs before hval0 hW hcnd hsz0 hL0 _
 have hGl := glob_of_laid hL0
 have hsz : (DataW.weightsEach Tryd.prog (Tryd.f4.params.toList ++ Rows.trendEverySpec.plain.varTypes Tryd.prog) (ds ++ gs)).all (· ≤ reachBytes) = true := hsz0
 have hval : ∀ (j : Nat) t v, Tryd.f4.params[j]? = some t → args[j]? = some v → Value.okWide Tryd.prog W .any base t v := hval0
 have hW' := hW
 obtain ⟨p, q, hA0, hV, rfl, hfz, hnd⟩ := hW
 have hA : DataW.TrodAll enc Tryd.prog W 0 (fun _ => true) true Tryd.f4.params.toList args.toList ds p := hA0
 rw [Tryd.params4] at hA hval hsz
 obtain ⟨v0, vs0, d0, ds0, p0, q0, hargs, rfl, rfl, h0, r0⟩ := trodAll_cons hA
 obtain ⟨v1, vs1, d1, ds1, p1, q1, rfl, rfl, rfl, h1, r1⟩ := trodAll_cons r0
 obtain ⟨v2, vs2, d2, ds2, p2, q2, rfl, rfl, rfl, h2, r2⟩ := trodAll_cons r1
 obtain ⟨v3, vs3, d3, ds3, p3, q3, rfl, rfl, rfl, h3, r3⟩ := trodAll_cons r2
 obtain ⟨v4, vs4, d4, ds4, p4, q4, rfl, rfl, rfl, h4, r4⟩ := trodAll_cons r3
 obtain ⟨rfl, rfl, rfl⟩ := trodAll_nil r4
 obtain rfl : args = #[v0, v1, v2, v3, v4] := by cases args; simp_all
 obtain ⟨rfl, rfl⟩ := trodVars_none hV
 have k0 := h0
 have lt0 : ∀ x ∈ p0, x.block < W.heap.size := by obtain ⟨m, hm⟩ := k0; exact DataW.trod_lt m _ _ _ hm
 obtain ⟨cs0, hcs0, _⟩ := okWide_struct Tryd.underlying23 (hval 0 23 v0 rfl rfl)
 obtain ⟨x0, ⟨l0, hv0, hK0⟩, hV0⟩ := arg_struct opn23 cs0 hcs0 h0 (arg_weights hsz (j := 0) (t := 23) rfl rfl)
 obtain rfl := k23_open hK0
 clear hcs0
 subst hv0
 obtain ⟨a1, rfl, rfl, rfl, w1⟩ := open_int Tryd.underlying3 (hval 1 3 v1 rfl rfl) h1
 obtain ⟨a2, rfl, rfl, rfl, w2⟩ := open_int Tryd.underlying3 (hval 2 3 v2 rfl rfl) h2
 have k3 := h3
 have lt3 : ∀ x ∈ p3, x.block < W.heap.size := by obtain ⟨m, hm⟩ := k3; exact DataW.trod_lt m _ _ _ hm
 obtain ⟨b3, len3, cap3, hb3⟩ := okWide_slice Tryd.underlying24 (hval 3 24 v3 rfl rfl)
 obtain ⟨A3, c3, l3, hv3, hc3, hr3, hV3⟩ := arg_slice (opn_slice (B := 40) Tryd.underlying24 (by kernel_rfl) (by kernel_rfl) opn34) b3 len3 cap3 hb3 h3 (arg_weights hsz (j := 3) (t := 24) rfl rfl)
 clear hb3
 subst hv3
 obtain ⟨a4, rfl, rfl, rfl, w4⟩ := open_int Tryd.underlying3 (hval 4 3 v4 rfl rfl) h4
 clear hA0 hval0 hsz0 hsz
 obtain ⟨k, h⟩ := Pure.TrendEvery x0 a1 a2 l3 a4 hV0 w1 w2 hV3 w4
 refine (T.plenumlaw41_TrendEvery.calls k x0.f0 x0.f1 x0.f2 x0.f3 x0.f4 x0.f5 a1 a2 A3 c3 l3 a4 true W hGl hr3 hc3 h).mono fun e W' ⟨he, bel0⟩ => ?_
 have bel : Below W.heap.size W W' := bel0
 subst he
 exact ⟨_, rfl, _, _, _, [], _, [], hW', trodAll_mk1 (shut_bool Tryd.underlying4 _), (trodAll_cons_mk (Below.trod laidOut (by kernel_rfl) (of_decide_eq_true (by kernel_rfl)) k0 bel lt0) (trodAll_cons_mk (shut_int Tryd.underlying3 w1) (trodAll_cons_mk (shut_int Tryd.underlying3 w2) (trodAll_cons_mk (Below.trod laidOut (by kernel_rfl) (of_decide_eq_true (by kernel_rfl)) k3 bel lt3) (trodAll_cons_mk (shut_int Tryd.underlying3 w4) trodAll_mk0))))), rfl, bel.frame _, fun h => by cases h⟩
theorem over : Rows.trendEveryRow.holds Tryd.pinned (OpenSpec.ofChange Rows.trendEverySpec) :=
 OpenClaim.holds_of_wide 4 Tryd.f4 rfl rfl rfl rfl rfl rfl rfl ⟨rfl, rfl, rfl, rfl, rfl⟩ rfl rfl rfl rfl rfl (by kernel_rfl) Tryd.func4 (by kernel_rfl)
  (of_decide_eq_true (by kernel_rfl)) (by unfold Func.isWrapper; first | (rw [if_pos (by decide +kernel)]; kernel_rfl) | (rw [if_neg (by decide +kernel)]; exact ⟨rfl, rfl⟩))
  (fun os started H enc _ => lifted os started H enc)
theorem card_holds : Rows.TrendEveryCardSaid :=
 Claim7.holds_tied_plain_at .later [] [.data] true (true, "81b80afe1b1faae234c654a01e677b6be036c5dcdb6685c327ef4299df421bea") false
  over (fun _ h => by cases h) (by kernel_rfl) (fun _ h => by cases h) trendEvery_row_tie rfl ⟨rfl, rfl⟩ (by kernel_rfl) rfl
  (fun f fn hf hfn => by
   obtain rfl : f = 4 := Option.some.inj ((show Tryd.prog.funcNamed "plenum/plenumlaw41.TrendEvery" = some 4 by kernel_rfl).symm.trans hf) |>.symm
   obtain rfl : fn = Tryd.f4 := (Option.some.inj (Tryd.func4.symm.trans hfn)).symm
   exact ⟨by kernel_rfl, fun j t ht => by
    rw [Tryd.params4] at ht
    have ho : t = 3 ∨ t = 23 ∨ t = 24 := by
     rcases j with _ | _ | _ | _ | _ | j
     all_goals simp at ht
     all_goals subst ht; simp
    obtain rfl | rfl | rfl := ho
    ·exact (show Tryd.prog.wantsStandIn 3 = false by kernel_rfl)
    ·exact (show Tryd.prog.wantsStandIn 23 = false by kernel_rfl)
    ·exact (show Tryd.prog.wantsStandIn 24 = false by kernel_rfl)⟩)
  (by kernel_rfl)
#print axioms card_holds
end Go.Proofs.YtbccjcdmpiolpaaDoor.trendEvery
namespace Go.Proofs.YtbccjcdmpiolpaaDoor
theorem trendEvery_holds : Rows.TrendEveryCardSaid := trendEvery.card_holds
end Go.Proofs.YtbccjcdmpiolpaaDoor
end
